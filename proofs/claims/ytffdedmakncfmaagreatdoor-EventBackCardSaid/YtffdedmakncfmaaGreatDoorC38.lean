/- See C54. -/
import Derived.Test.YtffdedmakncfmaaGreatDoorC36
import Derived.Test.YtffdedmakncfmaaGreatDoorC37
set_option linter.all false
set_option maxRecDepth 100000
set_option maxHeartbeats 40000000
namespace Go.Proofs
open Go.Eng
open Tryz
def oY(s:afU):Bool:=s.own||match s with | .qK=>true | _=>false
theorem Dp(k:Nat)(M:Mem)(y n:Nat)(h:k<y):(((bK (fun b=>decide (b=k)) 0 M).drop y).take n).all oO=true:=
 FI _ M y n fun b Z _=>by simp;omega
theorem Ss(a b:Nat):(!decide (a≤b)|| !decide (b<a))=true:=by
 rcases Nat.lt_or_ge b a with h | h
 ·simp[Nat.not_le.2 h]
 ·simp[Nat.not_lt.2 h]
theorem fG(y:List Nat)(j:Nat)(acc:List (Nat×Rec))(r:Rec)(rest:List Rec):fu y j acc (r::rest)=(r.v.afP (fun b=>decide (b<r.nx.length))&&(dE r||(fJ y j r (j+1) rest&&(r.wr.isEmpty||(jQ y j r acc&&r.wr.all (fun b=>fg r.tm b&&(match r.nx[b]? with | some s=>s.afP (fun b=>decide (b<r.nx.length)) | none=>true))))&&
   (r.nx.drop r.mem.length).all fun s=>oY s&&s.afP (fun b=>decide (b<r.nx.length))))&&fu y (j+1) ((j,r)::acc) rest):=rfl
theorem O3(y:List Nat)(j:Nat)(acc:List (Nat×Rec)):fu y j acc []=true:=rfl
theorem Ms(f:Nat→Bool)(s:afU)(new:Mem)(M:Mem)(k:Nat):bt [k] 0 M ((bK f 0 M).set k s++new)=M.set k s++new:=by
 have Z:∀(i:Nat) (M:Mem) (k:Nat),bt [i+k] i M ((bK f i M).set k s++new)=M.set k s++new:=by
  intro i M;induction M generalizing i with
  |nil=>intro k;rfl
  |cons x M ih=>
   intro k;cases k with
   |zero=>
    have h:∀(j:Nat) (M:Mem),i<j→bt [i] j M (bK f j M++new)=M++new:=by
     intro j M X;induction M generalizing j with
     |nil=>rfl
     |cons y M ih=>simp[bK,bt,ih (j+1) (by omega),show¬j=i by omega]
    simp[bK,bt,h (i+1) M (by omega)]
   |succ k=>
    have:=ih (i+1) k;rw[show i+1+k=i+(k+1) by omega] at this;simp[bK,bt,this,show¬i=i+(k+1) by omega]
 have:=Z 0 M k
 rwa [Nat.zero_add] at this
theorem vS:((∀a,(AV.str a).known=true)∧(∀k i,(AV.int k i).known=true)∧(∀b o n c,(AV.slice b o n c).known=true)∧AV.qF.known=true∧(∀b o,(AV.ptr b o).known=true)∧(∀Z,(AV.agg Z).known=true))∧
  ((∀a,(AV.str a).cells=[.str a])∧(∀k i,(AV.int k i).cells=[.int k i])∧(∀b o n c,(AV.slice b o n c).cells=[.slice b o n c])∧AV.qF.cells=[.qF]∧(∀b o,(AV.ptr b o).cells=[.ptr b o])∧∀Z,(AV.agg Z).cells=Z)∧
  ((∀b o n c,(AV.slice b o n c).afR=true)∧(∀a,(AV.str a).afR=true)∧(∀k i,(AV.int k i).afR=true)∧(∀b,(AV.bool b).afR=true)∧AV.qF.afR=true∧∀b o,(AV.ptr b o).afR=true):=
 ⟨⟨fun _=>rfl,fun _ _=>rfl,fun _ _ _ _=>rfl,rfl,fun _ _=>rfl,fun _=>rfl⟩,⟨fun _=>rfl,fun _ _=>rfl,fun _ _ _ _=>rfl,rfl,fun _ _=>rfl,fun _=>rfl⟩,⟨fun _ _ _ _=>rfl,fun _=>rfl,fun _ _=>rfl,fun _=>rfl,rfl,fun _ _=>rfl⟩⟩
theorem rS(f:Nat→Bool):AV.qF.afP f=true∧(∀b o n c,(AV.slice b o n c).afP f=f b)∧(∀b o,(AV.ptr b o).afP f=f b)∧(∀a,(AV.str a).afP f=true)∧(∀k i,(AV.int k i).afP f=true)∧(∀b,(AV.bool b).afP f=true)∧(∀Z,(AV.agg Z).afP f=AV.afV f Z)∧(∀Z,(AV.tuple Z).afP f=AV.afV f Z)∧AV.undef.afP f=true∧
  afU.afP f .qK=true∧(∀o es Z,afU.afP f (.cells o es Z)=AV.afV f Z):=⟨rfl,fun _ _ _ _=>rfl,fun _ _=>rfl,fun _=>rfl,fun _ _=>rfl,fun _=>rfl,fun _=>rfl,fun _=>rfl,rfl,rfl,fun _ _ _=>rfl⟩
theorem mS:((∀(M X:Mem) k,(M++X)[M.length+k]? =X[k]?)∧(∀M X:Mem,(M++X)[M.length]? =X[0]?)∧(∀(M X:Mem) k s,(M++X).set (M.length+k) s=M++X.set k s)∧(∀(M X:Mem) s,(M++X).set M.length s=M++X.set 0 s)∧(∀(M X:Mem) k,(M++X).drop (M.length+k)=X.drop k)∧(∀M X:Mem,(M++X).drop M.length=X))∧
  ((∀(α:Type) (s:α) l,(s::l)[0]? =some s)∧(∀(α:Type) (s:α) l (i:Nat),(s::l)[i+1]? =l[i]?))∧((∀es U,oY (.cells true es U)=true)∧oY .qK=true)∧
  ((∀f i M,bt [] i M (bK f i M)=M)∧(∀i M,bt [] i M M=M)∧(∀f Z i M,bt [] i M (bK f i M++Z)=M++Z)∧(∀Z i M,bt [] i M (M++Z)=M++Z)∧(∀f s M k,bt [k] 0 M ((bK f 0 M).set k s)=M.set k s)∧(∀f s Z M k,bt [k] 0 M ((bK f 0 M).set k s++Z)=M.set k s++Z)∧(∀wr i M,bt wr i [] M=M)∧(∀i s s' r V,bt [] i (s::r) (s' ::V)=s::bt [] (i+1) r V)∧(∀i N X Y,bt [] i (N++X) (N++Y)=N++bt [] (i+N.length) X Y))∧
  ((∀f i M b,(bK f i M)[b]? =(M[b]?).map fun s=>if f (i+b) then s else .qK)∧(∀i M,bK (fun _=>true) i M=M)∧(∀f i M,(bK f i M).length=M.length)∧(∀M S n,(((bK (fun _=>false) 0 M).drop S).take n).all oO=true)∧(∀a b:Nat,(a≤b∧b<a)=False)∧(∀a b:Nat,(!decide (a≤b)|| !decide (b<a))=true))∧
  ((∀b o n c,dy (.slice b o n c)=[b])∧dy .qF=[])∧(∀R j acc,fu R j acc []=true):=
 ⟨⟨UC,X9,UD,WS,XR,WG⟩,⟨fun _ _ _=>rfl,fun _ _ _ _=>rfl⟩,⟨fun _ _=>rfl,rfl⟩,⟨xx,zO,Ds,zN,Mr,Ms,fun _ _ _=>rfl,xw,Dt⟩,⟨v8,FJ,FK,Pf,Pd,Ss⟩,⟨fun _ _ _ _=>rfl,rfl⟩,fun _ _ _=>rfl⟩
noncomputable def PL:Field:=bm 147 0
noncomputable def VA:Field:=bm 147 1
noncomputable def VB:Field:=bm 147 2
noncomputable def VC:Field:=bm 147 3
noncomputable def VD:Field:=bm 147 4
theorem To:PL.type=142:=by kernel_rfl
theorem Wm:bh prog 142=some ⟨.func #[68,201] #[] false,1,8,.nilFunc,true⟩:=by kernel_rfl
theorem RQ:bh prog 147=some ⟨.struct #[PL,VA,VB,VC,VD],5,40,.agg #[.nilFunc,.nilFunc,.nilFunc,.nilFunc,.nilFunc],true⟩:=by kernel_rfl
theorem OP:bh prog 180=some ⟨.array 5 147,25,200,.agg #[.nilFunc,.nilFunc,.nilFunc,.nilFunc,.nilFunc,.nilFunc,.nilFunc,.nilFunc,.nilFunc,.nilFunc,.nilFunc,.nilFunc,.nilFunc,.nilFunc,.nilFunc,.nilFunc,.nilFunc,.nilFunc,.nilFunc,.nilFunc,.nilFunc,.nilFunc,.nilFunc,.nilFunc,.nilFunc],true⟩:=by kernel_rfl
theorem RD:yu=[.func 158 [],.func 159 [],.func 160 [],.func 161 [],.func 162 [],.func 163 [],.func 164 [],.func 165 [],.func 73 [],.func 166 [],.func 167 [],.func 168 [],.func 169 [],.func 170 [],.func 171 [],.func 172 [],.func 173 [],.func 174 [],.func 175 [],.func 176 [],.func 177 [],.func 178 [],.func 179 [],.func 180 [],.func 181 []]:=by kernel_rfl
theorem Bz{v:AV}(h:v.under 8=true):v.under 11=true:=zf (by omega) h
theorem fnS:(∀f,(AV.func f []).afR=true)∧(∀f,(AV.func f []).known=true)∧(∀f,(AV.func f []).cells=[.func f []])∧(∀g f,(AV.func f []).afP g=true):=⟨fun _=>rfl,fun _=>rfl,fun _=>rfl,fun _ _=>rfl⟩
def Evc.ah4(c:Evc):Evc:={ k:=1,nm:=c.nm,B:=c.B,U:=c.U,S:=c.S }
def Evc.ah5(c:Evc):Evc:={ k:=2,nm:=c.nm,x5:=c.x5,x6:=c.x6,x7:=c.x7,x8:=c.x8,x9:=c.x9,x10:=c.x10,x11:=c.x11 }
def Evc.ah6(c:Evc):Evc:={ k:=3,nm:=c.nm,x12:=c.x12,x13:=c.x13,x14:=c.x14,K:=c.K,x16:=c.x16,x17:=c.x17,x18:=c.x18 }
def Evc.ah7(c:Evc):Evc:={ k:=4,nm:=c.nm,x19:=c.x19,x20:=c.x20,x21:=c.x21,x22:=c.x22,x23:=c.x23,x24:=c.x24 }
def Evc.ah8(c:Evc):Evc:={ k:=5,nm:=c.nm,t1:=c.t1,t2:=c.t2,t3:=c.t3,t4:=c.t4,x29:=c.x29,x30:=c.x30,x31:=c.x31 }
def Evc.kd(c:Evc)(k:Int):Evc:={ c with k:=k }
def ra(x:Bool)(b:AV):AV:=bif x then b else .qF
structure Tryz.agW (K:Int)(g g1 g2 g3 g4:FuncId)(onl:Evc→Evc)(x y:Bool):Prop where
 ne:131≠g∧132≠g∧63≠g∧133≠g
 rng:¬K<1∧¬5<K
 of:∀{N:Mem}{nm:List UInt8}{R:List AV},R.length=30→R.all AV.afR=true→∃new,dV (bh prog) (fun _=>[]) (aS prog) GU 1 63 [.agg (.int .i64 K::.str nm::R)] N=some (.agg [.func g [],.func g1 [],.func g2 [],.func g3 [],.func g4 []],N++new)
 al:∀{N:Mem}{X0 X1:afU}{c:Evc}{b u s kn:AV}(hb:b.afR=true∧u.afR=true∧s.afR=true∧kn.afR=true) (kb:(b.known=true∧b.cells=[b])∧(u.known=true∧u.cells=[u])∧(s.known=true∧s.cells=[s])∧(kn.known=true∧kn.cells=[kn])),dV (bh prog) (fun _=>[]) (aS prog) cF 1 g [.agg ((c.kd K).cells b u s kn),.ptr (N.length+2) 0] (N++[X0,X1,.cells true 0 (({ k:=K,nm:=c.nm }:Evc).cells .qF .qF .qF .qF)])=some (.tuple [],N++[X0,X1,.cells true 0 ((onl c).cells (ra x b) (ra x u) (ra x s) (ra y kn)),.cells true 0 ((c.kd K).cells b u s kn)])
theorem gB:agW 1 158 159 160 161 162 Evc.ah4 true false∧agW 2 163 164 165 73 166 Evc.ah5 false false∧agW 3 167 168 169 170 171 Evc.ah6 false true∧agW 4 172 173 174 175 176 Evc.ah7 false false∧agW 5 177 178 179 180 181 Evc.ah8 false false:=by
 have L:aS prog 63=some f63:=by kernel_rfl
 obtain⟨Z,V⟩:∃Z,aG f63=Z :=⟨_,rfl⟩
 have X :=cr V (ls:=[[0,0,2,6,15,31]]) (by kernel_rfl);simp only[aG,bQ,f63,List.nil_append,List.append_nil] at V;subst V;simp only[lB] at X;have w0:∀n:Int,n=0∨n=1∨n=2∨n=3∨n=4→IntKind.i64.wrap n=n:=fun n h=>af
 have U:=w0 0 (by simp);have S:=w0 1 (by simp);have Q:=w0 2 (by simp);have O:=w0 3 (by simp);have M:=w0 4 (by simp);have K:aS prog 158=some f158:=by kernel_rfl
 have G:aS prog 163=some f163:=by kernel_rfl
 have F:aS prog 167=some f167:=by kernel_rfl
 have h3:aS prog 172=some f172:=by kernel_rfl
 have D:aS prog 177=some f177:=by kernel_rfl
 refine⟨?_,?_,?_,?_,?_⟩<;>(
  refine⟨by decide,by decide,fun {N Y R} hl hc=>?_,fun {N W J c b u s I} hb kb=>?_⟩
  ·have C:(∀y:AV,y∈R→y.afR=true)=True:=eq_true (List.all_eq_true.1 hc)
   simp[-getElem?_pos,-AV.afR,-AV.known,-AV.cells,-dy,-bK,-bt,-aH,-AV.afP,-afU.afP,-List.all_eq_true,vS,rS,mS,bE X,dh,fG,fJ,dw,dE,jQ,bef,Nat.testBit,dV,L,f63,GU,RD,ag,fnS,RQ,OP,To,Wm,U,S,Q,O,M]
  ·obtain⟨B,o,m,j⟩:=hb
   obtain⟨⟨H,m1⟩,⟨k2,m2⟩,⟨k3,m3⟩,⟨k4,m4⟩⟩:=kb;simp[-getElem?_pos,-AV.afR,-AV.known,-AV.cells,-List.all_eq_true,vS,mS,dV,K,G,F,h3,D,f158,f163,f167,f172,f177,Evc.cells,Evc.kd,Evc.ah4,Evc.ah5,Evc.ah6,Evc.ah7,Evc.ah8,ra,B,o,m,j])
section
variable {K:Int}{g g1 g2 g3 g4:FuncId}{onl:Evc→Evc}{x y:Bool}{N:Mem}{c:Evc}{b u s kn:AV}
section
variable (h:agW K g g1 g2 g3 g4 onl x y)
include h
theorem PN{nm:List UInt8}{R:List AV}(H:R.length=30)(hc:R.all AV.afR=true):kO prog 63 [.agg (.int .i64 K::.str nm::R)] N (.agg [.func g [],.func g1 [],.func g2 [],.func g3 [],.func g4 []]) N:=by obtain⟨Z,h⟩:=h.of (N:=N) (nm:=nm) H hc;exact(dZ aj (aK _) Om (aR _) h).forget rfl
theorem NV{X0 X1:afU}(H:b.afR=true∧u.afR=true∧s.afR=true∧kn.afR=true)(I:(b.known=true∧b.cells=[b])∧(u.known=true∧u.cells=[u])∧(s.known=true∧s.cells=[s])∧(kn.known=true∧kn.cells=[kn]))(J:AV.under (N.length+3) b=true∧AV.under (N.length+3) u=true∧AV.under (N.length+3) s=true∧AV.under (N.length+3) kn=true):
  kO prog g [.agg ((c.kd K).cells b u s kn),.ptr (N.length+2) 0] (N++[X0,X1,.cells true 0 (({ k:=K,nm:=c.nm }:Evc).cells .qF .qF .qF .qF)]) (.tuple []) (N++[X0,X1,.cells true 0 ((onl c).cells (ra x b) (ra x u) (ra x s) (ra y kn))]):=by
 have X:=dZ aj (aK _) (aw _) (aR _) (h.al (N:=N) (X0:=X0) (X1:=X1) (c:=c) H I);have e:∀A B C D:afU,N++[A,B,C,D]=(N++[A,B,C])++[D]:=fun A B C D=>by simp
 rw[e] at X;refine X.ahF rfl (by simp) fun i x Z=>?_
 by_cases V:i<N.length
 ·left;rw[List.getElem?_append_left V] at Z ⊢;exact Z
 ·obtain⟨j,rfl⟩:∃j,i=N.length+j:=⟨i-N.length,by omega⟩
  rw[UC] at Z ⊢
  match j,Z with
  |0,Z=>left;exact Z
  |1,Z=>left;exact Z
  |2,Z=>
   right;refine⟨true,0,_,(Option.some.inj Z).symm,?_⟩;have U:∀(z:Bool) (v:AV),AV.under (N.length+3) v=true→AV.under (N.length+3) (ra z v)=true:=fun z v h=>by cases z;rfl;exact h
   simp[Evc.cells,AV.afX,U,J]
  |j+3,Z=>simp at Z
end
theorem Rw(H:agW K g g1 g2 g3 g4 onl x y){n0 n1 n2 n3 n4 n5 n6 n7:Nat}{Y C1 C2 C3 C4 C5 C6 C7:List AV}{pv tv:AV}(hN:N=[.cells false n0 Y,.cells false n1 C1,.cells false n2 C2,.cells false n3 C3,.cells false n4 C4,.cells false n5 C5,.cells false n6 C6,.cells false n7 C7])(hU:AV.afX 8 Y=true∧AV.afX 8 C1=true∧AV.afX 8 C2=true∧AV.afX 8 C3=true∧AV.afX 8 C4=true∧AV.afX 8 C5=true∧AV.afX 8 C6=true∧AV.afX 8 C7=true)(c1:pv.afR=true)(c2:tv.afR=true)(hb:b.afR=true∧u.afR=true∧s.afR=true∧kn.afR=true)(I:(b.known=true∧b.cells=[b])∧(u.known=true∧u.cells=[u])∧(s.known=true∧s.cells=[s])∧(kn.known=true∧kn.cells=[kn]))(J:(pv.under 8=true∧tv.under 8=true)∧b.under 8=true∧u.under 8=true∧s.under 8=true∧kn.under 8=true)(hC:∀Z,kO prog 131 [.agg [pv,tv]] (N++Z) (.int .i64 0) (N++Z))(hn:c.nm∈kW)(hE:∀Z,kO prog 133 [.agg ((onl c).cells (ra x b) (ra x u) (ra x s) (ra y kn)),.agg ((c.kd K).cells b u s kn)] (N++Z) (.bool true) (N++Z))(W:131≠g1∧132≠g1∧63≠g1∧133≠g1∧g≠g1){e:Int}(hK:∀Z,kO prog g1 [.agg [pv,tv],.agg ((c.kd K).cells b u s kn)] (N++Z) (.int .i64 e) (N++Z)):
  kO prog 83 [.agg [pv,tv],.agg ((c.kd K).cells b u s kn)] N (.int .i64 e) N:=by
 have hG:aS prog 83=some f83:=by kernel_rfl
 have Q:N.length=8:=by rw[hN];rfl
 obtain⟨L,V⟩:=xE (α:=List (FuncId×List AV×(Mem→Prop)×y9)) [(131,[.agg [pv,tv]],fun M=>∃Z,M=N++Z,⟨.int .i64 0,none,[]⟩),(132,[.str c.nm],fun _=>True,⟨.int .i64 0,none,[]⟩),(63,[.agg ((c.kd K).cells b u s kn)],fun _=>True,⟨.agg [.func g [],.func g1 [],.func g2 [],.func g3 [],.func g4 []],none,[]⟩),(133,[.agg ((onl c).cells (ra x b) (ra x u) (ra x s) (ra y kn)),.agg ((c.kd K).cells b u s kn)],fun M=>∃Z,M=N++Z,⟨.bool true,none,[]⟩),(g,[.agg ((c.kd K).cells b u s kn),.ptr 10 0],fun M=>M=N++[.cells true 0 [pv,tv],.cells true 0 ((c.kd K).cells b u s kn),.cells true 0 (({ k:=K,nm:=c.nm }:Evc).cells .qF .qF .qF .qF)],⟨.tuple [],some (N++[.cells true 0 [pv,tv],.cells true 0 ((c.kd K).cells b u s kn),.cells true 0 ((onl c).cells (ra x b) (ra x u) (ra x s) (ra y kn))]),[]⟩),(g1,[.agg [pv,tv],.agg ((c.kd K).cells b u s kn)],fun M=>∃Z,M=N++Z,⟨.int .i64 e,none,[]⟩)];have hO:qS prog (fC L):=xp fun z hz M G=>by
  rw[V] at hz;simp only[lM] at hz;rcases hz with rfl | rfl | rfl | rfl | rfl | rfl
  ·obtain⟨Z,rfl⟩:=G
   exact bG (hC Z)
  ·exact bG (gN _ hn M)
  ·refine aC ?_
   rw[List.append_nil];exact PN H (R:=((c.kd K).cells b u s kn).drop 2) rfl (by simp[Evc.cells,hb,vS,-AV.afR])
  ·obtain⟨Z,rfl⟩:=G
   exact bG (hE Z)
  ·refine⟨?_,fun q hq=>by cases hq;rw[show M=_ from G];simp⟩
   have:=NV H (N:=N) (X0:=.cells true 0 [pv,tv]) (X1:=.cells true 0 ((c.kd K).cells b u s kn)) (c:=c) hb I (by rw[Q];exact⟨Bz J.2.1,Bz J.2.2.1,Bz J.2.2.2.1,Bz J.2.2.2.2⟩);rw[Q] at this;rw[show M=_ from G];simpa [y9.mem] using this
  ·obtain⟨Z,rfl⟩:=G
   exact bG (hK Z)
 have m:∀Z,fC L (.fn 131) [.agg [pv,tv]] (N++Z)=some ⟨.int .i64 0,none,[]⟩:=fun Z=>by rw[V];exact ed ⟨Z,rfl⟩
 have j:∀M,fC L (.fn 132) [.str c.nm] (M)=some ⟨.int .i64 0,none,[]⟩:=fun M=>by rw[V,bd (.inl (by decide))];exact ed trivial
 have e3:∀M,fC L (.fn 63) [.agg ((c.kd K).cells b u s kn)] (M)=some ⟨.agg [.func g [],.func g1 [],.func g2 [],.func g3 [],.func g4 []],none,[]⟩:=fun M=>by rw[V,bd (.inl (by decide)),bd (.inl (by decide))];exact ed trivial
 have F:∀Z,fC L (.fn 133) [.agg ((onl c).cells (ra x b) (ra x u) (ra x s) (ra y kn)),.agg ((c.kd K).cells b u s kn)] (N++Z)=some ⟨.bool true,none,[]⟩:=fun Z=>by rw[V,bd (.inl (by decide)),bd (.inl (by decide)),bd (.inl (by decide))];exact ed ⟨Z,rfl⟩
 have D:fC L (.fn g) [.agg ((c.kd K).cells b u s kn),.ptr 10 0] (N++[.cells true 0 [pv,tv],.cells true 0 ((c.kd K).cells b u s kn),.cells true 0 (({ k:=K,nm:=c.nm }:Evc).cells .qF .qF .qF .qF)])=some ⟨.tuple [],some (N++[.cells true 0 [pv,tv],.cells true 0 ((c.kd K).cells b u s kn),.cells true 0 ((onl c).cells (ra x b) (ra x u) (ra x s) (ra y kn))]),[]⟩:=by rw[V,bd (.inl H.ne.1),bd (.inl H.ne.2.1),bd (.inl H.ne.2.2.1),bd (.inl H.ne.2.2.2)];exact ed rfl
 have e6:∀Z,fC L (.fn g1) [.agg [pv,tv],.agg ((c.kd K).cells b u s kn)] (N++Z)=some ⟨.int .i64 e,none,[]⟩:=fun Z=>by rw[V,bd (.inl W.1),bd (.inl W.2.1),bd (.inl W.2.2.1),bd (.inl W.2.2.2.1),bd (.inl W.2.2.2.2)];exact ed ⟨Z,rfl⟩
 obtain⟨O,U⟩:=xE (fC L);rw[←U] at hO D;simp only[←U] at m j e3 F e6;clear U V;have X:∀(z:Bool) (v:AV),v.afR=true→(v.known=true∧v.cells=[v])→v.under 8=true→∃S,ra z v=S ∧S.afR=true∧(S.known=true∧S.cells=[S])∧S.under 8=true:=fun z v h1 h2 h3=>by
  cases z
  ·exact⟨_,rfl,rfl,⟨rfl,rfl⟩,rfl⟩
  ·exact⟨_,rfl,h1,h2,h3⟩
 obtain⟨b1,b2,b3,b4⟩:=hb;obtain⟨⟨q5,q6⟩,q1,q2,q3,q4⟩:=J;obtain⟨z1,s1,t1,⟨v1,x1⟩,y1⟩:=X x b b1 I.1 q1;obtain⟨z2,s2,t2,⟨v2,x2⟩,y2⟩:=X x u b2 I.2.1 q2;obtain⟨z3,s3,t3,⟨v3,x3⟩,y3⟩:=X x s b3 I.2.2.1 q3;obtain⟨z4,s4,t4,⟨v4,x4⟩,y4⟩:=X y kn b4 I.2.2.2 q4;rw[s1,s2,s3,s4] at D;simp only[s1,s2,s3,s4] at F;obtain⟨⟨k1,m1⟩,⟨k2,m2⟩,⟨k3,m3⟩,⟨k4,m4⟩⟩:=I;subst hN;simp only[List.cons_append,List.nil_append] at m j e3 F D e6;obtain⟨C,D'⟩:∃C,aG f83=C :=⟨_,rfl⟩
 have B :=cr D' (ls:=[[0,1,3,0,15],[0,1,3,0,0,31,63]]) (by kernel_rfl);simp only[aG,bQ,f83,lA] at D';subst D';simp only[lB] at B;obtain⟨S',hb1⟩:=B;obtain⟨u0,u1,u2,u3,u4,u5,u6,u7⟩:=hU;have f0:=(gf u0).2;have f1:=(gf u1).2;have f2:=(gf u2).2;have f3:=(gf u3).2;have f4:=(gf u4).2;have f5:=(gf u5).2;have f6:=(gf u6).2;have f7:=(gf u7).2;have r1:=(fH q1).2;have r2:=(fH q2).2;have r3:=(fH q3).2;have r4:=(fH q4).2;have r5:=(fH q5).2;have r6:=(fH q6).2;have p1:=(fH y1).2;have p2:=(fH y2).2;have p3:=(fH y3).2;have p4:=(fH y4).2;have a0:dH [0,1,3,0,15] 4=true:=by decide
 have a1:dH [0,1,3,0,0,31,63] 6=true:=by decide
 have h:∃o,dV (bh prog) (fun _=>[]) (aS prog) O 1 83 [.agg [pv,tv],.agg ((c.kd K).cells b u s kn)] [.cells false n0 Y,.cells false n1 C1,.cells false n2 C2,.cells false n3 C3,.cells false n4 C4,.cells false n5 C5,.cells false n6 C6,.cells false n7 C7]=some (.int .i64 e,[.cells false n0 Y,.cells false n1 C1,.cells false n2 C2,.cells false n3 C3,.cells false n4 C4,.cells false n5 C5,.cells false n6 C6,.cells false n7 C7]++o):=by obtain⟨kr1,kr2⟩:=H.rng;clear hO hE hC hK H;simp only[Evc.cells,Evc.kd] at m j e3 F D e6 ⊢;simp[ee,-AV.afR,-AV.known,-AV.cells,-aH,-AV.afP,-List.all_eq_true,vS,rS,fnS,ak S',ak hb1,be,aV,aX,a0,a1,Nat.testBit,-mV,KY,KZ,bN,aF,dV,hG,f83,m,j,e3,F,D,e6,kr1,kr2,f0,f1,f2,f3,f4,f5,f6,f7,r1,r2,r3,r4,r5,r6,p1,p2,p3,p4]
 obtain⟨o,h⟩:=h;exact(dZ aj (aK _) hO (aR _) h).forget rfl
end
variable{C:List AV}{N:Mem}{es n:Nat}{v:AV}
theorem af0.agG(h:af0 N v es n C)(y:n=0):v=.qF:=by
 rcases h with⟨h,_,_⟩ | ⟨_,_,_,h,_⟩
 ·exact h
 ·omega
theorem af0.pos(h:af0 N v es n C)(y:0<n):∃b o,v=.slice b 0 n none∧N[b]? =some (.cells o es C):=by
 rcases h with⟨_,h,_⟩ | ⟨b,o,Z,_,X⟩
 ·omega
 ·exact⟨b,o,Z,X⟩
variable{S:List (List (List UInt8))}
theorem ahb.agG(h:ahb N v S)(hS:S=[]):v=.qF:=by obtain⟨Z,_,h,_⟩:=h;exact h.agG (by rw[hS];rfl)
theorem af0.ck(h:af0 N v es n C):v.afR=true:=by rcases h with⟨rfl,_⟩ | ⟨b,o,rfl,_⟩<;>rfl
variable{c:Evc}{e:List AV}
theorem agL.flat(h:agL N e c)(h1:c.B.length=0)(h2:c.U.length=0)(h3:c.S=[])(h4:c.K.length=0):e=c.cells .qF .qF .qF .qF:=by obtain⟨b,u,Q,O,rfl,Z,X,V,R⟩:=h;obtain rfl:=Z.agG h1;obtain rfl:=X.agG h2;obtain rfl:=V.agG h3;obtain rfl:=R.agG h4;rfl
theorem agL.l32(h:agL N e c):e.length=32:=by obtain⟨b,u,s,Z,rfl,_⟩:=h;rfl
theorem agL.cok(h:agL N e c):∀x∈e,x.afR=true:=by obtain⟨b,u,s,R,rfl,X,V,⟨_,_,h3,_⟩,U⟩:=h;intro x Z;simp only[Evc.cells,lM] at Z;rcases Z with rfl | rfl | rfl | rfl | rfl | rfl | rfl | rfl | rfl | rfl | rfl | rfl | rfl | rfl | rfl | rfl | rfl | rfl | rfl | rfl | rfl | rfl | rfl | rfl | rfl | rfl | rfl | rfl | rfl | rfl | rfl | rfl<;>first | rfl | exact X.ck | exact V.ck | exact h3.ck | exact U.ck
def sl8(j n:Nat):AV:=if n=0 then .qF else .slice j 0 n none
theorem zX(j n:Nat):(sl8 j n).afR=true∧((sl8 j n).known=true∧(sl8 j n).cells=[sl8 j n]):=by unfold sl8;split<;>exact⟨rfl,rfl,rfl⟩
variable{j:Nat}
theorem kS(y:j<8):(sl8 j n).under 8=true:=by
 unfold sl8;split
 ·rfl
 ·simp only[AV.under,decide_eq_true_eq];exact y
variable{D0:List AV}{M:Mem}{e0 p:Nat}{o:Bool}{x:AV}
theorem uc(h:af0 M x es n C)(y:AV.afT C=true)(H:M[p]? =some (.cells o e0 D0))(h0:AV.afT D0=true):
  ∃k e D,(∃o,M[k]? =some (.cells o e D))∧AV.afT D=true∧((x=.qF∧n=0∧C=[])∨(x=.slice k 0 n none∧0<n∧e=es∧D=C)):=by
 rcases h with⟨Z,X,h3⟩ | ⟨b,V,Z,X,h3⟩
 ·exact⟨p,e0,D0,⟨o,H⟩,h0,.inl ⟨Z,X,h3⟩⟩
 ·exact⟨b,es,C,⟨V,h3⟩,y,.inr ⟨Z,X,rfl,rfl⟩⟩
variable{D:List AV}{k:Nat}
theorem oZ{m:Mem}{e:Nat}(h:(x=.qF∧n=0∧C=[])∨(x=.slice k 0 n none∧0<n∧e=es∧D=C))(y:m[j]? =some (.cells false e D)):af0 m (sl8 j n) es n C:=by
 rcases h with⟨_,Z,h3⟩ | ⟨_,Z,rfl,rfl⟩
 ·subst Z;exact .inl ⟨rfl,rfl,h3⟩
 ·exact .inr ⟨j,false,by unfold sl8;rw[if_neg (by omega)],Z,y⟩
theorem zc{e:Nat}{ks:List Nat}{L:Nat}(h:(x=.qF∧n=0∧C=[])∨(x=.slice k 0 n none∧0<n∧e=es∧D=C))(y:j<ks.length)(hk:ks.getD j 0=k):(sl8 j n).ren (fj ks L)=x:=by
 rcases h with⟨Z,X,_⟩ | ⟨Z,X,_⟩
 ·subst X;rw[Z];rfl
 ·unfold sl8;rw[if_neg (by omega),Z];simp only[AV.ren,fj,y,if_true,hk]
theorem Yg(h:ahb M v S)(hS:S.length≤2)(y:M[p]? =some (.cells o e0 D0))(h0:AV.afT D0=true):
  ∃O e5 H B K G U J I u,(∃o,M[O]? =some (.cells o e5 B))∧((∃o,M[K]? =some (.cells o G U))∧AV.afT U=true)∧((∃o,M[J]? =some (.cells o I u))∧AV.afT u=true)∧AV.afX 8 H=true∧
   (∀(ks:List Nat) L,ks.length=8→ks.getD 6 0=K→ks.getD 7 0=J→∀(j:Nat) w,H[j]? =some w→B[j]? =some (w.ren (fj ks L)))∧
   (∀(ks:List Nat) L,ks.length=8→ks.getD 5 0=O→(sl8 5 S.length).ren (fj ks L)=v)∧
   ∀m:Mem,m[5]? =some (.cells false e5 H)→m[6]? =some (.cells false G U)→m[7]? =some (.cells false I u)→ahb m (sl8 5 S.length) S:=by
 obtain⟨vs,F,hv,hr⟩:=h
 match S,hS,F with
 | [],_,F=>
  have hvn:=hv.agG rfl;refine⟨p,e0,D0,D0,p,e0,D0,p,e0,D0,⟨o,y⟩,⟨⟨o,y⟩,h0⟩,⟨⟨o,y⟩,h0⟩,bl h0,fun ks L _ _ _ j w Z=>?_,fun ks L _ _=>hvn.symm,fun m _ _ _=>⟨[],rfl,.inl ⟨rfl,rfl,rfl⟩,fun i x L h=>by simp at h⟩⟩;have:=aO (ρ:=fj ks L) h0;rw[jf] at this;have h2:(D0.map (AV.ren (fj ks L)))[j]? =D0[j]? :=by rw[this]
  rw[List.getElem?_map,Z] at h2;rw[Z];exact h2.symm
 | [L1],_,F=>
  match vs,F with
  | [x1],_=>
   obtain⟨O,o5,rfl,h5⟩:=hv.pos (by simp);obtain⟨K,G,U,h6,c6,Y⟩:=uc (hr 0 x1 L1 rfl rfl) (dX L1) y h0;refine⟨O,1,[sl8 6 L1.length],[x1],K,G,U,p,e0,D0,⟨o5,h5⟩,⟨h6,c6⟩,⟨⟨o,y⟩,h0⟩,by simp only[AV.afX,kS (show 6<8 by omega),Bool.and_self],fun ks L W R _ j w Z=>?_,fun ks L W Q =>?_,fun m m5 m6 m7=>⟨[sl8 6 L1.length],rfl,.inr ⟨5,false,rfl,by simp,m5⟩,fun i x L X V=>?_⟩⟩
   ·match j,Z with
    |0,Z=>cases Z;rw[zc Y (by omega) R];rfl
    |j+1,Z=>simp at Z
   ·show(AV.slice 5 0 1 none).ren (fj ks L)=_
    simp only[AV.ren,fj,W,Q];rfl
   ·match i,X,V with
    |0,X,V=>cases X;cases V;exact oZ Y m6
    |i+1,X,_=>simp at X
 | [L1,L2],_,F=>
  match vs,F with
  | [x1,x2],_=>
   obtain⟨O,o5,rfl,h5⟩:=hv.pos (by simp);obtain⟨K,G,U,h6,c6,Y⟩:=uc (hr 0 x1 L1 rfl rfl) (dX L1) y h0;obtain⟨J,I,u,h7,c7,g7⟩:=uc (hr 1 x2 L2 rfl rfl) (dX L2) y h0;refine⟨O,1,[sl8 6 L1.length,sl8 7 L2.length],[x1,x2],K,G,U,J,I,u,⟨o5,h5⟩,⟨h6,c6⟩,⟨h7,c7⟩,by simp only[AV.afX,kS (show 6<8 by omega),kS (show 7<8 by omega),Bool.and_self],fun ks L W R h7' j w Z=>?_,fun ks L W Q =>?_,fun m m5 m6 m7=>⟨[sl8 6 L1.length,sl8 7 L2.length],rfl,.inr ⟨5,false,rfl,by simp,m5⟩,fun i x L X V=>?_⟩⟩
   ·match j,Z with
    |0,Z=>cases Z;rw[zc Y (by omega) R];rfl
    |1,Z=>cases Z;rw[zc g7 (by omega) h7'];rfl
    |j+2,Z=>simp at Z
   ·show(AV.slice 5 0 2 none).ren (fj ks L)=_
    simp only[AV.ren,fj,W,Q];rfl
   ·match i,X,V with
    |0,X,V=>cases X;cases V;exact oZ Y m6
    |1,X,V=>cases X;cases V;exact oZ g7 m7
    |i+2,X,_=>simp at X
theorem Rz{s:af1}{t:Nat}{d:Evc}{b u sv J:AV}{e:Int}(y:∃o,M[p]? =some (.cells o 2 (pC s.P)))(H:∃o,M[t]? =some (.cells o 3 (tC s.T)))(I:c.Ok)(hE:agL M (c.cells b u sv J) c)(hS:∀(n2 n3 n4 n5 n6 n7:Nat)(C2 C3 C4 C5 C6 C7:List AV)(m:Mem),m=[.cells false 2 (pC s.P),.cells false 3 (tC s.T),.cells false n2 C2,.cells false n3 C3,.cells false n4 C4,.cells false n5 C5,.cells false n6 C6,.cells false n7 C7]→(AV.afX 8 (pC s.P)=true∧AV.afX 8 (tC s.T)=true∧AV.afX 8 C2=true∧AV.afX 8 C3=true∧AV.afX 8 C4=true∧AV.afX 8 C5=true∧AV.afX 8 C6=true∧AV.afX 8 C7=true)→
   agL m (c.cells (sl8 2 c.B.length) (sl8 3 c.U.length) (sl8 5 c.S.length) (sl8 4 c.K.length)) c→kO prog 83 [.agg [.slice 0 0 s.P.length none,.slice 1 0 s.T.length none],.agg (d.cells (sl8 2 c.B.length) (sl8 3 c.U.length) (sl8 5 c.S.length) (sl8 4 c.K.length))] m (.int .i64 e) m):
  kO prog 83 [.agg [.slice p 0 s.P.length none,.slice t 0 s.T.length none],.agg (d.cells b u sv J)] M (.int .i64 e) M:=by
 obtain⟨o,y⟩:=y;obtain⟨o',H⟩:=H;obtain⟨b',u',s',kn',eq,h1,h2,h3,h4⟩:=hE;simp only[Evc.cells,List.cons.injEq,true_and,and_true] at eq;obtain⟨rfl,rfl,rfl,rfl⟩:=eq;obtain⟨V,e2,D2,⟨o2,m2⟩,c2,g2⟩:=uc h1 (dX _) y (ez _);obtain⟨R,e3,D3,⟨o3,m3⟩,c3,g3⟩:=uc h2 (dX _) y (ez _);obtain⟨Q,e4,D4,⟨o4,m4⟩,c4,g4⟩:=uc h4 (iI _) y (ez _);obtain⟨O,e5,D5,Y,G,e6,D6,F,e7,D7,⟨o5,m5⟩,⟨⟨o6,m6⟩,c6⟩,⟨⟨o7,m7⟩,c7⟩,u5,r5,rv,f5⟩:=Yg h3 I.S y (ez _);obtain⟨m,X⟩:=xE (α:=Mem) [.cells false 2 (pC s.P),.cells false 3 (tC s.T),.cells false e2 D2,.cells false e3 D3,.cells false e4 D4,.cells false e5 D5,.cells false e6 D6,.cells false e7 D7];have W:agL m (c.cells (sl8 2 c.B.length) (sl8 3 c.U.length) (sl8 5 c.S.length) (sl8 4 c.K.length)) c:=
  ⟨_,_,_,_,rfl,oZ g2 (by rw[X];rfl),oZ g3 (by rw[X];rfl),f5 m (by rw[X];rfl) (by rw[X];rfl) (by rw[X];rfl),oZ g4 (by rw[X];rfl)⟩
 have h:=hS e2 e3 e4 e5 e6 e7 D2 D3 D4 D5 D6 D7 m X ⟨bl (ez _),bl (ig _),bl c2,bl c3,bl c4,u5,bl c6,bl c7⟩ W;have:=kO.frame (M:=M) (new:=[]) (args:=[.agg [.slice 0 0 s.P.length none,.slice 1 0 s.T.length none],.agg (d.cells (sl8 2 c.B.length) (sl8 3 c.U.length) (sl8 5 c.S.length) (sl8 4 c.K.length))]) [p,t,V,R,Q,O,G,F] (m:=m) (by rw[X];rfl) (by
  intro k hk;simp only[lM] at hk;rcases hk with rfl | rfl | rfl | rfl | rfl | rfl | rfl | rfl
  ·exact fT y
  ·exact fT H
  ·exact fT m2
  ·exact fT m3
  ·exact fT m4
  ·exact fT m5
  ·exact fT m6
  ·exact fT m7) (by simp[AV.afX,AV.under,Evc.cells,kS]) (fun i x Z=>by
  subst X
  match i,Z with
  |0,Z=>cases Z;exact cW (ez _) y List.take_length
  |1,Z=>cases Z;exact cW (ig _) H List.take_length
  |2,Z=>cases Z;exact cW c2 m2 List.take_length
  |3,Z=>cases Z;exact cW c3 m3 List.take_length
  |4,Z=>cases Z;exact cW c4 m4 List.take_length
  |5,Z=>cases Z;exact⟨u5,o5,Y,m5,r5 _ _ rfl rfl rfl⟩
  |6,Z=>cases Z;exact cW c6 m6 List.take_length
  |7,Z=>cases Z;exact cW c7 m7 List.take_length
  |i+8,Z=>simp at Z) rfl (by simpa using h)
 have q2:=zc (j:=2) (ks:=[p,t,V,R,Q,O,G,F]) (L:=M.length) g2 (by simp) rfl;have q3:=zc (j:=3) (ks:=[p,t,V,R,Q,O,G,F]) (L:=M.length) g3 (by simp) rfl;have q4:=zc (j:=4) (ks:=[p,t,V,R,Q,O,G,F]) (L:=M.length) g4 (by simp) rfl;have q5:=rv [p,t,V,R,Q,O,G,F] M.length rfl rfl;simp only[AV.af9,AV.ren,Evc.cells,q2,q3,q4,q5,List.map_nil,List.append_nil] at this;simpa [fj,Evc.cells] using this
end Go.Proofs
