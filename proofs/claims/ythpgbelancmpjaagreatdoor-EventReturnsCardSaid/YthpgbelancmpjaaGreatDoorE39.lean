/- See E54. -/
import Derived.Test.YthpgbelancmpjaaGreatDoorE37
import Derived.Test.YthpgbelancmpjaaGreatDoorE38
set_option linter.all false
set_option maxRecDepth 100000
set_option maxHeartbeats 40000000
namespace Go.Proofs
open Go.Eng
open Tryz
def jW(s:aek):Bool:=s.own||match s with | .qK=>true | _=>false
theorem P5(a b:Nat):(!decide (a≤b)|| !decide (b<a))=true:=by
 rcases Nat.lt_or_ge b a with h | h
 ·simp[Nat.not_le.2 h]
 ·simp[Nat.not_lt.2 h]
theorem du(H:List Nat)(j:Nat)(acc:List (Nat×Rec))(r:Rec)(rest:List Rec):ff H j acc (r::rest)=(r.v.aef (fun b=>decide (b<r.nx.length))&&(cM r||(ef H j r (j+1) rest&&(r.wr.isEmpty||(gQ H j r acc&&r.wr.all (fun b=>fg r.tm b&&(match r.nx[b]? with | some s=>s.aef (fun b=>decide (b<r.nx.length)) | none=>true))))&&
   (r.nx.drop r.mem.length).all fun s=>jW s&&s.aef (fun b=>decide (b<r.nx.length))))&&ff H (j+1) ((j,r)::acc) rest):=rfl
theorem oP(H:List Nat)(j:Nat)(acc:List (Nat×Rec)):ff H j acc []=true:=rfl
theorem Kr(f:Nat→Bool)(s:aek)(new:Mem)(M:Mem)(k:Nat):bn [k] 0 M ((bG f 0 M).set k s++new)=M.set k s++new:=by
 have Z:∀(i:Nat) (M:Mem) (k:Nat),bn [i+k] i M ((bG f i M).set k s++new)=M.set k s++new:=by
  intro i M;induction M generalizing i with
  |nil=>intro k;rfl
  |cons x M ih=>
   intro k;cases k with
   |zero=>
    have h:∀(j:Nat) (M:Mem),i<j→bn [i] j M (bG f j M++new)=M++new:=by
     intro j M X;induction M generalizing j with
     |nil=>rfl
     |cons y M ih=>simp[bG,bn,ih (j+1) (by omega),show¬j=i by omega]
    simp[bG,bn,h (i+1) M (by omega)]
   |succ k=>
    have:=ih (i+1) k;rw[show i+1+k=i+(k+1) by omega] at this;simp[bG,bn,this,show¬i=i+(k+1) by omega]
 have:=Z 0 M k
 rwa [Nat.zero_add] at this
theorem vS:((∀a,(AV.str a).known=true)∧(∀k i,(AV.int k i).known=true)∧(∀b o n c,(AV.slice b o n c).known=true)∧AV.qF.known=true∧(∀b o,(AV.ptr b o).known=true)∧(∀Z,(AV.agg Z).known=true))∧
  ((∀a,(AV.str a).cells=[.str a])∧(∀k i,(AV.int k i).cells=[.int k i])∧(∀b o n c,(AV.slice b o n c).cells=[.slice b o n c])∧AV.qF.cells=[.qF]∧(∀b o,(AV.ptr b o).cells=[.ptr b o])∧∀Z,(AV.agg Z).cells=Z)∧
  ((∀b o n c,(AV.slice b o n c).aei=true)∧(∀a,(AV.str a).aei=true)∧(∀k i,(AV.int k i).aei=true)∧(∀b,(AV.bool b).aei=true)∧AV.qF.aei=true∧∀b o,(AV.ptr b o).aei=true):=
 ⟨⟨fun _=>rfl,fun _ _=>rfl,fun _ _ _ _=>rfl,rfl,fun _ _=>rfl,fun _=>rfl⟩,⟨fun _=>rfl,fun _ _=>rfl,fun _ _ _ _=>rfl,rfl,fun _ _=>rfl,fun _=>rfl⟩,⟨fun _ _ _ _=>rfl,fun _=>rfl,fun _ _=>rfl,fun _=>rfl,rfl,fun _ _=>rfl⟩⟩
theorem rS(f:Nat→Bool):AV.qF.aef f=true∧(∀b o n c,(AV.slice b o n c).aef f=f b)∧(∀b o,(AV.ptr b o).aef f=f b)∧(∀a,(AV.str a).aef f=true)∧(∀k i,(AV.int k i).aef f=true)∧(∀b,(AV.bool b).aef f=true)∧(∀Z,(AV.agg Z).aef f=AV.ael f Z)∧(∀Z,(AV.tuple Z).aef f=AV.ael f Z)∧AV.undef.aef f=true∧
  aek.aef f .qK=true∧(∀o es Z,aek.aef f (.cells o es Z)=AV.ael f Z):=⟨rfl,fun _ _ _ _=>rfl,fun _ _=>rfl,fun _=>rfl,fun _ _=>rfl,fun _=>rfl,fun _=>rfl,fun _=>rfl,rfl,rfl,fun _ _ _=>rfl⟩
theorem mS:((∀(M X:Mem) k,(M++X)[M.length+k]? =X[k]?)∧(∀M X:Mem,(M++X)[M.length]? =X[0]?)∧(∀(M X:Mem) k s,(M++X).set (M.length+k) s=M++X.set k s)∧(∀(M X:Mem) s,(M++X).set M.length s=M++X.set 0 s)∧(∀(M X:Mem) k,(M++X).drop (M.length+k)=X.drop k)∧(∀M X:Mem,(M++X).drop M.length=X))∧
  ((∀(α:Type) (s:α) l,(s::l)[0]? =some s)∧(∀(α:Type) (s:α) l (i:Nat),(s::l)[i+1]? =l[i]?))∧((∀es U,jW (.cells true es U)=true)∧jW .qK=true)∧
  ((∀f i M,bn [] i M (bG f i M)=M)∧(∀i M,bn [] i M M=M)∧(∀f Z i M,bn [] i M (bG f i M++Z)=M++Z)∧(∀Z i M,bn [] i M (M++Z)=M++Z)∧(∀f s M k,bn [k] 0 M ((bG f 0 M).set k s)=M.set k s)∧(∀f s Z M k,bn [k] 0 M ((bG f 0 M).set k s++Z)=M.set k s++Z)∧(∀wr i M,bn wr i [] M=M)∧(∀i s s' r V,bn [] i (s::r) (s' ::V)=s::bn [] (i+1) r V)∧(∀i N X Y,bn [] i (N++X) (N++Y)=N++bn [] (i+N.length) X Y))∧
  ((∀f i M b,(bG f i M)[b]? =(M[b]?).map fun s=>if f (i+b) then s else .qK)∧(∀i M,bG (fun _=>true) i M=M)∧(∀f i M,(bG f i M).length=M.length)∧(∀M S n,(((bG (fun _=>false) 0 M).drop S).take n).all oU=true)∧(∀a b:Nat,(a≤b∧b<a)=False)∧(∀a b:Nat,(!decide (a≤b)|| !decide (b<a))=true))∧
  ((∀b o n c,ee (.slice b o n c)=[b])∧ee .qF=[])∧(∀R j acc,ff R j acc []=true):=
 ⟨⟨BO,xJ,FY,UF,VK,Um⟩,⟨fun _ _ _=>rfl,fun _ _ _ _=>rfl⟩,⟨fun _ _=>rfl,rfl⟩,⟨vU,yJ,BP,yI,Kq,Kr,fun _ _ _=>rfl,vT,BQ⟩,⟨uz,DS,DT,M6,M4,P5⟩,⟨fun _ _ _ _=>rfl,rfl⟩,fun _ _ _=>rfl⟩
noncomputable def NA:Field:=aY 125 0
noncomputable def Tp:Field:=aY 125 1
noncomputable def Tq:Field:=aY 125 2
noncomputable def Ts:Field:=aY 125 3
noncomputable def Tt:Field:=aY 125 4
theorem QP:NA.type=123:=by kernel_rfl
theorem Ua:aV prog 123=some ⟨.func #[68,154] #[] false,1,8,.nilFunc,true⟩:=by kernel_rfl
theorem Pv:aV prog 125=some ⟨.struct #[NA,Tp,Tq,Ts,Tt],5,40,.agg #[.nilFunc,.nilFunc,.nilFunc,.nilFunc,.nilFunc],true⟩:=by kernel_rfl
theorem MI:aV prog 179=some ⟨.array 5 125,25,200,.agg #[.nilFunc,.nilFunc,.nilFunc,.nilFunc,.nilFunc,.nilFunc,.nilFunc,.nilFunc,.nilFunc,.nilFunc,.nilFunc,.nilFunc,.nilFunc,.nilFunc,.nilFunc,.nilFunc,.nilFunc,.nilFunc,.nilFunc,.nilFunc,.nilFunc,.nilFunc,.nilFunc,.nilFunc,.nilFunc],true⟩:=by kernel_rfl
theorem Pc:w9=[.func 154 [],.func 155 [],.func 156 [],.func 157 [],.func 158 [],.func 159 [],.func 160 [],.func 161 [],.func 111 [],.func 162 [],.func 163 [],.func 164 [],.func 165 [],.func 166 [],.func 167 [],.func 168 [],.func 169 [],.func 170 [],.func 171 [],.func 172 [],.func 173 [],.func 174 [],.func 175 [],.func 176 [],.func 177 []]:=by kernel_rfl
theorem Ah{v:AV}(h:v.under 8=true):v.under 11=true:=xT (by omega) h
theorem fnS:(∀f,(AV.func f []).aei=true)∧(∀f,(AV.func f []).known=true)∧(∀f,(AV.func f []).cells=[.func f []])∧(∀g f,(AV.func f []).aef g=true):=⟨fun _=>rfl,fun _=>rfl,fun _=>rfl,fun _ _=>rfl⟩
def Evc.agu(c:Evc):Evc:={ k:=1,nm:=c.nm,B:=c.B,U:=c.U,S:=c.S }
def Evc.agv(c:Evc):Evc:={ k:=2,nm:=c.nm,x5:=c.x5,x6:=c.x6,x7:=c.x7,x8:=c.x8,x9:=c.x9,x10:=c.x10,x11:=c.x11 }
def Evc.agw(c:Evc):Evc:={ k:=3,nm:=c.nm,x12:=c.x12,x13:=c.x13,x14:=c.x14,K:=c.K,x16:=c.x16,x17:=c.x17,x18:=c.x18 }
def Evc.agx(c:Evc):Evc:={ k:=4,nm:=c.nm,x19:=c.x19,x20:=c.x20,x21:=c.x21,x22:=c.x22,x23:=c.x23,x24:=c.x24 }
def Evc.agy(c:Evc):Evc:={ k:=5,nm:=c.nm,t1:=c.t1,t2:=c.t2,t3:=c.t3,t4:=c.t4,x29:=c.x29,x30:=c.x30,x31:=c.x31 }
def Evc.kd(c:Evc)(k:Int):Evc:={ c with k:=k }
def pV(x:Bool)(b:AV):AV:=bif x then b else .qF
structure Tryz.afi (K:Int)(g g1 g2 g3 g4:FuncId)(onl:Evc→Evc)(x y:Bool):Prop where
 ne:46≠g∧71≠g∧44≠g∧26≠g
 rng:¬K<1∧¬5<K
 of:∀{N:Mem}{nm:List UInt8}{R:List AV},R.length=30→R.all AV.aei=true→∃new,cJ (aV prog) (fun _=>[]) (aT prog) Fe 1 44 [.agg (.int .i64 K::.str nm::R)] N=some (.agg [.func g [],.func g1 [],.func g2 [],.func g3 [],.func g4 []],N++new)
 al:∀{N:Mem}{X0 X1:aek}{c:Evc}{b u s kn:AV}(hb:b.aei=true∧u.aei=true∧s.aei=true∧kn.aei=true) (kb:(b.known=true∧b.cells=[b])∧(u.known=true∧u.cells=[u])∧(s.known=true∧s.cells=[s])∧(kn.known=true∧kn.cells=[kn])),cJ (aV prog) (fun _=>[]) (aT prog) cu 1 g [.agg ((c.kd K).cells b u s kn),.ptr (N.length+2) 0] (N++[X0,X1,.cells true 0 (({ k:=K,nm:=c.nm }:Evc).cells .qF .qF .qF .qF)])=some (.tuple [],N++[X0,X1,.cells true 0 ((onl c).cells (pV x b) (pV x u) (pV x s) (pV y kn)),.cells true 0 ((c.kd K).cells b u s kn)])
theorem fU:afi 1 154 155 156 157 158 Evc.agu true false∧afi 2 159 160 161 111 162 Evc.agv false false∧afi 3 163 164 165 166 167 Evc.agw false true∧afi 4 168 169 170 171 172 Evc.agx false false∧afi 5 173 174 175 176 177 Evc.agy false false:=by
 have K:aT prog 44=some f44:=by kernel_rfl
 obtain⟨M,Z⟩:∃M,aJ f44=M :=⟨_,rfl⟩
 have L :=cc Z (ls:=[[0,0,2,6,15,31]]) (by kernel_rfl);simp only[aJ,bR,f44,List.nil_append,List.append_nil] at Z;subst Z;simp only[lB] at L;have w0:∀n:Int,n=0∨n=1∨n=2∨n=3∨n=4→IntKind.i64.wrap n=n:=fun n h=>af
 have X:=w0 0 (by simp);have V:=w0 1 (by simp);have U:=w0 2 (by simp);have S:=w0 3 (by simp);have O:=w0 4 (by simp);have G:aT prog 154=some f154:=by kernel_rfl
 have F:aT prog 159=some f159:=by kernel_rfl
 have D:aT prog 163=some f163:=by kernel_rfl
 have h3:aT prog 168=some f168:=by kernel_rfl
 have C:aT prog 173=some f173:=by kernel_rfl
 refine⟨?_,?_,?_,?_,?_⟩<;>(
  refine⟨by decide,by decide,fun {N j R} hl hc=>?_,fun {N Y W c b u s J} hb kb=>?_⟩
  ·have I:(∀y:AV,y∈R→y.aei=true)=True:=eq_true (List.all_eq_true.1 hc)
   simp[-getElem?_pos,-AV.aei,-AV.known,-AV.cells,-ee,-bG,-bn,-aK,-AV.aef,-aek.aef,-List.all_eq_true,vS,rS,mS,bd L,bZ,du,ef,cw,cM,gQ,bef,Nat.testBit,cJ,K,f44,Fe,Pc,ag,fnS,Pv,MI,QP,Ua,X,V,U,S,O]
  ·obtain⟨B,A,o,m⟩:=hb
   obtain⟨⟨H,m1⟩,⟨k2,m2⟩,⟨k3,m3⟩,⟨k4,m4⟩⟩:=kb;simp[-getElem?_pos,-AV.aei,-AV.known,-AV.cells,-List.all_eq_true,vS,mS,cJ,G,F,D,h3,C,f154,f159,f163,f168,f173,Evc.cells,Evc.kd,Evc.agu,Evc.agv,Evc.agw,Evc.agx,Evc.agy,pV,B,A,o,m])
section
variable {K:Int}{g g1 g2 g3 g4:FuncId}{onl:Evc→Evc}{x y:Bool}{N:Mem}{c:Evc}{b u s kn:AV}
section
variable (h:afi K g g1 g2 g3 g4 onl x y)
include h
theorem NC{nm:List UInt8}{R:List AV}(H:R.length=30)(hc:R.all AV.aei=true):kO prog 44 [.agg (.int .i64 K::.str nm::R)] N (.agg [.func g [],.func g1 [],.func g2 [],.func g3 [],.func g4 []]) N:=by obtain⟨Z,h⟩:=h.of (N:=N) (nm:=nm) H hc;exact(bY ai (aO _) Mg (aR _) h).forget rfl
theorem LV{X0 X1:aek}(H:b.aei=true∧u.aei=true∧s.aei=true∧kn.aei=true)(I:(b.known=true∧b.cells=[b])∧(u.known=true∧u.cells=[u])∧(s.known=true∧s.cells=[s])∧(kn.known=true∧kn.cells=[kn]))(J:AV.under (N.length+3) b=true∧AV.under (N.length+3) u=true∧AV.under (N.length+3) s=true∧AV.under (N.length+3) kn=true):
  kO prog g [.agg ((c.kd K).cells b u s kn),.ptr (N.length+2) 0] (N++[X0,X1,.cells true 0 (({ k:=K,nm:=c.nm }:Evc).cells .qF .qF .qF .qF)]) (.tuple []) (N++[X0,X1,.cells true 0 ((onl c).cells (pV x b) (pV x u) (pV x s) (pV y kn))]):=by
 have X:=bY ai (aO _) (az _) (aR _) (h.al (N:=N) (X0:=X0) (X1:=X1) (c:=c) H I);have e:∀A B C D:aek,N++[A,B,C,D]=(N++[A,B,C])++[D]:=fun A B C D=>by simp
 rw[e] at X;refine X.af6 rfl (by simp) fun i x Z=>?_
 by_cases V:i<N.length
 ·left;rw[List.getElem?_append_left V] at Z ⊢;exact Z
 ·obtain⟨j,rfl⟩:∃j,i=N.length+j:=⟨i-N.length,by omega⟩
  rw[BO] at Z ⊢
  match j,Z with
  |0,Z=>left;exact Z
  |1,Z=>left;exact Z
  |2,Z=>
   right;refine⟨true,0,_,(Option.some.inj Z).symm,?_⟩;have U:∀(z:Bool) (v:AV),AV.under (N.length+3) v=true→AV.under (N.length+3) (pV z v)=true:=fun z v h=>by cases z;rfl;exact h
   simp[Evc.cells,AV.aen,U,J]
  |j+3,Z=>simp at Z
end
theorem O6(H:afi K g g1 g2 g3 g4 onl x y){n0 n1 n2 n3 n4 n5 n6 n7:Nat}{Y C1 C2 C3 C4 C5 C6 C7:List AV}{pv tv:AV}(hN:N=[.cells false n0 Y,.cells false n1 C1,.cells false n2 C2,.cells false n3 C3,.cells false n4 C4,.cells false n5 C5,.cells false n6 C6,.cells false n7 C7])(hU:AV.aen 8 Y=true∧AV.aen 8 C1=true∧AV.aen 8 C2=true∧AV.aen 8 C3=true∧AV.aen 8 C4=true∧AV.aen 8 C5=true∧AV.aen 8 C6=true∧AV.aen 8 C7=true)(c1:pv.aei=true)(c2:tv.aei=true)(hb:b.aei=true∧u.aei=true∧s.aei=true∧kn.aei=true)(I:(b.known=true∧b.cells=[b])∧(u.known=true∧u.cells=[u])∧(s.known=true∧s.cells=[s])∧(kn.known=true∧kn.cells=[kn]))(J:(pv.under 8=true∧tv.under 8=true)∧b.under 8=true∧u.under 8=true∧s.under 8=true∧kn.under 8=true)(hC:∀Z,kO prog 46 [.agg [pv,tv]] (N++Z) (.int .i64 0) (N++Z))(hn:c.nm∈jV)(hE:∀Z,kO prog 26 [.agg ((onl c).cells (pV x b) (pV x u) (pV x s) (pV y kn)),.agg ((c.kd K).cells b u s kn)] (N++Z) (.bool true) (N++Z))(W:46≠g1∧71≠g1∧44≠g1∧26≠g1∧g≠g1){e:Int}(hK:∀Z,kO prog g1 [.agg [pv,tv],.agg ((c.kd K).cells b u s kn)] (N++Z) (.int .i64 e) (N++Z)):
  kO prog 25 [.agg [pv,tv],.agg ((c.kd K).cells b u s kn)] N (.int .i64 e) N:=by
 have hG:aT prog 25=some f25:=by kernel_rfl
 have S:N.length=8:=by rw[hN];rfl
 obtain⟨L,V⟩:=xE (α:=List (FuncId×List AV×(Mem→Prop)×aee)) [(46,[.agg [pv,tv]],fun M=>∃Z,M=N++Z,⟨.int .i64 0,none,[]⟩),(71,[.str c.nm],fun _=>True,⟨.int .i64 0,none,[]⟩),(44,[.agg ((c.kd K).cells b u s kn)],fun _=>True,⟨.agg [.func g [],.func g1 [],.func g2 [],.func g3 [],.func g4 []],none,[]⟩),(26,[.agg ((onl c).cells (pV x b) (pV x u) (pV x s) (pV y kn)),.agg ((c.kd K).cells b u s kn)],fun M=>∃Z,M=N++Z,⟨.bool true,none,[]⟩),(g,[.agg ((c.kd K).cells b u s kn),.ptr 10 0],fun M=>M=N++[.cells true 0 [pv,tv],.cells true 0 ((c.kd K).cells b u s kn),.cells true 0 (({ k:=K,nm:=c.nm }:Evc).cells .qF .qF .qF .qF)],⟨.tuple [],some (N++[.cells true 0 [pv,tv],.cells true 0 ((c.kd K).cells b u s kn),.cells true 0 ((onl c).cells (pV x b) (pV x u) (pV x s) (pV y kn))]),[]⟩),(g1,[.agg [pv,tv],.agg ((c.kd K).cells b u s kn)],fun M=>∃Z,M=N++Z,⟨.int .i64 e,none,[]⟩)];have j:qS prog (dy L):=lO fun z hz M G=>by
  rw[V] at hz;simp only[lM] at hz;rcases hz with rfl | rfl | rfl | rfl | rfl | rfl
  ·obtain⟨Z,rfl⟩:=G
   exact aW (hC Z)
  ·exact aW (gf _ hn M)
  ·refine aC ?_
   rw[List.append_nil];exact NC H (R:=((c.kd K).cells b u s kn).drop 2) rfl (by simp[Evc.cells,hb,vS,-AV.aei])
  ·obtain⟨Z,rfl⟩:=G
   exact aW (hE Z)
  ·refine⟨?_,fun q hq=>by cases hq;rw[show M=_ from G];simp⟩
   have:=LV H (N:=N) (X0:=.cells true 0 [pv,tv]) (X1:=.cells true 0 ((c.kd K).cells b u s kn)) (c:=c) hb I (by rw[S];exact⟨Ah J.2.1,Ah J.2.2.1,Ah J.2.2.2.1,Ah J.2.2.2.2⟩);rw[S] at this;rw[show M=_ from G];simpa [aee.mem] using this
  ·obtain⟨Z,rfl⟩:=G
   exact aW (hK Z)
 have B:∀Z,dy L (.fn 46) [.agg [pv,tv]] (N++Z)=some ⟨.int .i64 0,none,[]⟩:=fun Z=>by rw[V];exact cr ⟨Z,rfl⟩
 have A:∀M,dy L (.fn 71) [.str c.nm] (M)=some ⟨.int .i64 0,none,[]⟩:=fun M=>by rw[V,aB (.inl (by decide))];exact cr trivial
 have o:∀M,dy L (.fn 44) [.agg ((c.kd K).cells b u s kn)] (M)=some ⟨.agg [.func g [],.func g1 [],.func g2 [],.func g3 [],.func g4 []],none,[]⟩:=fun M=>by rw[V,aB (.inl (by decide)),aB (.inl (by decide))];exact cr trivial
 have F:∀Z,dy L (.fn 26) [.agg ((onl c).cells (pV x b) (pV x u) (pV x s) (pV y kn)),.agg ((c.kd K).cells b u s kn)] (N++Z)=some ⟨.bool true,none,[]⟩:=fun Z=>by rw[V,aB (.inl (by decide)),aB (.inl (by decide)),aB (.inl (by decide))];exact cr ⟨Z,rfl⟩
 have D:dy L (.fn g) [.agg ((c.kd K).cells b u s kn),.ptr 10 0] (N++[.cells true 0 [pv,tv],.cells true 0 ((c.kd K).cells b u s kn),.cells true 0 (({ k:=K,nm:=c.nm }:Evc).cells .qF .qF .qF .qF)])=some ⟨.tuple [],some (N++[.cells true 0 [pv,tv],.cells true 0 ((c.kd K).cells b u s kn),.cells true 0 ((onl c).cells (pV x b) (pV x u) (pV x s) (pV y kn))]),[]⟩:=by rw[V,aB (.inl H.ne.1),aB (.inl H.ne.2.1),aB (.inl H.ne.2.2.1),aB (.inl H.ne.2.2.2)];exact cr rfl
 have m:∀Z,dy L (.fn g1) [.agg [pv,tv],.agg ((c.kd K).cells b u s kn)] (N++Z)=some ⟨.int .i64 e,none,[]⟩:=fun Z=>by rw[V,aB (.inl W.1),aB (.inl W.2.1),aB (.inl W.2.2.1),aB (.inl W.2.2.2.1),aB (.inl W.2.2.2.2)];exact cr ⟨Z,rfl⟩
 obtain⟨O,Zx⟩:=xE (dy L);rw[←Zx] at j D;simp only[←Zx] at B A o F m;clear Zx V;have X:∀(z:Bool) (v:AV),v.aei=true→(v.known=true∧v.cells=[v])→v.under 8=true→∃U,pV z v=U ∧U.aei=true∧(U.known=true∧U.cells=[U])∧U.under 8=true:=fun z v h1 h2 h3=>by
  cases z
  ·exact⟨_,rfl,rfl,⟨rfl,rfl⟩,rfl⟩
  ·exact⟨_,rfl,h1,h2,h3⟩
 obtain⟨b1,b2,b3,b4⟩:=hb;obtain⟨⟨q5,q6⟩,q1,q2,q3,q4⟩:=J;obtain⟨z1,s1,t1,⟨v1,x1⟩,y1⟩:=X x b b1 I.1 q1;obtain⟨z2,s2,t2,⟨v2,x2⟩,y2⟩:=X x u b2 I.2.1 q2;obtain⟨z3,s3,t3,⟨v3,x3⟩,y3⟩:=X x s b3 I.2.2.1 q3;obtain⟨z4,s4,t4,⟨v4,x4⟩,y4⟩:=X y kn b4 I.2.2.2 q4;rw[s1,s2,s3,s4] at D;simp only[s1,s2,s3,s4] at F;obtain⟨⟨k1,m1⟩,⟨k2,m2⟩,⟨k3,m3⟩,⟨k4,m4⟩⟩:=I;subst hN;simp only[List.cons_append,List.nil_append] at B A o F D m;obtain⟨Zu,D'⟩:∃Zu,aJ f25=Zu :=⟨_,rfl⟩
 have Ya :=cc D' (ls:=[[0,1,3,0,15],[0,1,3,0,0,31,63]]) (by kernel_rfl);simp only[aJ,bR,f25,lA] at D';subst D';simp only[lB] at Ya;obtain⟨XN,hb1⟩:=Ya;obtain⟨u0,u1,u2,u3,u4,u5,u6,u7⟩:=hU;have f0:=(fJ u0).2;have f1:=(fJ u1).2;have f2:=(fJ u2).2;have f3:=(fJ u3).2;have f4:=(fJ u4).2;have f5:=(fJ u5).2;have f6:=(fJ u6).2;have f7:=(fJ u7).2;have r1:=(fz q1).2;have r2:=(fz q2).2;have r3:=(fz q3).2;have r4:=(fz q4).2;have r5:=(fz q5).2;have r6:=(fz q6).2;have p1:=(fz y1).2;have p2:=(fz y2).2;have p3:=(fz y3).2;have p4:=(fz y4).2;have a0:fc [0,1,3,0,15] 4=true:=by decide
 have a1:fc [0,1,3,0,0,31,63] 6=true:=by decide
 have h:∃C,cJ (aV prog) (fun _=>[]) (aT prog) O 1 25 [.agg [pv,tv],.agg ((c.kd K).cells b u s kn)] [.cells false n0 Y,.cells false n1 C1,.cells false n2 C2,.cells false n3 C3,.cells false n4 C4,.cells false n5 C5,.cells false n6 C6,.cells false n7 C7]=some (.int .i64 e,[.cells false n0 Y,.cells false n1 C1,.cells false n2 C2,.cells false n3 C3,.cells false n4 C4,.cells false n5 C5,.cells false n6 C6,.cells false n7 C7]++C):=by obtain⟨kr1,kr2⟩:=H.rng;clear j hE hC hK H;simp only[Evc.cells,Evc.kd] at B A o F D m ⊢;simp[dY,-AV.aei,-AV.known,-AV.cells,-aK,-AV.aef,-List.all_eq_true,vS,rS,fnS,ao XN,ao hb1,br,bk,bl,a0,a1,Nat.testBit,-vw,I8,I9,bJ,aD,cJ,hG,f25,B,A,o,F,D,m,kr1,kr2,f0,f1,f2,f3,f4,f5,f6,f7,r1,r2,r3,r4,r5,r6,p1,p2,p3,p4]
 obtain⟨C,h⟩:=h;exact(bY ai (aO _) j (aR _) h).forget rfl
end
variable{C:List AV}{N:Mem}{es n:Nat}{v:AV}
theorem aev.aeS(h:aev N v es n C)(H:n=0):v=.qF:=by
 rcases h with⟨h,_,_⟩ | ⟨_,_,_,h,_⟩
 ·exact h
 ·omega
theorem aev.pos(h:aev N v es n C)(H:0<n):∃b o,v=.slice b 0 n none∧N[b]? =some (.cells o es C):=by
 rcases h with⟨_,h,_⟩ | ⟨b,o,Z,_,X⟩
 ·omega
 ·exact⟨b,o,Z,X⟩
variable{S:List (List (List UInt8))}
theorem afy.aeS(h:afy N v S)(hS:S=[]):v=.qF:=by obtain⟨Z,_,h,_⟩:=h;exact h.aeS (by rw[hS];rfl)
theorem aev.ck(h:aev N v es n C):v.aei=true:=by rcases h with⟨rfl,_⟩ | ⟨b,o,rfl,_⟩<;>rfl
variable{c:Evc}{e:List AV}
theorem ae9.flat(h:ae9 N e c)(h1:c.B.length=0)(h2:c.U.length=0)(h3:c.S=[])(h4:c.K.length=0):e=c.cells .qF .qF .qF .qF:=by obtain⟨b,u,O,M,rfl,Z,X,V,R⟩:=h;obtain rfl:=Z.aeS h1;obtain rfl:=X.aeS h2;obtain rfl:=V.aeS h3;obtain rfl:=R.aeS h4;rfl
theorem ae9.l32(h:ae9 N e c):e.length=32:=by obtain⟨b,u,s,Z,rfl,_⟩:=h;rfl
theorem ae9.cok(h:ae9 N e c):∀x∈e,x.aei=true:=by obtain⟨b,u,s,R,rfl,X,V,⟨_,_,h3,_⟩,U⟩:=h;intro x Z;simp only[Evc.cells,lM] at Z;rcases Z with rfl | rfl | rfl | rfl | rfl | rfl | rfl | rfl | rfl | rfl | rfl | rfl | rfl | rfl | rfl | rfl | rfl | rfl | rfl | rfl | rfl | rfl | rfl | rfl | rfl | rfl | rfl | rfl | rfl | rfl | rfl | rfl<;>first | rfl | exact X.ck | exact V.ck | exact h3.ck | exact U.ck
def sl8(j n:Nat):AV:=if n=0 then .qF else .slice j 0 n none
theorem yQ(j n:Nat):(sl8 j n).aei=true∧((sl8 j n).known=true∧(sl8 j n).cells=[sl8 j n]):=by unfold sl8;split<;>exact⟨rfl,rfl,rfl⟩
variable{j:Nat}
theorem jP(H:j<8):(sl8 j n).under 8=true:=by
 unfold sl8;split
 ·rfl
 ·simp only[AV.under,decide_eq_true_eq];exact H
variable{D0:List AV}{M:Mem}{e0 p:Nat}{o:Bool}{x:AV}
theorem sH(h:aev M x es n C)(H:AV.aej C=true)(I:M[p]? =some (.cells o e0 D0))(h0:AV.aej D0=true):
  ∃k e D,(∃o,M[k]? =some (.cells o e D))∧AV.aej D=true∧((x=.qF∧n=0∧C=[])∨(x=.slice k 0 n none∧0<n∧e=es∧D=C)):=by
 rcases h with⟨Z,X,h3⟩ | ⟨b,V,Z,X,h3⟩
 ·exact⟨p,e0,D0,⟨o,I⟩,h0,.inl ⟨Z,X,h3⟩⟩
 ·exact⟨b,es,C,⟨V,h3⟩,H,.inr ⟨Z,X,rfl,rfl⟩⟩
variable{D:List AV}{k:Nat}
theorem nj{m:Mem}{e:Nat}(h:(x=.qF∧n=0∧C=[])∨(x=.slice k 0 n none∧0<n∧e=es∧D=C))(H:m[j]? =some (.cells false e D)):aev m (sl8 j n) es n C:=by
 rcases h with⟨_,Z,h3⟩ | ⟨_,Z,rfl,rfl⟩
 ·subst Z;exact .inl ⟨rfl,rfl,h3⟩
 ·exact .inr ⟨j,false,by unfold sl8;rw[if_neg (by omega)],Z,H⟩
theorem xR{e:Nat}{ks:List Nat}{L:Nat}(h:(x=.qF∧n=0∧C=[])∨(x=.slice k 0 n none∧0<n∧e=es∧D=C))(H:j<ks.length)(hk:ks.getD j 0=k):(sl8 j n).ren (fq ks L)=x:=by
 rcases h with⟨Z,X,_⟩ | ⟨Z,X,_⟩
 ·subst X;rw[Z];rfl
 ·unfold sl8;rw[if_neg (by omega),Z];simp only[AV.ren,fq,H,if_true,hk]
theorem VX(h:afy M v S)(hS:S.length≤2)(H:M[p]? =some (.cells o e0 D0))(h0:AV.aej D0=true):
  ∃K e5 D5 A G F U J I u,(∃o,M[K]? =some (.cells o e5 A))∧((∃o,M[G]? =some (.cells o F U))∧AV.aej U=true)∧((∃o,M[J]? =some (.cells o I u))∧AV.aej u=true)∧AV.aen 8 D5=true∧
   (∀(ks:List Nat) L,ks.length=8→ks.getD 6 0=G→ks.getD 7 0=J→∀(j:Nat) w,D5[j]? =some w→A[j]? =some (w.ren (fq ks L)))∧
   (∀(ks:List Nat) L,ks.length=8→ks.getD 5 0=K→(sl8 5 S.length).ren (fq ks L)=v)∧
   ∀m:Mem,m[5]? =some (.cells false e5 D5)→m[6]? =some (.cells false F U)→m[7]? =some (.cells false I u)→afy m (sl8 5 S.length) S:=by
 obtain⟨vs,B,hv,hr⟩:=h
 match S,hS,B with
 | [],_,B=>
  have hvn:=hv.aeS rfl;refine⟨p,e0,D0,D0,p,e0,D0,p,e0,D0,⟨o,H⟩,⟨⟨o,H⟩,h0⟩,⟨⟨o,H⟩,h0⟩,aX h0,fun ks L _ _ _ j w Z=>?_,fun ks L _ _=>hvn.symm,fun m _ _ _=>⟨[],rfl,.inl ⟨rfl,rfl,rfl⟩,fun i x L h=>by simp at h⟩⟩;have:=aL (ρ:=fq ks L) h0;rw[gw] at this;have h2:(D0.map (AV.ren (fq ks L)))[j]? =D0[j]? :=by rw[this]
  rw[List.getElem?_map,Z] at h2;rw[Z];exact h2.symm
 | [L1],_,B=>
  match vs,B with
  | [x1],_=>
   obtain⟨K,o5,rfl,h5⟩:=hv.pos (by simp);obtain⟨G,F,U,h6,c6,Y⟩:=sH (hr 0 x1 L1 rfl rfl) (dM L1) H h0;refine⟨K,1,[sl8 6 L1.length],[x1],G,F,U,p,e0,D0,⟨o5,h5⟩,⟨h6,c6⟩,⟨⟨o,H⟩,h0⟩,by simp only[AV.aen,jP (show 6<8 by omega),Bool.and_self],fun ks L W R _ j w Z=>?_,fun ks L W O =>?_,fun m m5 m6 m7=>⟨[sl8 6 L1.length],rfl,.inr ⟨5,false,rfl,by simp,m5⟩,fun i x L X V=>?_⟩⟩
   ·match j,Z with
    |0,Z=>cases Z;rw[xR Y (by omega) R];rfl
    |j+1,Z=>simp at Z
   ·show(AV.slice 5 0 1 none).ren (fq ks L)=_
    simp only[AV.ren,fq,W,O];rfl
   ·match i,X,V with
    |0,X,V=>cases X;cases V;exact nj Y m6
    |i+1,X,_=>simp at X
 | [L1,L2],_,B=>
  match vs,B with
  | [x1,x2],_=>
   obtain⟨K,o5,rfl,h5⟩:=hv.pos (by simp);obtain⟨G,F,U,h6,c6,Y⟩:=sH (hr 0 x1 L1 rfl rfl) (dM L1) H h0;obtain⟨J,I,u,h7,c7,g7⟩:=sH (hr 1 x2 L2 rfl rfl) (dM L2) H h0;refine⟨K,1,[sl8 6 L1.length,sl8 7 L2.length],[x1,x2],G,F,U,J,I,u,⟨o5,h5⟩,⟨h6,c6⟩,⟨h7,c7⟩,by simp only[AV.aen,jP (show 6<8 by omega),jP (show 7<8 by omega),Bool.and_self],fun ks L W R h7' j w Z=>?_,fun ks L W O =>?_,fun m m5 m6 m7=>⟨[sl8 6 L1.length,sl8 7 L2.length],rfl,.inr ⟨5,false,rfl,by simp,m5⟩,fun i x L X V=>?_⟩⟩
   ·match j,Z with
    |0,Z=>cases Z;rw[xR Y (by omega) R];rfl
    |1,Z=>cases Z;rw[xR g7 (by omega) h7'];rfl
    |j+2,Z=>simp at Z
   ·show(AV.slice 5 0 2 none).ren (fq ks L)=_
    simp only[AV.ren,fq,W,O];rfl
   ·match i,X,V with
    |0,X,V=>cases X;cases V;exact nj Y m6
    |1,X,V=>cases X;cases V;exact nj g7 m7
    |i+2,X,_=>simp at X
theorem O9{s:aeo}{t:Nat}{d:Evc}{b u J W:AV}{e:Int}(H:∃o,M[p]? =some (.cells o 2 (pC s.P)))(I:∃o,M[t]? =some (.cells o 3 (tC s.T)))(XT:c.Ok)(hE:ae9 M (c.cells b u J W) c)(hS:∀(n2 n3 n4 n5 n6 n7:Nat)(C2 C3 C4 C5 C6 C7:List AV)(m:Mem),m=[.cells false 2 (pC s.P),.cells false 3 (tC s.T),.cells false n2 C2,.cells false n3 C3,.cells false n4 C4,.cells false n5 C5,.cells false n6 C6,.cells false n7 C7]→(AV.aen 8 (pC s.P)=true∧AV.aen 8 (tC s.T)=true∧AV.aen 8 C2=true∧AV.aen 8 C3=true∧AV.aen 8 C4=true∧AV.aen 8 C5=true∧AV.aen 8 C6=true∧AV.aen 8 C7=true)→
   ae9 m (c.cells (sl8 2 c.B.length) (sl8 3 c.U.length) (sl8 5 c.S.length) (sl8 4 c.K.length)) c→kO prog 25 [.agg [.slice 0 0 s.P.length none,.slice 1 0 s.T.length none],.agg (d.cells (sl8 2 c.B.length) (sl8 3 c.U.length) (sl8 5 c.S.length) (sl8 4 c.K.length))] m (.int .i64 e) m):
  kO prog 25 [.agg [.slice p 0 s.P.length none,.slice t 0 s.T.length none],.agg (d.cells b u J W)] M (.int .i64 e) M:=by
 obtain⟨o,H⟩:=H;obtain⟨o',I⟩:=I;obtain⟨b',u',s',Zt,eq,h1,h2,h3,h4⟩:=hE;simp only[Evc.cells,List.cons.injEq,true_and,and_true] at eq;obtain⟨rfl,rfl,rfl,rfl⟩:=eq;obtain⟨V,e2,D2,⟨o2,m2⟩,c2,g2⟩:=sH h1 (dM _) H (ei _);obtain⟨R,e3,D3,⟨o3,m3⟩,c3,g3⟩:=sH h2 (dM _) H (ei _);obtain⟨O,e4,D4,⟨o4,m4⟩,c4,g4⟩:=sH h4 (jJ _) H (ei _);obtain⟨G,e5,D5,Y,F,e6,D6,A,e7,D7,⟨o5,m5⟩,⟨⟨o6,m6⟩,c6⟩,⟨⟨o7,m7⟩,c7⟩,u5,r5,rv,f5⟩:=VX h3 XT.S H (ei _);obtain⟨m,X⟩:=xE (α:=Mem) [.cells false 2 (pC s.P),.cells false 3 (tC s.T),.cells false e2 D2,.cells false e3 D3,.cells false e4 D4,.cells false e5 D5,.cells false e6 D6,.cells false e7 D7];have Zd:ae9 m (c.cells (sl8 2 c.B.length) (sl8 3 c.U.length) (sl8 5 c.S.length) (sl8 4 c.K.length)) c:=
  ⟨_,_,_,_,rfl,nj g2 (by rw[X];rfl),nj g3 (by rw[X];rfl),f5 m (by rw[X];rfl) (by rw[X];rfl) (by rw[X];rfl),nj g4 (by rw[X];rfl)⟩
 have h:=hS e2 e3 e4 e5 e6 e7 D2 D3 D4 D5 D6 D7 m X ⟨aX (ei _),aX (fR _),aX c2,aX c3,aX c4,u5,aX c6,aX c7⟩ Zd;have:=kO.frame (M:=M) (new:=[]) (args:=[.agg [.slice 0 0 s.P.length none,.slice 1 0 s.T.length none],.agg (d.cells (sl8 2 c.B.length) (sl8 3 c.U.length) (sl8 5 c.S.length) (sl8 4 c.K.length))]) [p,t,V,R,O,G,F,A] (m:=m) (by rw[X];rfl) (by
  intro k hk;simp only[lM] at hk;rcases hk with rfl | rfl | rfl | rfl | rfl | rfl | rfl | rfl
  ·exact fF H
  ·exact fF I
  ·exact fF m2
  ·exact fF m3
  ·exact fF m4
  ·exact fF m5
  ·exact fF m6
  ·exact fF m7) (by simp[AV.aen,AV.under,Evc.cells,jP]) (fun i x Z=>by
  subst X
  match i,Z with
  |0,Z=>cases Z;exact cP (ei _) H List.take_length
  |1,Z=>cases Z;exact cP (fR _) I List.take_length
  |2,Z=>cases Z;exact cP c2 m2 List.take_length
  |3,Z=>cases Z;exact cP c3 m3 List.take_length
  |4,Z=>cases Z;exact cP c4 m4 List.take_length
  |5,Z=>cases Z;exact⟨u5,o5,Y,m5,r5 _ _ rfl rfl rfl⟩
  |6,Z=>cases Z;exact cP c6 m6 List.take_length
  |7,Z=>cases Z;exact cP c7 m7 List.take_length
  |i+8,Z=>simp at Z) rfl (by simpa using h)
 have q2:=xR (j:=2) (ks:=[p,t,V,R,O,G,F,A]) (L:=M.length) g2 (by simp) rfl;have q3:=xR (j:=3) (ks:=[p,t,V,R,O,G,F,A]) (L:=M.length) g3 (by simp) rfl;have q4:=xR (j:=4) (ks:=[p,t,V,R,O,G,F,A]) (L:=M.length) g4 (by simp) rfl;have q5:=rv [p,t,V,R,O,G,F,A] M.length rfl rfl;simp only[AV.aez,AV.ren,Evc.cells,q2,q3,q4,q5,List.map_nil,List.append_nil] at this;simpa [fq,Evc.cells] using this
end Go.Proofs
