/- See K51. -/
import Derived.Test.YtffdedmakncfmaaGreatDoorK38
import Derived.Test.YtffdedmakncfmaaGreatDoorK39
set_option linter.all false
namespace Go.Proofs
open Go.Eng
def Oc(s:Slot):Bool:=s.own||match s with | .absent=>true | _=>false
theorem Me(a b:Nat):(!decide (a≤b)|| !decide (b<a))=true:=by
 rcases Nat.lt_or_ge b a with h | h
 ·simp[Nat.not_le.2 h]
 ·simp[Nat.not_lt.2 h]
theorem fQ(bs:List Nat) (j:Nat) (acc:List (Nat×Rec)) (r:Rec) (rest:List Rec):ea bs j acc (r::rest)=(r.v.refsOk (fun b=>decide (b<r.nx.length))&&(cS r||(eV bs j r (j+1) rest&&(r.wr.isEmpty||(iL bs j r acc&&r.wr.all (fun b=>dE r.tm b&&(match r.nx[b]? with | some s=>s.refsOk (fun b=>decide (b<r.nx.length)) | none=>true))))&&
   (r.nx.drop r.mem.length).all fun s=>Oc s&&s.refsOk (fun b=>decide (b<r.nx.length))))&&ea bs (j+1) ((j,r)::acc) rest):=rfl
theorem G8(f:Nat→Bool) (s:Slot) (new:Mem) (M:Mem) (k:Nat):bk [k] 0 M ((br f 0 M).set k s++new)=M.set k s++new:=by
 have key:∀(i:Nat) (M:Mem) (k:Nat),bk [i+k] i M ((br f i M).set k s++new)=M.set k s++new:=by
  intro i M
  induction M generalizing i with
  |nil=>intro k;rfl
  |cons x M ih=>
   intro k
   cases k with
   |zero=>
    have h:∀(j:Nat) (M:Mem),i<j→bk [i] j M (br f j M++new)=M++new:=by
     intro j M hj
     induction M generalizing j with
     |nil=>rfl
     |cons y M ih=>simp[br,bk,ih (j+1) (by omega),show¬j=i by omega]
    simp[br,bk,h (i+1) M (by omega)]
   |succ k=>
    have:=ih (i+1) k
    rw[show i+1+k=i+(k+1) by omega] at this
    simp[br,bk,this,show¬i=i+(k+1) by omega]
 have:=key 0 M k
 rwa [Nat.zero_add] at this
theorem vS:((∀a,(AV.str a).known=true)∧(∀k i,(AV.int k i).known=true)∧(∀b o n c,(AV.slice b o n c).known=true)∧AV.nilslice.known=true∧(∀b o,(AV.ptr b o).known=true)∧(∀cs,(AV.agg cs).known=true))∧
  ((∀a,(AV.str a).cells=[.str a])∧(∀k i,(AV.int k i).cells=[.int k i])∧(∀b o n c,(AV.slice b o n c).cells=[.slice b o n c])∧AV.nilslice.cells=[.nilslice]∧(∀b o,(AV.ptr b o).cells=[.ptr b o])∧∀cs,(AV.agg cs).cells=cs)∧
  ((∀b o n c,(AV.slice b o n c).cellOk=true)∧(∀a,(AV.str a).cellOk=true)∧(∀k i,(AV.int k i).cellOk=true)∧(∀b,(AV.bool b).cellOk=true)∧AV.nilslice.cellOk=true∧∀b o,(AV.ptr b o).cellOk=true):=
 ⟨⟨fun _=>rfl,fun _ _=>rfl,fun _ _ _ _=>rfl,rfl,fun _ _=>rfl,fun _=>rfl⟩,⟨fun _=>rfl,fun _ _=>rfl,fun _ _ _ _=>rfl,rfl,fun _ _=>rfl,fun _=>rfl⟩,⟨fun _ _ _ _=>rfl,fun _=>rfl,fun _ _=>rfl,fun _=>rfl,rfl,fun _ _=>rfl⟩⟩
theorem rS(f:Nat→Bool):AV.nilslice.refsOk f=true∧(∀b o n c,(AV.slice b o n c).refsOk f=f b)∧(∀b o,(AV.ptr b o).refsOk f=f b)∧(∀a,(AV.str a).refsOk f=true)∧(∀k i,(AV.int k i).refsOk f=true)∧(∀b,(AV.bool b).refsOk f=true)∧(∀cs,(AV.agg cs).refsOk f=AV.refsOkL f cs)∧(∀cs,(AV.tuple cs).refsOk f=AV.refsOkL f cs)∧AV.undef.refsOk f=true∧
  Slot.refsOk f .absent=true∧(∀o es cs,Slot.refsOk f (.cells o es cs)=AV.refsOkL f cs):=⟨rfl,fun _ _ _ _=>rfl,fun _ _=>rfl,fun _=>rfl,fun _ _=>rfl,fun _=>rfl,fun _=>rfl,fun _=>rfl,rfl,rfl,fun _ _ _=>rfl⟩
theorem mS:((∀(M X:Mem) k,(M++X)[M.length+k]? =X[k]?)∧(∀M X:Mem,(M++X)[M.length]? =X[0]?)∧(∀(M X:Mem) k s,(M++X).set (M.length+k) s=M++X.set k s)∧(∀(M X:Mem) s,(M++X).set M.length s=M++X.set 0 s)∧(∀(M X:Mem) k,(M++X).drop (M.length+k)=X.drop k)∧(∀M X:Mem,(M++X).drop M.length=X))∧
  ((∀(α:Type) (s:α) l,(s::l)[0]? =some s)∧(∀(α:Type) (s:α) l (i:Nat),(s::l)[i+1]? =l[i]?))∧((∀es cs,Oc (.cells true es cs)=true)∧Oc .absent=true)∧
  ((∀f i M,bk [] i M (br f i M)=M)∧(∀i M,bk [] i M M=M)∧(∀f new i M,bk [] i M (br f i M++new)=M++new)∧(∀new i M,bk [] i M (M++new)=M++new)∧(∀f s M k,bk [k] 0 M ((br f 0 M).set k s)=M.set k s)∧(∀f s new M k,bk [k] 0 M ((br f 0 M).set k s++new)=M.set k s++new)∧(∀wr i M,bk wr i [] M=M)∧(∀i s s' r r',bk [] i (s::r) (s' ::r')=s::bk [] (i+1) r r')∧(∀i N X Y,bk [] i (N++X) (N++Y)=N++bk [] (i+N.length) X Y))∧
  ((∀f i M b,(br f i M)[b]? =(M[b]?).map fun s=>if f (i+b) then s else .absent)∧(∀i M,br (fun _=>true) i M=M)∧(∀f i M,(br f i M).length=M.length)∧(∀M lo n,(((br (fun _=>false) 0 M).drop lo).take n).all mR=true)∧(∀a b:Nat,(a≤b∧b<a)=False)∧(∀a b:Nat,(!decide (a≤b)|| !decide (b<a))=true))∧
  ((∀b o n c,fl (.slice b o n c)=[b])∧fl .nilslice=[])∧(∀bs j acc,ea bs j acc []=true):=
 ⟨⟨N2,Q4,N3,P0,QX,PL⟩,⟨fun _ _ _=>rfl,fun _ _ _ _=>rfl⟩,⟨fun _ _=>rfl,rfl⟩,⟨th,vK,zr,vJ,G7,G8,fun _ _ _=>rfl,tf,zt⟩,⟨rJ,Bk,Bl,Jh,Jf,Me⟩,⟨fun _ _ _ _=>rfl,rfl⟩,fun _ _ _=>rfl⟩
noncomputable def JG:Field:=match Tryz.prog.underlying 147 with | some (.struct fs)=>fs.getD 0 default | _=>default
noncomputable def OQ:Field:=match Tryz.prog.underlying 147 with | some (.struct fs)=>fs.getD 1 default | _=>default
noncomputable def OR:Field:=match Tryz.prog.underlying 147 with | some (.struct fs)=>fs.getD 2 default | _=>default
noncomputable def OS:Field:=match Tryz.prog.underlying 147 with | some (.struct fs)=>fs.getD 3 default | _=>default
noncomputable def OT:Field:=match Tryz.prog.underlying 147 with | some (.struct fs)=>fs.getD 4 default | _=>default
theorem MW:JG.type=142:=by kernel_rfl
theorem Pz:aO Tryz.prog 142=some ⟨.func #[68,201] #[] false,1,8,.nilFunc,true⟩:=by kernel_rfl
theorem Lz:aO Tryz.prog 147=some ⟨.struct #[JG,OQ,OR,OS,OT],5,40,.agg #[.nilFunc,.nilFunc,.nilFunc,.nilFunc,.nilFunc],true⟩:=by kernel_rfl
theorem IU:aO Tryz.prog 180=some ⟨.array 5 147,25,200,.agg #[.nilFunc,.nilFunc,.nilFunc,.nilFunc,.nilFunc,.nilFunc,.nilFunc,.nilFunc,.nilFunc,.nilFunc,.nilFunc,.nilFunc,.nilFunc,.nilFunc,.nilFunc,.nilFunc,.nilFunc,.nilFunc,.nilFunc,.nilFunc,.nilFunc,.nilFunc,.nilFunc,.nilFunc,.nilFunc],true⟩:=by kernel_rfl
theorem Lh:ui=[.func 158 [],.func 159 [],.func 160 [],.func 161 [],.func 162 [],.func 163 [],.func 164 [],.func 165 [],.func 73 [],.func 166 [],.func 167 [],.func 168 [],.func 169 [],.func 170 [],.func 171 [],.func 172 [],.func 173 [],.func 174 [],.func 175 [],.func 176 [],.func 177 [],.func 178 [],.func 179 [],.func 180 [],.func 181 []]:=by kernel_rfl
theorem xK{v:AV}(h:v.under 8=true):v.under 11=true:=vf (by omega) h
theorem fnS:(∀f,(AV.func f []).cellOk=true)∧(∀f,(AV.func f []).known=true)∧(∀f,(AV.func f []).cells=[.func f []])∧(∀g f,(AV.func f []).refsOk g=true):=⟨fun _=>rfl,fun _=>rfl,fun _=>rfl,fun _ _=>rfl⟩
def Evc.only1(c:Evc):Evc:={ k:=1,nm:=c.nm,B:=c.B,U:=c.U,S:=c.S }
def Evc.only2(c:Evc):Evc:={ k:=2,nm:=c.nm,x5:=c.x5,x6:=c.x6,x7:=c.x7,x8:=c.x8,x9:=c.x9,x10:=c.x10,x11:=c.x11 }
def Evc.only3(c:Evc):Evc:={ k:=3,nm:=c.nm,x12:=c.x12,x13:=c.x13,x14:=c.x14,K:=c.K,x16:=c.x16,x17:=c.x17,x18:=c.x18 }
def Evc.only4(c:Evc):Evc:={ k:=4,nm:=c.nm,x19:=c.x19,x20:=c.x20,x21:=c.x21,x22:=c.x22,x23:=c.x23,x24:=c.x24 }
def Evc.only5(c:Evc):Evc:={ k:=5,nm:=c.nm,t1:=c.t1,t2:=c.t2,t3:=c.t3,t4:=c.t4,x29:=c.x29,x30:=c.x30,x31:=c.x31 }
def Evc.kd(c:Evc) (k:Int):Evc:={ c with k:=k }
def mV(x:Bool) (b:AV):AV:=bif x then b else .nilslice
structure Tryz.KindP (K:Int) (g g1 g2 g3 g4:FuncId) (onl:Evc→Evc) (x y:Bool):Prop where
 ne:131≠g∧132≠g∧63≠g∧133≠g
 rng:¬K<1∧¬5<K
 of:∀{N:Mem}{nm:List UInt8}{R:List AV},R.length=30→R.all AV.cellOk=true→∃new,bT (aO Tryz.prog) (fun _=>[]) (aN Tryz.prog) Ce 1 63 [.agg (.int .i64 K::.str nm::R)] N=some (.agg [.func g [],.func g1 [],.func g2 [],.func g3 [],.func g4 []],N++new)
 al:∀{N:Mem}{X0 X1:Slot}{c:Evc}{b u s kn:AV}(hb:b.cellOk=true∧u.cellOk=true∧s.cellOk=true∧kn.cellOk=true) (kb:(b.known=true∧b.cells=[b])∧(u.known=true∧u.cells=[u])∧(s.known=true∧s.cells=[s])∧(kn.known=true∧kn.cells=[kn])),bT (aO Tryz.prog) (fun _=>[]) (aN Tryz.prog) bt 1 g [.agg ((c.kd K).cells b u s kn),.ptr (N.length+2) 0] (N++[X0,X1,.cells true 0 (({ k:=K,nm:=c.nm }:Evc).cells .nilslice .nilslice .nilslice .nilslice)])=some (.tuple [],N++[X0,X1,.cells true 0 ((onl c).cells (mV x b) (mV x u) (mV x s) (mV y kn)),.cells true 0 ((c.kd K).cells b u s kn)])
set_option maxRecDepth 16384 in
set_option maxHeartbeats 16000000 in
theorem eJ:Tryz.KindP 1 158 159 160 161 162 Evc.only1 true false∧Tryz.KindP 2 163 164 165 73 166 Evc.only2 false false∧Tryz.KindP 3 167 168 169 170 171 Evc.only3 false true∧Tryz.KindP 4 172 173 174 175 176 Evc.only4 false false∧Tryz.KindP 5 177 178 179 180 181 Evc.only5 false false:=by
 have hG:aN Tryz.prog 63=some Tryz.f63:=by kernel_rfl
 obtain⟨os',hops⟩:∃os',aV Tryz.f63=os' :=⟨_,rfl⟩
 have hbs' :=cK hops (ls:=[[0,0,2,6,15,31]]) (by kernel_rfl)
 simp only[aV,cc,Tryz.f63,List.nil_append,List.append_nil] at hops
 subst hops
 simp only[List.map_cons,List.map_nil,List.cons.injEq,and_true] at hbs'
 have w0:∀n:Int,n=0∨n=1∨n=2∨n=3∨n=4→IntKind.i64.wrap n=n:=fun n h=>ag (by omega) (by omega)
 have w00:=w0 0 (by simp)
 have w01:=w0 1 (by simp)
 have w02:=w0 2 (by simp)
 have w03:=w0 3 (by simp)
 have w04:=w0 4 (by simp)
 have h0:aN Tryz.prog 158=some Tryz.f158:=by kernel_rfl
 have h1:aN Tryz.prog 163=some Tryz.f163:=by kernel_rfl
 have h2:aN Tryz.prog 167=some Tryz.f167:=by kernel_rfl
 have h3:aN Tryz.prog 172=some Tryz.f172:=by kernel_rfl
 have h4:aN Tryz.prog 177=some Tryz.f177:=by kernel_rfl
 refine⟨?_,?_,?_,?_,?_⟩<;>(
  refine⟨by decide,by decide,fun {N nm R} hl hc=>?_,fun {N X0 X1 c b u s kn} hb kb=>?_⟩
  ·have hc2:(∀y:AV,y∈R→y.cellOk=true)=True:=eq_true (List.all_eq_true.1 hc)
   simp[-getElem?_pos,-AV.cellOk,-AV.known,-AV.cells,-fl,-br,-bk,-aQ,-AV.refsOk,-Slot.refsOk,-List.all_eq_true,vS,rS,mS,bz hbs',cH,fQ,eV,cM,cS,iL,bef,Nat.testBit,bT,hG,Tryz.f63,Ce,Lh,ai,fnS,Lz,IU,MW,Pz,w00,w01,w02,w03,w04]
  ·obtain⟨b1,b2,b3,b4⟩:=hb
   obtain⟨⟨k1,m1⟩,⟨k2,m2⟩,⟨k3,m3⟩,⟨k4,m4⟩⟩:=kb
   simp[-getElem?_pos,-AV.cellOk,-AV.known,-AV.cells,-List.all_eq_true,vS,mS,bT,h0,h1,h2,h3,h4,Tryz.f158,Tryz.f163,Tryz.f167,Tryz.f172,Tryz.f177,Evc.cells,Evc.kd,Evc.only1,Evc.only2,Evc.only3,Evc.only4,Evc.only5,mV,b1,b2,b3,b4])
section
variable {K:Int}{g g1 g2 g3 g4:FuncId}{onl:Evc→Evc}{x y:Bool}{N:Mem}{c:Evc}{b u s kn:AV}
theorem JI(h:Tryz.KindP K g g1 g2 g3 g4 onl x y) {nm:List UInt8}{R:List AV}(hl:R.length=30) (hc:R.all AV.cellOk=true):ACallsTo Tryz.prog 63 [.agg (.int .i64 K::.str nm::R)] N (.agg [.func g [],.func g1 [],.func g2 [],.func g3 [],.func g4 []]) N:=by
 obtain⟨new,h⟩:=h.of (N:=N) (nm:=nm) hl hc
 exact(bQ ae (aw _) IC (ax _) h).forget rfl
theorem Ic(h:Tryz.KindP K g g1 g2 g3 g4 onl x y) {X0 X1:Slot}(hb:b.cellOk=true∧u.cellOk=true∧s.cellOk=true∧kn.cellOk=true) (kb:(b.known=true∧b.cells=[b])∧(u.known=true∧u.cells=[u])∧(s.known=true∧s.cells=[s])∧(kn.known=true∧kn.cells=[kn])) (ub:AV.under (N.length+3) b=true∧AV.under (N.length+3) u=true∧AV.under (N.length+3) s=true∧AV.under (N.length+3) kn=true):
  ACallsTo Tryz.prog g [.agg ((c.kd K).cells b u s kn),.ptr (N.length+2) 0] (N++[X0,X1,.cells true 0 (({ k:=K,nm:=c.nm }:Evc).cells .nilslice .nilslice .nilslice .nilslice)]) (.tuple []) (N++[X0,X1,.cells true 0 ((onl c).cells (mV x b) (mV x u) (mV x s) (mV y kn))]):=by
 have h2:=bQ ae (aw _) (ak _) (ax _) (h.al (N:=N) (X0:=X0) (X1:=X1) (c:=c) hb kb)
 have e:∀A B C D:Slot,N++[A,B,C,D]=(N++[A,B,C])++[D]:=fun A B C D=>by simp
 rw[e] at h2
 refine h2.forget2 rfl (by simp) fun i x hi=>?_
 by_cases hl:i<N.length
 ·left;rw[List.getElem?_append_left hl] at hi ⊢;exact hi
 ·obtain⟨j,rfl⟩:∃j,i=N.length+j:=⟨i-N.length,by omega⟩
  rw[N2] at hi ⊢
  match j,hi with
  |0,hi=>left;exact hi
  |1,hi=>left;exact hi
  |2,hi=>
   right
   refine⟨true,0,_,(Option.some.inj hi).symm,?_⟩
   have un:∀(z:Bool) (v:AV),AV.under (N.length+3) v=true→AV.under (N.length+3) (mV z v)=true:=fun z v h=>by cases z;rfl;exact h
   simp[Evc.cells,AV.unders,un,ub]
  |j+3,hi=>simp at hi
set_option maxRecDepth 16384 in
set_option maxHeartbeats 8000000 in
theorem Lb(kp:Tryz.KindP K g g1 g2 g3 g4 onl x y) {n0 n1 n2 n3 n4 n5 n6 n7:Nat}{C0 C1 C2 C3 C4 C5 C6 C7:List AV}{pv tv:AV}(hN:N=[.cells false n0 C0,.cells false n1 C1,.cells false n2 C2,.cells false n3 C3,.cells false n4 C4,.cells false n5 C5,.cells false n6 C6,.cells false n7 C7]) (hU:AV.unders 8 C0=true∧AV.unders 8 C1=true∧AV.unders 8 C2=true∧AV.unders 8 C3=true∧AV.unders 8 C4=true∧AV.unders 8 C5=true∧AV.unders 8 C6=true∧AV.unders 8 C7=true) (c1:pv.cellOk=true) (c2:tv.cellOk=true) (hb:b.cellOk=true∧u.cellOk=true∧s.cellOk=true∧kn.cellOk=true) (kb:(b.known=true∧b.cells=[b])∧(u.known=true∧u.cells=[u])∧(s.known=true∧s.cells=[s])∧(kn.known=true∧kn.cells=[kn]))
  (ub:(pv.under 8=true∧tv.under 8=true)∧b.under 8=true∧u.under 8=true∧s.under 8=true∧kn.under 8=true)
  (hC:∀Z,ACallsTo Tryz.prog 131 [.agg [pv,tv]] (N++Z) (.int .i64 0) (N++Z)) (hn:c.nm∈iI)
  (hE:∀Z,ACallsTo Tryz.prog 133 [.agg ((onl c).cells (mV x b) (mV x u) (mV x s) (mV y kn)),.agg ((c.kd K).cells b u s kn)] (N++Z) (.bool true) (N++Z)) (ng:131≠g1∧132≠g1∧63≠g1∧133≠g1∧g≠g1)
  {e:Int}(hK:∀Z,ACallsTo Tryz.prog g1 [.agg [pv,tv],.agg ((c.kd K).cells b u s kn)] (N++Z) (.int .i64 e) (N++Z)):
  ACallsTo Tryz.prog 83 [.agg [pv,tv],.agg ((c.kd K).cells b u s kn)] N (.int .i64 e) N:=by
 have hG:aN Tryz.prog 83=some Tryz.f83:=by kernel_rfl
 have hN8:N.length=8:=by rw[hN];rfl
 obtain⟨L,hL⟩:∃L:List (FuncId×List AV×(Mem→Prop)×CallRes),L=[(131,[.agg [pv,tv]],fun M=>∃Z,M=N++Z,⟨.int .i64 0,none,[]⟩),(132,[.str c.nm],fun _=>True,⟨.int .i64 0,none,[]⟩),(63,[.agg ((c.kd K).cells b u s kn)],fun _=>True,⟨.agg [.func g [],.func g1 [],.func g2 [],.func g3 [],.func g4 []],none,[]⟩),(133,[.agg ((onl c).cells (mV x b) (mV x u) (mV x s) (mV y kn)),.agg ((c.kd K).cells b u s kn)],fun M=>∃Z,M=N++Z,⟨.bool true,none,[]⟩),(g,[.agg ((c.kd K).cells b u s kn),.ptr 10 0],fun M=>M=N++[.cells true 0 [pv,tv],.cells true 0 ((c.kd K).cells b u s kn),.cells true 0 (({ k:=K,nm:=c.nm }:Evc).cells .nilslice .nilslice .nilslice .nilslice)],⟨.tuple [],some (N++[.cells true 0 [pv,tv],.cells true 0 ((c.kd K).cells b u s kn),.cells true 0 ((onl c).cells (mV x b) (mV x u) (mV x s) (mV y kn))]),[]⟩),(g1,[.agg [pv,tv],.agg ((c.kd K).cells b u s kn)],fun M=>∃Z,M=N++Z,⟨.int .i64 e,none,[]⟩)]:=⟨_,rfl⟩
 have hO:OracleOk Tryz.prog (cr L):=jT fun z hz M hp=>by
  rw[hL] at hz
  simp only[List.mem_cons,List.not_mem_nil,or_false] at hz
  rcases hz with rfl | rfl | rfl | rfl | rfl | rfl
  ·obtain⟨Z,rfl⟩:=hp
   exact ah (by simpa using hC Z)
  ·exact ah (by simpa using eW _ hn M)
  ·refine ah ?_
   rw[List.append_nil]
   exact JI kp (R:=((c.kd K).cells b u s kn).drop 2) rfl (by simp[Evc.cells,hb,vS,-AV.cellOk])
  ·obtain⟨Z,rfl⟩:=hp
   exact ah (by simpa using hE Z)
  ·refine⟨?_,fun q hq=>by cases hq;rw[show M=_ from hp];simp⟩
   have:=Ic kp (N:=N) (X0:=.cells true 0 [pv,tv]) (X1:=.cells true 0 ((c.kd K).cells b u s kn)) (c:=c) hb kb (by rw[hN8];exact⟨xK ub.2.1,xK ub.2.2.1,xK ub.2.2.2.1,xK ub.2.2.2.2⟩)
   rw[hN8] at this
   rw[show M=_ from hp]
   simpa [CallRes.mem] using this
  ·obtain⟨Z,rfl⟩:=hp
   exact ah (by simpa using hK Z)
 have e1:∀Z,cr L (.fn 131) [.agg [pv,tv]] (N++Z)=some ⟨.int .i64 0,none,[]⟩:=fun Z=>by rw[hL];exact bn ⟨Z,rfl⟩
 have e2:∀M,cr L (.fn 132) [.str c.nm] (M)=some ⟨.int .i64 0,none,[]⟩:=fun M=>by rw[hL,ar (.inl (by decide))];exact bn trivial
 have e3:∀M,cr L (.fn 63) [.agg ((c.kd K).cells b u s kn)] (M)=some ⟨.agg [.func g [],.func g1 [],.func g2 [],.func g3 [],.func g4 []],none,[]⟩:=fun M=>by rw[hL,ar (.inl (by decide)),ar (.inl (by decide))];exact bn trivial
 have e4:∀Z,cr L (.fn 133) [.agg ((onl c).cells (mV x b) (mV x u) (mV x s) (mV y kn)),.agg ((c.kd K).cells b u s kn)] (N++Z)=some ⟨.bool true,none,[]⟩:=fun Z=>by rw[hL,ar (.inl (by decide)),ar (.inl (by decide)),ar (.inl (by decide))];exact bn ⟨Z,rfl⟩
 have e5:cr L (.fn g) [.agg ((c.kd K).cells b u s kn),.ptr 10 0] (N++[.cells true 0 [pv,tv],.cells true 0 ((c.kd K).cells b u s kn),.cells true 0 (({ k:=K,nm:=c.nm }:Evc).cells .nilslice .nilslice .nilslice .nilslice)])=some ⟨.tuple [],some (N++[.cells true 0 [pv,tv],.cells true 0 ((c.kd K).cells b u s kn),.cells true 0 ((onl c).cells (mV x b) (mV x u) (mV x s) (mV y kn))]),[]⟩:=by rw[hL,ar (.inl kp.ne.1),ar (.inl kp.ne.2.1),ar (.inl kp.ne.2.2.1),ar (.inl kp.ne.2.2.2)];exact bn rfl
 have e6:∀Z,cr L (.fn g1) [.agg [pv,tv],.agg ((c.kd K).cells b u s kn)] (N++Z)=some ⟨.int .i64 e,none,[]⟩:=fun Z=>by rw[hL,ar (.inl ng.1),ar (.inl ng.2.1),ar (.inl ng.2.2.1),ar (.inl ng.2.2.2.1),ar (.inl ng.2.2.2.2)];exact bn ⟨Z,rfl⟩
 obtain⟨O,hOO⟩:∃O,O=cr L:=⟨_,rfl⟩
 rw[←hOO] at hO e5
 simp only[←hOO] at e1 e2 e3 e4 e6
 clear hOO hL
 have sel:∀(z:Bool) (v:AV),v.cellOk=true→(v.known=true∧v.cells=[v])→v.under 8=true→∃v',mV z v=v' ∧v'.cellOk=true∧(v'.known=true∧v'.cells=[v'])∧v'.under 8=true:=fun z v h1 h2 h3=>by
  cases z
  ·exact⟨_,rfl,rfl,⟨rfl,rfl⟩,rfl⟩
  ·exact⟨_,rfl,h1,h2,h3⟩
 obtain⟨b1,b2,b3,b4⟩:=hb
 obtain⟨⟨q5,q6⟩,q1,q2,q3,q4⟩:=ub
 obtain⟨z1,s1,t1,⟨v1,x1⟩,y1⟩:=sel x b b1 kb.1 q1
 obtain⟨z2,s2,t2,⟨v2,x2⟩,y2⟩:=sel x u b2 kb.2.1 q2
 obtain⟨z3,s3,t3,⟨v3,x3⟩,y3⟩:=sel x s b3 kb.2.2.1 q3
 obtain⟨z4,s4,t4,⟨v4,x4⟩,y4⟩:=sel y kn b4 kb.2.2.2 q4
 rw[s1,s2,s3,s4] at e5
 simp only[s1,s2,s3,s4] at e4
 obtain⟨⟨k1,m1⟩,⟨k2,m2⟩,⟨k3,m3⟩,⟨k4,m4⟩⟩:=kb
 subst hN
 simp only[List.cons_append,List.nil_append] at e1 e2 e3 e4 e5 e6
 obtain⟨os',hops⟩:∃os',aV Tryz.f83=os' :=⟨_,rfl⟩
 have hbs' :=cK hops (ls:=[[0,1,3,0,15],[0,1,3,0,0,31,63]]) (by kernel_rfl)
 simp only[aV,cc,Tryz.f83,List.nil_append,List.append_nil,List.cons_append] at hops
 subst hops
 simp only[List.map_cons,List.map_nil,List.cons.injEq,and_true] at hbs'
 obtain⟨hb0,hb1⟩:=hbs'
 have w0:IntKind.i64.wrap 0=0:=rfl
 obtain⟨u0,u1,u2,u3,u4,u5,u6,u7⟩:=hU
 have f0:=(ei u0).2
 have f1:=(ei u1).2
 have f2:=(ei u2).2
 have f3:=(ei u3).2
 have f4:=(ei u4).2
 have f5:=(ei u5).2
 have f6:=(ei u6).2
 have f7:=(ei u7).2
 have r1:=(dR q1).2
 have r2:=(dR q2).2
 have r3:=(dR q3).2
 have r4:=(dR q4).2
 have r5:=(dR q5).2
 have r6:=(dR q6).2
 have p1:=(dR y1).2
 have p2:=(dR y2).2
 have p3:=(dR y3).2
 have p4:=(dR y4).2
 have a0:cU [0,1,3,0,15] 4=true:=by decide
 have a1:cU [0,1,3,0,0,31,63] 6=true:=by decide
 have h:∃new,bT (aO Tryz.prog) (fun _=>[]) (aN Tryz.prog) O 1 83 [.agg [pv,tv],.agg ((c.kd K).cells b u s kn)] [.cells false n0 C0,.cells false n1 C1,.cells false n2 C2,.cells false n3 C3,.cells false n4 C4,.cells false n5 C5,.cells false n6 C6,.cells false n7 C7]=some (.int .i64 e,[.cells false n0 C0,.cells false n1 C1,.cells false n2 C2,.cells false n3 C3,.cells false n4 C4,.cells false n5 C5,.cells false n6 C6,.cells false n7 C7]++new):=by
  obtain⟨kr1,kr2⟩:=kp.rng
  clear hO hE hC hK kp
  simp only[Evc.cells,Evc.kd] at e1 e2 e3 e4 e5 e6 ⊢
  simp[cY,-AV.cellOk,-AV.known,-AV.cells,-aQ,-AV.refsOk,-List.all_eq_true,vS,rS,fnS,aA hb0,aA hb1,bN,bF,bL,a0,a1,Nat.testBit,-jS,FZ,F0,bx,aG,bT,hG,Tryz.f83,e1,e2,e3,e4,e5,e6,kr1,kr2,f0,f1,f2,f3,f4,f5,f6,f7,r1,r2,r3,r4,r5,r6,p1,p2,p3,p4]
 obtain⟨new,h⟩:=h
 exact(bQ ae (aw _) hO (ax _) h).forget rfl
end
end Go.Proofs
namespace Go.Proofs
open Go.Eng
theorem RowAt.nil0{N:Mem}{v:AV}{es n:Nat}{C:List AV}(h:RowAt N v es n C) (hn:n=0):v=.nilslice:=by
 rcases h with⟨h,_,_⟩ | ⟨_,_,_,h,_⟩
 ·exact h
 ·omega
theorem RowAt.pos{N:Mem}{v:AV}{es n:Nat}{C:List AV}(h:RowAt N v es n C) (hn:0<n):∃b o,v=.slice b 0 n none∧N[b]? =some (.cells o es C):=by
 rcases h with⟨_,h,_⟩ | ⟨b,o,h1,_,h2⟩
 ·omega
 ·exact⟨b,o,h1,h2⟩
theorem SfAt.nil0{N:Mem}{v:AV}{S:List (List (List UInt8))}(h:SfAt N v S) (hS:S=[]):v=.nilslice:=by
 obtain⟨vs,_,h,_⟩:=h
 exact h.nil0 (by rw[hS];rfl)
theorem RowAt.ck{N:Mem}{v:AV}{es n:Nat}{C:List AV}(h:RowAt N v es n C):v.cellOk=true:=by
 rcases h with⟨rfl,_⟩ | ⟨b,o,rfl,_⟩<;>rfl
theorem EvAt.l32{N:Mem}{e:List AV}{c:Evc}(h:EvAt N e c):e.length=32:=by
 obtain⟨b,u,s,kn,rfl,_⟩:=h;rfl
theorem EvAt.cok{N:Mem}{e:List AV}{c:Evc}(h:EvAt N e c):∀x∈e,x.cellOk=true:=by
 obtain⟨b,u,s,kn,rfl,h1,h2,⟨_,_,h3,_⟩,h4⟩:=h
 intro x hx
 simp only[Evc.cells,List.mem_cons,List.not_mem_nil,or_false] at hx
 rcases hx with rfl | rfl | rfl | rfl | rfl | rfl | rfl | rfl | rfl | rfl | rfl | rfl | rfl | rfl | rfl | rfl | rfl | rfl | rfl | rfl | rfl | rfl | rfl | rfl | rfl | rfl | rfl | rfl | rfl | rfl | rfl | rfl<;>first | rfl | exact h1.ck | exact h2.ck | exact h3.ck | exact h4.ck
def sl8(j n:Nat):AV:=if n=0 then .nilslice else .slice j 0 n none
theorem vU(j n:Nat):(sl8 j n).cellOk=true∧((sl8 j n).known=true∧(sl8 j n).cells=[sl8 j n]):=by unfold sl8;split<;>exact⟨rfl,rfl,rfl⟩
theorem iG{j n:Nat}(hj:j<8):(sl8 j n).under 8=true:=by
 unfold sl8;split
 ·rfl
 ·simp only[AV.under,decide_eq_true_eq];exact hj
theorem pZ{M:Mem}{x:AV}{es n:Nat}{C:List AV}(h:RowAt M x es n C) (hC:AV.closeds C=true) {p:Nat}{o:Bool}{e0:Nat}{D0:List AV}(hp:M[p]? =some (.cells o e0 D0)) (h0:AV.closeds D0=true):
  ∃k e D,(∃o,M[k]? =some (.cells o e D))∧AV.closeds D=true∧((x=.nilslice∧n=0∧C=[])∨(x=.slice k 0 n none∧0<n∧e=es∧D=C)):=by
 rcases h with⟨h1,h2,h3⟩ | ⟨b,o',h1,h2,h3⟩
 ·exact⟨p,e0,D0,⟨o,hp⟩,h0,.inl ⟨h1,h2,h3⟩⟩
 ·exact⟨b,es,C,⟨o',h3⟩,hC,.inr ⟨h1,h2,rfl,rfl⟩⟩
theorem kZ{m:Mem}{x:AV}{k e es n j:Nat}{C D:List AV}(h:(x=.nilslice∧n=0∧C=[])∨(x=.slice k 0 n none∧0<n∧e=es∧D=C)) (hm:m[j]? =some (.cells false e D)):RowAt m (sl8 j n) es n C:=by
 rcases h with⟨_,h2,h3⟩ | ⟨_,h2,rfl,rfl⟩
 ·subst h2;exact .inl ⟨rfl,rfl,h3⟩
 ·exact .inr ⟨j,false,by unfold sl8;rw[if_neg (by omega)],h2,hm⟩
theorem vd{x:AV}{k e es n j:Nat}{C D:List AV}{ks:List Nat}{L:Nat}(h:(x=.nilslice∧n=0∧C=[])∨(x=.slice k 0 n none∧0<n∧e=es∧D=C)) (hj:j<ks.length) (hk:ks.getD j 0=k):(sl8 j n).ren (eK ks L)=x:=by
 rcases h with⟨h1,h2,_⟩ | ⟨h1,h2,_⟩
 ·subst h2;rw[h1];rfl
 ·unfold sl8;rw[if_neg (by omega),h1];simp only[AV.ren,eK,hj,if_true,hk]
theorem Rb{M:Mem}{v:AV}{S:List (List (List UInt8))}(h:SfAt M v S) (hS:S.length≤2) {p:Nat}{o:Bool}{e0:Nat}{D0:List AV}(hp:M[p]? =some (.cells o e0 D0)) (h0:AV.closeds D0=true):
  ∃k5 e5 D5 D5' k6 e6 D6 k7 e7 D7,(∃o,M[k5]? =some (.cells o e5 D5'))∧((∃o,M[k6]? =some (.cells o e6 D6))∧AV.closeds D6=true)∧((∃o,M[k7]? =some (.cells o e7 D7))∧AV.closeds D7=true)∧AV.unders 8 D5=true∧
   (∀(ks:List Nat) L,ks.length=8→ks.getD 6 0=k6→ks.getD 7 0=k7→∀(j:Nat) w,D5[j]? =some w→D5'[j]? =some (w.ren (eK ks L)))∧
   (∀(ks:List Nat) L,ks.length=8→ks.getD 5 0=k5→(sl8 5 S.length).ren (eK ks L)=v)∧
   ∀m:Mem,m[5]? =some (.cells false e5 D5)→m[6]? =some (.cells false e6 D6)→m[7]? =some (.cells false e7 D7)→SfAt m (sl8 5 S.length) S:=by
 obtain⟨vs,lv,hv,hr⟩:=h
 match S,hS,lv with
 | [],_,lv=>
  have hvn:=hv.nil0 rfl
  refine⟨p,e0,D0,D0,p,e0,D0,p,e0,D0,⟨o,hp⟩,⟨⟨o,hp⟩,h0⟩,⟨⟨o,hp⟩,h0⟩,aR h0,fun ks L _ _ _ j w hw=>?_,fun ks L _ _=>hvn.symm,fun m _ _ _=>⟨[],rfl,.inl ⟨rfl,rfl,rfl⟩,fun i x L h=>by simp at h⟩⟩
  have:=aJ (ρ:=eK ks L) h0
  rw[fZ] at this
  have h2:(D0.map (AV.ren (eK ks L)))[j]? =D0[j]? :=by rw[this]
  rw[List.getElem?_map,hw] at h2
  rw[hw];exact h2.symm
 | [L1],_,lv=>
  match vs,lv with
  | [x1],_=>
   obtain⟨k5,o5,rfl,h5⟩:=hv.pos (by simp)
   obtain⟨k6,e6,D6,h6,c6,g6⟩:=pZ (hr 0 x1 L1 rfl rfl) (eg L1) hp h0
   refine⟨k5,1,[sl8 6 L1.length],[x1],k6,e6,D6,p,e0,D0,⟨o5,h5⟩,⟨h6,c6⟩,⟨⟨o,hp⟩,h0⟩,by simp only[AV.unders,iG (show 6<8 by omega),Bool.and_self],fun ks L hl h6' _ j w hw=>?_,fun ks L hl h5' =>?_,fun m m5 m6 m7=>⟨[sl8 6 L1.length],rfl,.inr ⟨5,false,rfl,by simp,m5⟩,fun i x L hx hL=>?_⟩⟩
   ·match j,hw with
    |0,hw=>cases hw;rw[vd g6 (by omega) h6'];rfl
    |j+1,hw=>simp at hw
   ·show(AV.slice 5 0 1 none).ren (eK ks L)=_
    simp only[AV.ren,eK,hl,h5'];rfl
   ·match i,hx,hL with
    |0,hx,hL=>cases hx;cases hL;exact kZ g6 m6
    |i+1,hx,_=>simp at hx
 | [L1,L2],_,lv=>
  match vs,lv with
  | [x1,x2],_=>
   obtain⟨k5,o5,rfl,h5⟩:=hv.pos (by simp)
   obtain⟨k6,e6,D6,h6,c6,g6⟩:=pZ (hr 0 x1 L1 rfl rfl) (eg L1) hp h0
   obtain⟨k7,e7,D7,h7,c7,g7⟩:=pZ (hr 1 x2 L2 rfl rfl) (eg L2) hp h0
   refine⟨k5,1,[sl8 6 L1.length,sl8 7 L2.length],[x1,x2],k6,e6,D6,k7,e7,D7,⟨o5,h5⟩,⟨h6,c6⟩,⟨h7,c7⟩,by simp only[AV.unders,iG (show 6<8 by omega),iG (show 7<8 by omega),Bool.and_self],fun ks L hl h6' h7' j w hw=>?_,fun ks L hl h5' =>?_,fun m m5 m6 m7=>⟨[sl8 6 L1.length,sl8 7 L2.length],rfl,.inr ⟨5,false,rfl,by simp,m5⟩,fun i x L hx hL=>?_⟩⟩
   ·match j,hw with
    |0,hw=>cases hw;rw[vd g6 (by omega) h6'];rfl
    |1,hw=>cases hw;rw[vd g7 (by omega) h7'];rfl
    |j+2,hw=>simp at hw
   ·show(AV.slice 5 0 2 none).ren (eK ks L)=_
    simp only[AV.ren,eK,hl,h5'];rfl
   ·match i,hx,hL with
    |0,hx,hL=>cases hx;cases hL;exact kZ g6 m6
    |1,hx,hL=>cases hx;cases hL;exact kZ g7 m7
    |i+2,hx,_=>simp at hx
theorem Le{s:Sheet}{M:Mem}{p t:Nat}{c d:Evc}{b u sv kn:AV}{e:Int}(hp:∃o,M[p]? =some (.cells o 2 (pC s.P))) (ht:∃o,M[t]? =some (.cells o 3 (tC s.T))) (hok:c.Ok) (hE:EvAt M (c.cells b u sv kn) c)
  (hS:∀(n2 n3 n4 n5 n6 n7:Nat) (C2 C3 C4 C5 C6 C7:List AV) (m:Mem),m=[.cells false 2 (pC s.P),.cells false 3 (tC s.T),.cells false n2 C2,.cells false n3 C3,.cells false n4 C4,.cells false n5 C5,.cells false n6 C6,.cells false n7 C7]→(AV.unders 8 (pC s.P)=true∧AV.unders 8 (tC s.T)=true∧AV.unders 8 C2=true∧AV.unders 8 C3=true∧AV.unders 8 C4=true∧AV.unders 8 C5=true∧AV.unders 8 C6=true∧AV.unders 8 C7=true)→
   EvAt m (c.cells (sl8 2 c.B.length) (sl8 3 c.U.length) (sl8 5 c.S.length) (sl8 4 c.K.length)) c→ACallsTo Tryz.prog 83 [.agg [.slice 0 0 s.P.length none,.slice 1 0 s.T.length none],.agg (d.cells (sl8 2 c.B.length) (sl8 3 c.U.length) (sl8 5 c.S.length) (sl8 4 c.K.length))] m (.int .i64 e) m):
  ACallsTo Tryz.prog 83 [.agg [.slice p 0 s.P.length none,.slice t 0 s.T.length none],.agg (d.cells b u sv kn)] M (.int .i64 e) M:=by
 obtain⟨o,hp⟩:=hp
 obtain⟨o',ht⟩:=ht
 obtain⟨b',u',s',kn',eq,h1,h2,h3,h4⟩:=hE
 simp only[Evc.cells,List.cons.injEq,true_and,and_true] at eq
 obtain⟨rfl,rfl,rfl,rfl⟩:=eq
 obtain⟨k2,e2,D2,⟨o2,m2⟩,c2,g2⟩:=pZ h1 (eg _) hp (fh _)
 obtain⟨k3,e3,D3,⟨o3,m3⟩,c3,g3⟩:=pZ h2 (eg _) hp (fh _)
 obtain⟨k4,e4,D4,⟨o4,m4⟩,c4,g4⟩:=pZ h4 (jq _) hp (fh _)
 obtain⟨k5,e5,D5,D5',k6,e6,D6,k7,e7,D7,⟨o5,m5⟩,⟨⟨o6,m6⟩,c6⟩,⟨⟨o7,m7⟩,c7⟩,u5,r5,rv,f5⟩:=Rb h3 hok.S hp (fh _)
 obtain⟨m,hm⟩:∃m:Mem,m=[.cells false 2 (pC s.P),.cells false 3 (tC s.T),.cells false e2 D2,.cells false e3 D3,.cells false e4 D4,.cells false e5 D5,.cells false e6 D6,.cells false e7 D7]:=⟨_,rfl⟩
 have hev:EvAt m (c.cells (sl8 2 c.B.length) (sl8 3 c.U.length) (sl8 5 c.S.length) (sl8 4 c.K.length)) c:=
  ⟨_,_,_,_,rfl,kZ g2 (by rw[hm];rfl),kZ g3 (by rw[hm];rfl),f5 m (by rw[hm];rfl) (by rw[hm];rfl) (by rw[hm];rfl),kZ g4 (by rw[hm];rfl)⟩
 have h:=hS e2 e3 e4 e5 e6 e7 D2 D3 D4 D5 D6 D7 m hm ⟨aR (fh _),aR (jB _),aR c2,aR c3,aR c4,u5,aR c6,aR c7⟩ hev
 have:=ACallsTo.frame (M:=M) (new:=[]) (args:=[.agg [.slice 0 0 s.P.length none,.slice 1 0 s.T.length none],.agg (d.cells (sl8 2 c.B.length) (sl8 3 c.U.length) (sl8 5 c.S.length) (sl8 4 c.K.length))]) [p,t,k2,k3,k4,k5,k6,k7] (m:=m) (by rw[hm];rfl) (by
  intro k hk
  simp only[List.mem_cons,List.not_mem_nil,or_false] at hk
  rcases hk with rfl | rfl | rfl | rfl | rfl | rfl | rfl | rfl
  ·exact ed hp
  ·exact ed ht
  ·exact ed m2
  ·exact ed m3
  ·exact ed m4
  ·exact ed m5
  ·exact ed m6
  ·exact ed m7) (by simp[AV.unders,AV.under,Evc.cells,iG]) (fun i x hs=>by
  subst hm
  match i,hs with
  |0,hs=>cases hs;exact dO (fh _) hp List.take_length
  |1,hs=>cases hs;exact dO (jB _) ht List.take_length
  |2,hs=>cases hs;exact dO c2 m2 List.take_length
  |3,hs=>cases hs;exact dO c3 m3 List.take_length
  |4,hs=>cases hs;exact dO c4 m4 List.take_length
  |5,hs=>cases hs;exact⟨u5,o5,D5',m5,r5 _ _ rfl rfl rfl⟩
  |6,hs=>cases hs;exact dO c6 m6 List.take_length
  |7,hs=>cases hs;exact dO c7 m7 List.take_length
  |i+8,hs=>simp at hs) rfl (by simpa using h)
 have q2:=vd (j:=2) (ks:=[p,t,k2,k3,k4,k5,k6,k7]) (L:=M.length) g2 (by simp) rfl
 have q3:=vd (j:=3) (ks:=[p,t,k2,k3,k4,k5,k6,k7]) (L:=M.length) g3 (by simp) rfl
 have q4:=vd (j:=4) (ks:=[p,t,k2,k3,k4,k5,k6,k7]) (L:=M.length) g4 (by simp) rfl
 have q5:=rv [p,t,k2,k3,k4,k5,k6,k7] M.length rfl rfl
 simp only[AV.rens,AV.ren,Evc.cells,q2,q3,q4,q5,List.map_nil,List.append_nil] at this
 simpa [eK,Evc.cells] using this
end Go.Proofs
