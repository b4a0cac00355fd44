/- See I36. -/
import Derived.Test.YtgafjliihahjgaaGreatDoorI18
import Derived.Test.YtgafjliihahjgaaGreatDoorI20
set_option linter.all false
set_option maxRecDepth 100000
set_option maxHeartbeats 40000000
namespace Go.Proofs
open Go.Eng
open Tryz
section
variable (d:Nat)
theorem Co(x y:List UInt8):mI (aU prog) (d+1) 9 (.str x) (.str y)=some (x==y):=by rw[mI];simp
theorem Jk(x y:Int):mI (aU prog) (d+1) 3 (.int .i64 x) (.int .i64 y)=some (decide (x=y)):=by rw[mI];simp
theorem oH(a b c:List UInt8):mI (aU prog) (d+2) 31 (.agg [.str a,.str b,.str c]) (.agg [.str a,.str b,.str c])=some true:=by have i:=mf d;rw[mI];simp[Tj,kJ,TyI.isAgg,i]
theorem zw(a b c o:List UInt8):mI (aU prog) (d+3) 71 (.agg [.str a,.str b,.str c,.str o]) (.agg [.str a,.str b,.str c,.str o])=some true:=by have i:=mf (d+1);have j:=oH d;rw[mI];simp[Tj,kJ,TyI.isAgg,i,j]
theorem Jj(a b c o e f g:List UInt8):mI (aU prog) (d+4) 73 (.agg [.str a,.str b,.str c,.str o,.str e,.str f,.str g]) (.agg [.str a,.str b,.str c,.str o,.str e,.str f,.str g])=some true:=by have j:=oH (d+1);have k:=zw d;rw[mI];simp[Tj,kJ,TyI.isAgg,j,k]
theorem N9(a b c o w u:List UInt8):mI (aU prog) (d+4) 78 (.agg [.str a,.str b,.str c,.str o,.str w,.str u]) (.agg [.str a,.str b,.str c,.str o,.str w,.str u])=some true:=by have i:=mf (d+2);have Z:=Co (d+2);have k:=zw d;rw[mI];simp[Tj,kJ,TyI.isAgg,i,Z,k]
theorem Oc(t u v w:Int):mI (aU prog) (d+2) 79 (.agg [.int .i64 t,.int .i64 u,.int .i64 v,.int .i64 w]) (.agg [.int .i64 t,.int .i64 u,.int .i64 v,.int .i64 w])=some true:=by have r:List.range' 0 4=[0,1,2,3]:=rfl;have i:=Jk d;rw[mI];simp only[PQ,ON,r,Yr];simp[kJ,TyI.isAgg,i]
theorem Ob(t u v w:Int)(a b c:List UInt8):mI (aU prog) (d+3) 81 (.agg [.int .i64 t,.int .i64 u,.int .i64 v,.int .i64 w,.str a,.str b,.str c]) (.agg [.int .i64 t,.int .i64 u,.int .i64 v,.int .i64 w,.str a,.str b,.str c])=some true:=by have j:=oH (d+0);have k:=Oc d;rw[mI];simp[Tj,kJ,TyI.isAgg,j,k]
end
theorem IE(M:Mem):kO prog 166 [.y9,.y9] M (.bool true) M:=by
 have W:∀M,kO prog 242 [.y9,.y9] M (.bool true) M:=fun M=>by
  have X:aS prog 242=some f242:=by kernel_rfl
  refine dv (aj _) (lv:=fun _=>[13]) (K:=3) rfl rfl ?_ M;simp[aa,X,f242,aR,fW]
 have V:adM prog (af fun f Z=>match f,Z with
   |242,[.y9,.y9]=>some (.bool true)
   |_,_=>none):=bX fun f Z v h mem=>by
  split at h
  .cases h;exact W mem
  .cases h
 have X:aS prog 166=some f166:=by kernel_rfl
 refine dv V (lv:=fun _=>[13]) (K:=3) rfl rfl ?_ M;simp[aa,X,f166,af]
theorem I6(M:Mem):kO prog 26 [.y9,.y9] M (.bool true) M:=by
 have Z:aS prog 26=some f26:=by kernel_rfl
 refine dv (aj _) (lv:=fun _=>[13]) (K:=3) rfl rfl ?_ M;simp[aa,Z,f26,aR,fW]
theorem IM(M:Mem):kO prog 168 [.y9,.y9] M (.bool true) M:=by
 have Z:aS prog 168=some f168:=by kernel_rfl
 refine dv (aj _) (lv:=fun _=>[13]) (K:=3) rfl rfl ?_ M;simp[aa,Z,f168,aR,fW]
theorem NU(M:Mem):kO prog 167 [.y9,.y9] M (.bool true) M:=by
 have W:∀M,kO prog 243 [.y9,.y9,.func 166 []] M (.bool true) M:=fun M=>by
  have X:aS prog 243=some f243:=by kernel_rfl
  refine dv (aj _) (lv:=fun _=>[17]) (K:=3) rfl rfl ?_ M;simp[aa,X,f243,aR,fW]
 have V:adM prog (af fun f Z=>match f,Z with
   |243,[.y9,.y9,.func 166 []]=>some (.bool true)
   |_,_=>none):=bX fun f Z v h mem=>by
  split at h
  .cases h;exact W mem
  .cases h
 have X:aS prog 167=some f167:=by kernel_rfl
 refine dv V (lv:=fun _=>[]) (K:=3) rfl rfl ?_ M;simp[aa,X,f167,af]
def bF:List (List UInt8):=[[101,48],[101,49],[101,50],[101,51],[101,52],[101,53],[107,48],[107,49],[107,50],[107,51],[107,52],[107,53],[65,49],[65,50],[65,51],[66,49],[66,50],[66,51],[67,49],[67,50],[67,51],[68,49],[68,50],[68,51],[69,49],[69,50],[69,51],[70,49],[70,50],[70,51],[116],[122],[102,105,110,101],[110],[110,95,97],[110,95,98],[110,95,99],[110,95,114,111,99,107]]
theorem dZ(nm:List UInt8)(h:nm∈bF)(M:Mem):kO prog 109 [.str nm] M (.int .i64 0) M:=by refine dv (aj _) (lv:=ab) (K:=9) rfl rfl ?_ M;simp only[bF,lM] at h;rcases h with h | h | h | h | h | h | h | h | h | h | h | h | h | h | h | h | h | h | h | h | h | h | h | h | h | h | h | h | h | h | h | h | h | h | h | h | h | h<;>(subst h;as_aux_lemma=>kernel_rfl)
variable{i:Nat}
theorem fc(h:i<6):bR i∈bF:=by
 have:i=0\/i=1\/i=2\/i=3\/i=4\/i=5:=by omega
 rcases this with rfl | rfl | rfl | rfl | rfl | rfl<;>decide
theorem zJ(h:i<6):ju i∈bF:=by
 have:i=0\/i=1\/i=2\/i=3\/i=4\/i=5:=by omega
 rcases this with rfl | rfl | rfl | rfl | rfl | rfl<;>decide
theorem jx{J:Nat}(h:i<6)(y:J<3):∀u∈bE i J,u∈bF:=by
 have Z:i=0\/i=1\/i=2\/i=3\/i=4\/i=5:=by omega
 have X:J=0\/J=1\/J=2:=by omega
 rcases Z with rfl | rfl | rfl | rfl | rfl | rfl<;>rcases X with rfl | rfl | rfl<;>decide
def oM:List AV:=[185,186,187,188,189,190,191,192,69,193,194,195,196,197,198,199,200,201,202,203,204,205,206,207,208].map fun i=>.func i []
theorem ID(M:Mem):kO prog 127 [] M (.agg oM) M:=by refine dv (aj _) (lv:=ab) (K:=6) rfl rfl ?_ M;as_aux_lemma=>kernel_rfl
theorem qm{T:TypeId->Option TyI}{O:af3}{N m0:Nat}{ops:Array Oper}:∀(a b:List Oper) (s:XS),fH T O N m0 ops (a++b) s=(fH T O N m0 ops a s).bind (fH T O N m0 ops b)
 | [],b,s=>rfl
 |o::a,b,s=>by
  rw[List.cons_append,fH,fH];split
  .split
   .split
    .exact qm a b _
    .rfl
   .exact qm a b _
   .rfl
  .rfl
variable{O:af3}{m0:Nat}{ops:Array Oper}
theorem gl{T:TypeId->Option TyI}{N:Nat}{a b:List Oper}{s s1:XS}{r:Option XS}(h:fH T O N m0 ops a s=some s1)(h2:fH T O N m0 ops b s1=r):fH T O N m0 ops (a++b) s=r:=by rw[qm,h];exact h2
noncomputable def aQ:Array Oper:=match f110.body with
 |some (.seq _ (.seq (.region _ ops _) _))=>ops
 |_=> #[]
noncomputable def rB:List Oper:=(aQ.toList.drop 0).take 6
noncomputable def rC:List Oper:=(aQ.toList.drop 6).take 7
noncomputable def rD:List Oper:=(aQ.toList.drop 13).take 9
noncomputable def rE:List Oper:=(aQ.toList.drop 22).take 9
noncomputable def rG:List Oper:=(aQ.toList.drop 31).take 9
noncomputable def rH:List Oper:=(aQ.toList.drop 40).take 7
noncomputable def rI:List Oper:=(aQ.toList.drop 47).take 9
noncomputable def rJ:List Oper:=(aQ.toList.drop 56).take 9
noncomputable def rK:List Oper:=(aQ.toList.drop 65).take 9
noncomputable def rL:List Oper:=(aQ.toList.drop 74).take 7
noncomputable def pG:List Oper:=(aQ.toList.drop 81).take 7
theorem Jl:aQ.toList=rB++(rC++(rD++(rE++(rG++(rH++(rI++(rJ++(rK++(rL++(pG)))))))))):=by kernel_rfl
structure Evc where
 k:Int
 nm:List UInt8
 B:List (List UInt8):=[]
 U:List (List UInt8):=[]
 S:List (List (List UInt8)):=[]
 K:List (List UInt8×List UInt8):=[]
 (t1 t2 t3 t4:Int:=0)
 (x5 x6 x7 x8 x9 x10 x11 x12 x13 x14 x16 x17 x18 x19 x20 x21 x22 x23 x24 x29 x30 x31:List UInt8:=[])
def Evc.cells(c:Evc)(b u s y:AV):List AV:=[.int .i64 c.k,.str c.nm,b,u,s,.str c.x5,.str c.x6,.str c.x7,.str c.x8,.str c.x9,.str c.x10,.str c.x11,.str c.x12,.str c.x13,.str c.x14,y,.str c.x16,.str c.x17,.str c.x18,.str c.x19,.str c.x20,.str c.x21,.str c.x22,.str c.x23,.str c.x24,.int .i64 c.t1,.int .i64 c.t2,.int .i64 c.t3,.int .i64 c.t4,.str c.x29,.str c.x30,.str c.x31]
noncomputable def Cn:Array Oper:=match f110.body with
 |some (.seq (.region _ ops _) _)=>ops
 |_=> #[]
variable{b b' kn kn' s s' u u' :AV}{c:Evc}{d:Bool}{env:Env}{mem:Mem}{p q:Nat}
section
variable (h2:ad env 2=.ptr p 0)(h3:ad env 3=.ptr q 0)(hp:mem[p]? =some (.cells true 0 (c.cells b u s kn)))(hq:mem[q]? =some (.cells true 0 (c.cells b' u' s' kn')))
include h2 h3 hp hq
theorem Od:
  ∃Z,fH (aU prog) O 92 m0 ops rB ⟨env,mem,d⟩=some ⟨Z,mem,d⟩/\ad Z 2=.ptr p 0/\ad Z 3=.ptr q 0/\ad Z 10=.bool true:=by
 have X:=fun d=>Jk d
 simp only[Evc.cells] at hp hq;simp[rB,aQ,f110,h2,h3,hp,hq]
theorem Oe(hg:(ops[5]?).bind (fun x=>x.dst)=some 10)(h1:ad env 10=.bool true):
  ∃Z,fH (aU prog) O 92 m0 ops rC ⟨env,mem,d⟩=some ⟨Z,mem,d⟩/\ad Z 2=.ptr p 0/\ad Z 3=.ptr q 0/\ad Z 17=.bool true:=by
 have X:=fun d=>Co d
 simp only[Evc.cells] at hp hq;simp[rC,aQ,f110,h2,h3,hp,hq,hg,h1]
theorem Of(hg:(ops[12]?).bind (fun x=>x.dst)=some 17)(h1:ad env 17=.bool true)(y:O (.fn 166) [b,b'] mem=some ⟨.bool true,none,[]⟩):
  ∃Z,fH (aU prog) O 92 m0 ops rD ⟨env,mem,d⟩=some ⟨Z,mem,d⟩/\ad Z 2=.ptr p 0/\ad Z 3=.ptr q 0/\ad Z 26=.bool true:=by
 simp only[Evc.cells] at hp hq;simp[rD,aQ,f110,h2,h3,hp,hq,hg,h1,y]
theorem Og(hg:(ops[21]?).bind (fun x=>x.dst)=some 26)(h1:ad env 26=.bool true)(y:O (.fn 26) [u,u'] mem=some ⟨.bool true,none,[]⟩):
  ∃Z,fH (aU prog) O 92 m0 ops rE ⟨env,mem,d⟩=some ⟨Z,mem,d⟩/\ad Z 2=.ptr p 0/\ad Z 3=.ptr q 0/\ad Z 35=.bool true:=by
 simp only[Evc.cells] at hp hq;simp[rE,aQ,f110,h2,h3,hp,hq,hg,h1,y]
theorem Oh(hg:(ops[30]?).bind (fun x=>x.dst)=some 35)(h1:ad env 35=.bool true)(y:O (.fn 167) [s,s'] mem=some ⟨.bool true,none,[]⟩):
  ∃Z,fH (aU prog) O 92 m0 ops rG ⟨env,mem,d⟩=some ⟨Z,mem,d⟩/\ad Z 2=.ptr p 0/\ad Z 3=.ptr q 0/\ad Z 44=.bool true:=by
 simp only[Evc.cells] at hp hq;simp[rG,aQ,f110,h2,h3,hp,hq,hg,h1,y]
theorem Oi(hg:(ops[39]?).bind (fun x=>x.dst)=some 44)(h1:ad env 44=.bool true):
  ∃Z,fH (aU prog) O 92 m0 ops rH ⟨env,mem,d⟩=some ⟨Z,mem,d⟩/\ad Z 2=.ptr p 0/\ad Z 3=.ptr q 0/\ad Z 51=.bool true:=by
 have X:=fun d=>Jj d
 simp only[Evc.cells] at hp hq;simp[rH,aQ,f110,h2,h3,hp,hq,hg,h1,X]
theorem Oj(hg:(ops[46]?).bind (fun x=>x.dst)=some 51)(h1:ad env 51=.bool true):
  ∃Z,fH (aU prog) O 92 m0 ops rI ⟨env,mem,d⟩=some ⟨Z,mem,d⟩/\ad Z 2=.ptr p 0/\ad Z 3=.ptr q 0/\ad Z 60=.bool true:=by
 have X:=fun d=>oH d
 simp only[Evc.cells] at hp hq;simp[rI,aQ,f110,h2,h3,hp,hq,hg,h1,X]
theorem Ol(hg:(ops[55]?).bind (fun x=>x.dst)=some 60)(h1:ad env 60=.bool true)(y:O (.fn 168) [kn,kn'] mem=some ⟨.bool true,none,[]⟩):
  ∃Z,fH (aU prog) O 92 m0 ops rJ ⟨env,mem,d⟩=some ⟨Z,mem,d⟩/\ad Z 2=.ptr p 0/\ad Z 3=.ptr q 0/\ad Z 69=.bool true:=by
 simp only[Evc.cells] at hp hq;simp[rJ,aQ,f110,h2,h3,hp,hq,hg,h1,y]
theorem Om(hg:(ops[64]?).bind (fun x=>x.dst)=some 69)(h1:ad env 69=.bool true):
  ∃Z,fH (aU prog) O 92 m0 ops rK ⟨env,mem,d⟩=some ⟨Z,mem,d⟩/\ad Z 2=.ptr p 0/\ad Z 3=.ptr q 0/\ad Z 78=.bool true:=by
 have X:=fun d=>oH d
 simp only[Evc.cells] at hp hq;simp[rK,aQ,f110,h2,h3,hp,hq,hg,h1,X]
theorem On(hg:(ops[73]?).bind (fun x=>x.dst)=some 78)(h1:ad env 78=.bool true):
  ∃Z,fH (aU prog) O 92 m0 ops rL ⟨env,mem,d⟩=some ⟨Z,mem,d⟩/\ad Z 2=.ptr p 0/\ad Z 3=.ptr q 0/\ad Z 85=.bool true:=by
 have X:=fun d=>N9 d
 simp only[Evc.cells] at hp hq;simp[rL,aQ,f110,h2,h3,hp,hq,hg,h1,X]
theorem Jm(hg:(ops[80]?).bind (fun x=>x.dst)=some 85)(h1:ad env 85=.bool true):
  ∃Z,fH (aU prog) O 92 m0 ops pG ⟨env,mem,d⟩=some ⟨Z,mem,d⟩/\ad Z 2=.ptr p 0/\ad Z 3=.ptr q 0/\ad Z 4=.bool true:=by
 have X:=fun d=>Ob d
 simp only[Evc.cells] at hp hq;simp[pG,aQ,f110,h2,h3,hp,hq,hg,h1,X]
theorem Rq(y:O (.fn 166) [b,b'] mem=some ⟨.bool true,none,[]⟩)(H:O (.fn 26) [u,u'] mem=some ⟨.bool true,none,[]⟩)(I:O (.fn 167) [s,s'] mem=some ⟨.bool true,none,[]⟩)(Q:O (.fn 168) [kn,kn'] mem=some ⟨.bool true,none,[]⟩):
  ∃AC,fH (aU prog) O 92 m0 aQ aQ.toList ⟨env,mem,d⟩=some ⟨AC,mem,d⟩/\ad AC 4=.bool true:=by
 have g1:(aQ[5]?).bind (fun x=>x.dst)=some 10:=by kernel_rfl
 have g2:(aQ[12]?).bind (fun x=>x.dst)=some 17:=by kernel_rfl
 have g3:(aQ[21]?).bind (fun x=>x.dst)=some 26:=by kernel_rfl
 have g4:(aQ[30]?).bind (fun x=>x.dst)=some 35:=by kernel_rfl
 have g5:(aQ[39]?).bind (fun x=>x.dst)=some 44:=by kernel_rfl
 have g6:(aQ[46]?).bind (fun x=>x.dst)=some 51:=by kernel_rfl
 have g7:(aQ[55]?).bind (fun x=>x.dst)=some 60:=by kernel_rfl
 have g8:(aQ[64]?).bind (fun x=>x.dst)=some 69:=by kernel_rfl
 have g9:(aQ[73]?).bind (fun x=>x.dst)=some 78:=by kernel_rfl
 have Z:(aQ[80]?).bind (fun x=>x.dst)=some 85:=by kernel_rfl
 obtain⟨e0,r0,X,W,b0⟩:=Od (O:=O) (m0:=m0) (ops:=aQ) (d:=d) h2 h3 hp hq;obtain⟨e1,r1,V,S,b1⟩:=Oe (O:=O) (m0:=m0) (ops:=aQ) (d:=d) X W hp hq g1 b0;obtain⟨e2,r2,M,K,b2⟩:=Of (O:=O) (m0:=m0) (ops:=aQ) (d:=d) V S hp hq g2 b1 y;obtain⟨e3,r3,J,G,b3⟩:=Og (O:=O) (m0:=m0) (ops:=aQ) (d:=d) M K hp hq g3 b2 H;obtain⟨e4,r4,F,D,b4⟩:=Oh (O:=O) (m0:=m0) (ops:=aQ) (d:=d) J G hp hq g4 b3 I;obtain⟨e5,r5,C,B,b5⟩:=Oi (O:=O) (m0:=m0) (ops:=aQ) (d:=d) F D hp hq g5 b4;obtain⟨e6,r6,A,z,b6⟩:=Oj (O:=O) (m0:=m0) (ops:=aQ) (d:=d) C B hp hq g6 b5;obtain⟨e7,r7,m,j,b7⟩:=Ol (O:=O) (m0:=m0) (ops:=aQ) (d:=d) A z hp hq g7 b6 Q;obtain⟨e8,r8,Y,R,b8⟩:=Om (O:=O) (m0:=m0) (ops:=aQ) (d:=d) m j hp hq g8 b7;obtain⟨e9,r9,afv,afw,b9⟩:=On (O:=O) (m0:=m0) (ops:=aQ) (d:=d) Y R hp hq g9 b8;obtain⟨e10,r10,afM,afN,b10⟩:=Jm (O:=O) (m0:=m0) (ops:=aQ) (d:=d) afv afw hp hq Z b9;exact⟨e10,by rw[Jl];exact gl r0 (gl r1 (gl r2 (gl r3 (gl r4 (gl r5 (gl r6 (gl r7 (gl r8 (gl r9 (r10)))))))))),b10⟩
end
variable{m:Mem}
theorem QX(y:adM prog O)(H:O (.fn 166) [b,b'] (m++[.cells true 0 (c.cells b u s kn),.cells true 0 (c.cells b' u' s' kn')])=some ⟨.bool true,none,[]⟩)(I:O (.fn 26) [u,u'] (m++[.cells true 0 (c.cells b u s kn),.cells true 0 (c.cells b' u' s' kn')])=some ⟨.bool true,none,[]⟩)(Q:O (.fn 167) [s,s'] (m++[.cells true 0 (c.cells b u s kn),.cells true 0 (c.cells b' u' s' kn')])=some ⟨.bool true,none,[]⟩)(R:O (.fn 168) [kn,kn'] (m++[.cells true 0 (c.cells b u s kn),.cells true 0 (c.cells b' u' s' kn')])=some ⟨.bool true,none,[]⟩):
  kO prog 110 [.agg (c.cells b u s kn),.agg (c.cells b' u' s' kn')] m (.bool true) m:=by
 have M:aS prog 110=some f110:=by kernel_rfl
 obtain⟨ops,W⟩:=xE aQ;obtain⟨F,V⟩:=wE (p:=fun e (_:Bool)=>ad e 2=.ptr m.length 0/\ad e 3=.ptr (m.length+1) 0) (q:=fun env (_:Bool) AC =>fH (aU prog) O 92 m.length ops ops.toList ⟨env,(m++[.cells true 0 (c.cells b u s kn),.cells true 0 (c.cells b' u' s' kn')]),false⟩=some ⟨AC,(m++[.cells true 0 (c.cells b u s kn),.cells true 0 (c.cells b' u' s' kn')]),false⟩/\ad AC 4=.bool true) (fun env _ h=>by
  subst W;have K:((m++[.cells true 0 (c.cells b u s kn),.cells true 0 (c.cells b' u' s' kn')]))[m.length]? =some (.cells true 0 (c.cells b u s kn)):=by simp
  have hq:((m++[.cells true 0 (c.cells b u s kn),.cells true 0 (c.cells b' u' s' kn')]))[m.length+1]? =some (.cells true 0 (c.cells b' u' s' kn')):=by simp
  exact Rq h.1 h.2 K hq H I Q R)
 have S:=fun env X h3=>(V env false ⟨X,h3⟩).1
 have Z:=fun env X h3=>(V env false ⟨X,h3⟩).2
 refine fM y ?_;have J:f110.body=some (.seq (.region 0 Cn false) (.seq (.region 1 ops false) .ret)):=by rw[W];kernel_rfl
 unfold aa;rw[M];dsimp only;rw[J];dsimp only;simp only[Evc.cells] at S Z |-;simp[S,Z,Cn,f110]
theorem ko(y:adM prog O){k t1 t2 t3 t4:Int}{nm x5 x6 x7 x8 x9 x10 x11 x12 x13 x14 x16 x17 x18 x19 x20 x21 x22 x23 x24 x29 x30 x31:List UInt8}(H:O (.fn 166) [b,b] (m++[.cells true 0 [.int .i64 k,.str nm,b,u,s,.str x5,.str x6,.str x7,.str x8,.str x9,.str x10,.str x11,.str x12,.str x13,.str x14,kn,.str x16,.str x17,.str x18,.str x19,.str x20,.str x21,.str x22,.str x23,.str x24,.int .i64 t1,.int .i64 t2,.int .i64 t3,.int .i64 t4,.str x29,.str x30,.str x31],.cells true 0 [.int .i64 k,.str nm,b,u,s,.str x5,.str x6,.str x7,.str x8,.str x9,.str x10,.str x11,.str x12,.str x13,.str x14,kn,.str x16,.str x17,.str x18,.str x19,.str x20,.str x21,.str x22,.str x23,.str x24,.int .i64 t1,.int .i64 t2,.int .i64 t3,.int .i64 t4,.str x29,.str x30,.str x31]])=some ⟨.bool true,none,[]⟩)(I:O (.fn 26) [u,u] (m++[.cells true 0 [.int .i64 k,.str nm,b,u,s,.str x5,.str x6,.str x7,.str x8,.str x9,.str x10,.str x11,.str x12,.str x13,.str x14,kn,.str x16,.str x17,.str x18,.str x19,.str x20,.str x21,.str x22,.str x23,.str x24,.int .i64 t1,.int .i64 t2,.int .i64 t3,.int .i64 t4,.str x29,.str x30,.str x31],.cells true 0 [.int .i64 k,.str nm,b,u,s,.str x5,.str x6,.str x7,.str x8,.str x9,.str x10,.str x11,.str x12,.str x13,.str x14,kn,.str x16,.str x17,.str x18,.str x19,.str x20,.str x21,.str x22,.str x23,.str x24,.int .i64 t1,.int .i64 t2,.int .i64 t3,.int .i64 t4,.str x29,.str x30,.str x31]])=some ⟨.bool true,none,[]⟩)(Q:O (.fn 167) [s,s] (m++[.cells true 0 [.int .i64 k,.str nm,b,u,s,.str x5,.str x6,.str x7,.str x8,.str x9,.str x10,.str x11,.str x12,.str x13,.str x14,kn,.str x16,.str x17,.str x18,.str x19,.str x20,.str x21,.str x22,.str x23,.str x24,.int .i64 t1,.int .i64 t2,.int .i64 t3,.int .i64 t4,.str x29,.str x30,.str x31],.cells true 0 [.int .i64 k,.str nm,b,u,s,.str x5,.str x6,.str x7,.str x8,.str x9,.str x10,.str x11,.str x12,.str x13,.str x14,kn,.str x16,.str x17,.str x18,.str x19,.str x20,.str x21,.str x22,.str x23,.str x24,.int .i64 t1,.int .i64 t2,.int .i64 t3,.int .i64 t4,.str x29,.str x30,.str x31]])=some ⟨.bool true,none,[]⟩)(R:O (.fn 168) [kn,kn] (m++[.cells true 0 [.int .i64 k,.str nm,b,u,s,.str x5,.str x6,.str x7,.str x8,.str x9,.str x10,.str x11,.str x12,.str x13,.str x14,kn,.str x16,.str x17,.str x18,.str x19,.str x20,.str x21,.str x22,.str x23,.str x24,.int .i64 t1,.int .i64 t2,.int .i64 t3,.int .i64 t4,.str x29,.str x30,.str x31],.cells true 0 [.int .i64 k,.str nm,b,u,s,.str x5,.str x6,.str x7,.str x8,.str x9,.str x10,.str x11,.str x12,.str x13,.str x14,kn,.str x16,.str x17,.str x18,.str x19,.str x20,.str x21,.str x22,.str x23,.str x24,.int .i64 t1,.int .i64 t2,.int .i64 t3,.int .i64 t4,.str x29,.str x30,.str x31]])=some ⟨.bool true,none,[]⟩):
  kO prog 110 [.agg [.int .i64 k,.str nm,b,u,s,.str x5,.str x6,.str x7,.str x8,.str x9,.str x10,.str x11,.str x12,.str x13,.str x14,kn,.str x16,.str x17,.str x18,.str x19,.str x20,.str x21,.str x22,.str x23,.str x24,.int .i64 t1,.int .i64 t2,.int .i64 t3,.int .i64 t4,.str x29,.str x30,.str x31],.agg [.int .i64 k,.str nm,b,u,s,.str x5,.str x6,.str x7,.str x8,.str x9,.str x10,.str x11,.str x12,.str x13,.str x14,kn,.str x16,.str x17,.str x18,.str x19,.str x20,.str x21,.str x22,.str x23,.str x24,.int .i64 t1,.int .i64 t2,.int .i64 t3,.int .i64 t4,.str x29,.str x30,.str x31]] m (.bool true) m:=
 QX y (c:={ k:=k,nm:=nm,t1:=t1,t2:=t2,t3:=t3,t4:=t4,x5:=x5,x6:=x6,x7:=x7,x8:=x8,x9:=x9,x10:=x10,x11:=x11,x12:=x12,x13:=x13,x14:=x14,x16:=x16,x17:=x17,x18:=x18,x19:=x19,x20:=x20,x21:=x21,x22:=x22,x23:=x23,x24:=x24,x29:=x29,x30:=x30,x31:=x31 }) H I Q R
def xf:af3:=af fun f Z=>match f,Z with
 |127,[]=>some (.agg oM)
 |_,_=>none
theorem jB:adM prog xf:=bX fun f Z v h mem=>by
 split at h
 .cases h;exact ID mem
 .cases h
theorem BQ(nm:List UInt8)(n:Z3)(o:Int)(s:Z3)(M:Mem):kO prog 77 [.agg (cO nm n o s)] M (.agg ((oM.drop 5).take 5)) M:=by refine dv jB (lv:=ab) (K:=6) rfl rfl ?_ M;as_aux_lemma=>kernel_rfl
theorem El(nm:List UInt8)(n:Z3)(o w:Int)(u:List UInt8)(M:Mem):kO prog 77 [.agg (dY nm n o w u)] M (.agg ((oM.drop 15).take 5)) M:=by refine dv jB (lv:=ab) (K:=6) rfl rfl ?_ M;as_aux_lemma=>kernel_rfl
theorem Em(nm:List UInt8)(t:Int×Int×Int×Int)(c:Z3)(M:Mem):kO prog 77 [.agg (eG nm t c)] M (.agg ((oM.drop 20).take 5)) M:=by refine dv jB (lv:=ab) (K:=6) rfl rfl ?_ M;as_aux_lemma=>kernel_rfl
def tL:af3:=af fun f Z=>match f,Z with
 |166,[.y9,.y9]=>some (.bool true)
 |26,[.y9,.y9]=>some (.bool true)
 |167,[.y9,.y9]=>some (.bool true)
 |168,[.y9,.y9]=>some (.bool true)
 |_,_=>none
theorem jC:adM prog tL:=bX fun f Z v h mem=>by
 split at h
 .cases h;exact IE mem
 .cases h;exact I6 mem
 .cases h;exact NU mem
 .cases h;exact IM mem
 .cases h
theorem BM(nm:List UInt8)(n:Z3)(o:Int)(s:Z3)(M:Mem):kO prog 110 [.agg (cO nm n o s),.agg (cO nm n o s)] M (.bool true) M:=
 ko jC rfl rfl rfl rfl
theorem Ei(nm:List UInt8)(n:Z3)(o w:Int)(u:List UInt8)(M:Mem):kO prog 110 [.agg (dY nm n o w u),.agg (dY nm n o w u)] M (.bool true) M:=
 ko jC rfl rfl rfl rfl
theorem Ek(nm:List UInt8)(t:Int×Int×Int×Int)(c:Z3)(M:Mem):kO prog 110 [.agg (eG nm t c),.agg (eG nm t c)] M (.bool true) M:=
 ko jC rfl rfl rfl rfl
theorem OF(t u v w:Int)(h:(t,u,v,w)∈[cK 0,cK 1,cK 2,cK 3,cK 4,cK 5]):(A8 (aU prog) ab (aS prog) bD 8 6 (.fn 245) [.agg [.int .i64 t,.int .i64 u,.int .i64 v,.int .i64 w]] []).map (fun r=>(r.v,r.mem []))=some (.int .i64 0,[]++[]):=by simp only[lM,cK,Prod.mk.injEq] at h;rcases h with⟨rfl,rfl,rfl,rfl⟩ | ⟨rfl,rfl,rfl,rfl⟩ | ⟨rfl,rfl,rfl,rfl⟩ | ⟨rfl,rfl,rfl,rfl⟩ | ⟨rfl,rfl,rfl,rfl⟩ | ⟨rfl,rfl,rfl,rfl⟩<;>(as_aux_lemma=>kernel_rfl)
theorem Ey(i:Nat)(M:Mem):kO prog 245 [.agg [.int .i64 (cK i).1,.int .i64 (cK i).2.1,.int .i64 (cK i).2.2.1,.int .i64 (cK i).2.2.2]] M (.int .i64 0) M:=by
 refine kO.lift rfl rfl (eh (new:=[]) ae (al _) (ao _) (aj _) (OF _ _ _ _ ?_)) M
 match i with
 |0 | 1 | 2 | 3 | 4 | n+5=>simp[cK]
open Classical in
noncomputable def dR:List (FuncId×List AV×AV)->FuncId->List AV->Option AV
 | [],_,_=>none
 |x::L,f,args=>if f=x.1/\args=x.2.1 then some x.2.2 else dR L f args
variable{P:Program}
theorem gQ{L:List (FuncId×List AV×AV)}(h:∀x∈L,∀M,kO P x.1 x.2.1 M x.2.2 M):adM P (af (dR L)):=bX fun f X v Z mem=>by
 induction L with
 |nil=>simp[dR] at Z
 |cons x L ih=>
  rw[dR] at Z;split at Z
  .rename_i hc
   cases Z;rw[hc.1,hc.2];exact h x (by simp) mem
  .exact ih (fun y W=>h y (by simp[W])) Z
noncomputable def pB(n:Z3)(o:Int)(s:Z3):List (FuncId×List AV×AV):=[
 (254,[.agg [.str (zS n.1),.str (zS n.2.1),.str (zS n.2.2),.str (zS o)]],.int .i64 0),
 (255,[zA s,zA n],.int .i64 0)]
theorem Gw(nm:List UInt8)(n:Z3)(o:Int)(s:Z3)(H:fR 1000 n)(I:jt n=false)(Q:o.natAbs<=1000)(hs:fR 1000 s)(hd:Iq s n=0)(x y:AV)(m:Mem):
  kO prog 191 [.agg [x,y],.agg (cO nm n o s)] m (.int .i64 0) m:=by
 have Z:aS prog 191=some f191:=by kernel_rfl
 have X:adM prog (af (dR (pB n o s))):=gQ fun e he M=>by
  simp only[pB,lM] at he;rcases he with rfl | rfl
  .exact qA n o H I Q M
  .exact BA s n hs H hd M
 refine fM X ?_;simp[aa,Z,f191,af,pB,dR,cO,zA]
noncomputable def nq(t:Int×Int×Int×Int)(c:Z3):List (FuncId×List AV×AV):=[
 (245,[.agg [.int .i64 t.1,.int .i64 t.2.1,.int .i64 t.2.2.1,.int .i64 t.2.2.2]],.int .i64 0),
 (14,[zA c],.int .i64 0)]
theorem wU(c:Z3)(hc:fR 1000 c)(M:Mem):kO prog 14 [zA c] M (.int .i64 0) M:=by have Z:=XW hc;obtain⟨X,W,h3⟩:=hc;have V:=gG (n:=c.1) (by omega);have S:=gG (n:=c.2.1) (by omega);have K:=gG (n:=c.2.2) (by omega);have:=jK (zS c.1) (zS c.2.1) (zS c.2.2) (by unfold zS;omega) (by unfold zS;omega) (by unfold zS;omega) M;rw[Z] at this;exact this
theorem Iz(nm:List UInt8)(i:Nat)(c:Z3)(hc:fR 1000 c)(x y:AV)(m:Mem):
  kO prog 205 [.agg [x,y],.agg (eG nm (cK i) c)] m (.int .i64 0) m:=by
 have X:aS prog 205=some f205:=by kernel_rfl
 have Z:adM prog (af (dR (nq (cK i) c))):=gQ fun e he M=>by
  simp only[nq,lM] at he;rcases he with rfl | rfl
  .exact Ey i M
  .exact wU c hc M
 obtain⟨t,W⟩:=xE (cK i);rw[<-W] at Z |-;have h:aa (aU prog) (fun _=>[]) (aS prog) (af (dR (nq t c))) 1 205 [.agg [x,y],.agg (eG nm t c)] m=some ⟨.int .i64 0,none,[]⟩:=by simp[aa,X,f205,af,nq,dR,eG,zA]
 have:=(ah ae (al _) Z (ao _) h).1;simpa [afA.mem] using this
noncomputable def rA(n:Z3)(o w:Int)(u:List UInt8):List (FuncId×List AV×AV):=[
 (254,[.agg [.str (zS n.1),.str (zS n.2.1),.str (zS n.2.2),.str (zS o)]],.int .i64 0),
 (55,[.str (aB (hQ w))],.int .i64 0),
 (89,[.str (aB (hQ w))],.int .i64 1),
 (109,[.str u],.int .i64 0)]
theorem Zh{w:Int}(h:0<w):0<hQ w:=by
 rw[zL];have:(0:Rat)<(w:Rat):=by exact_mod_cast h
 grind
theorem Ix(nm:List UInt8)(n:Z3)(o w:Int)(u:List UInt8)(H:fR 1000 n)(I:jt n=false)(Q:o.natAbs<=1000)(R:0<w)(Y:w<1000)(hu:u∈bF)(x y:AV)(m:Mem):
  kO prog 200 [.agg [x,y],.agg (dY nm n o w u)] m (.int .i64 0) m:=by
 have Z:aS prog 200=some f200:=by kernel_rfl
 have S:=Di (z:=w) (by omega);have X:adM prog (af (dR (rA n o w u))):=gQ fun e he M=>by
  simp only[rA,lM] at he;rcases he with rfl | rfl | rfl | rfl
  .exact qA n o H I Q M
  .have:=qX (aB (hQ w)) (by omega) M
   rw[vR ((UN (z:=w) (by omega)).mono (by omega) (by omega))] at this;exact this
  .have:=B0 (hQ w) M
   have W:=Zh R;rw[show oB (hQ w)=1 by
    have K:0<(hQ w).num:=Rat.intCast_pos.mp W;have V:¬(hQ w).num<0:=by omega
    have h3:¬(hQ w).num=0:=by omega
    simp[oB,oz,V,h3]] at this
   exact this
  .exact dZ u hu M
 refine fM X ?_;simp[aa,Z,f200,af,rA,dR,dY]
theorem ft(s:af8)(M:Mem)(b c:Nat)(o o' :Bool)(y:M[b]? =some (.cells o 2 (pC s.P)))(hc:M[c]? =some (.cells o' 3 (tC s.T))):
  kO prog 59 [.agg [.slice b 0 s.P.length none,.slice c 0 s.T.length none]] M (.int .i64 0) M:=by
 have X:=gL y;have W :=gL hc;have:=kO.frame (M:=M) (new:=[]) [b,c] rfl (by simp[X,W]) (by rfl) (fun i t Z=>by
  match i with
  |0=>simp at Z;subst Z;exact bY (fl _) y O1
  |1=>simp at Z;subst Z;exact bY (gA _) hc O1
  |i+2=>simp at Z) rfl (GF s)
 simpa [AV.agd,AV.ren,eg] using this
open Classical in
noncomputable def iY:List (FuncId×List AV×Mem×afA)->af3
 | [],_,_,_=>none
 |x::L,c,args,M=>if c=.fn x.1/\args=x.2.1/\M=x.2.2.1 then some x.2.2.2 else iY L c args M
theorem kQ{L:List (FuncId×List AV×Mem×afA)}(h:∀x∈L,kO P x.1 x.2.1 x.2.2.1 x.2.2.2.v (x.2.2.2.mem x.2.2.1)/\∀p,x.2.2.2.pre=some p->p.length=x.2.2.1.length):adM P (iY L):=by
 have k:∀c Z M r,iY L c Z M=some r->∃x∈L,c=.fn x.1/\Z=x.2.1/\M=x.2.2.1/\r=x.2.2.2:=by
  clear h;intro c Z M r X;induction L with
  |nil=>simp[iY] at X
  |cons x L ih=>
   rw[iY] at X;split at X
   .rename_i hc
    cases X;exact⟨x,by simp,hc.1,hc.2.1,hc.2.2,rfl⟩
   .obtain⟨y,S,W⟩:=ih X
    exact⟨y,by simp[S],W⟩
 refine⟨fun f Z M r X=>?_,fun b Z M r X=>?_,fun c Z M r p X K=>?_⟩
 .obtain⟨x,V,W,rfl,rfl,rfl⟩:=k _ _ _ _ X
  cases W;exact(h x V).1
 .obtain⟨x,V,W,_⟩:=k _ _ _ _ X
  cases W
 .obtain⟨x,V,W,rfl,rfl,rfl⟩:=k _ _ _ _ X
  exact(h x V).2 p K
def iy(s:af8)(y:List AV):Mem:=[.cells false 2 (pC s.P),.cells false 3 (tC s.T),.cells true 0 [.slice 0 0 s.P.length none,.slice 1 0 s.T.length none],.cells true 0 y]
def dH(k:Int)(nm:List UInt8):List AV:=[.int .i64 k,.str nm,.y9,.y9,.y9,.str [],.str [],.str [],.str [],.str [],.str [],.str [],.str [],.str [],.str [],.y9,.str [],.str [],.str [],.str [],.str [],.str [],.str [],.str [],.str [],.int .i64 0,.int .i64 0,.int .i64 0,.int .i64 0,.str [],.str [],.str []]
theorem yn(y:af8)(nm:List UInt8)(n:Z3)(o:Int)(s:Z3):
  kO prog 190 [.agg (cO nm n o s),.ptr 4 0] (iy y (cO nm n o s)++[.cells true 0 (dH 2 nm)]) (.tuple []) (iy y (cO nm n o s)++[.cells true 0 (cO nm n o s)]):=by
 have Z:aS prog 190=some f190:=by kernel_rfl
 have h:aa (aU prog) (fun _=>[]) (aS prog) bD 1 190 [.agg (cO nm n o s),.ptr 4 0] (iy y (cO nm n o s)++[.cells true 0 (dH 2 nm)])=some ⟨.tuple [],some (iy y (cO nm n o s)++[.cells true 0 (cO nm n o s)]),[]⟩:=by simp[aa,Z,f190,iy,dH,cO,fB,fQ,iH,kj]
 have:=(ah ae (al _) (aj _) (ao _) h).1;simpa [afA.mem] using this
noncomputable def lT(nm:List UInt8)(y:List AV):List (FuncId×List AV×AV):=[
 (109,[.str nm],.int .i64 0),
 (77,[.agg y],.agg [.func 190 [],.func 191 [],.func 192 [],.func 69 [],.func 193 []]),
 (110,[.agg y,.agg y],.bool true)]
def shA(s:af8):AV:=.agg [.slice 0 0 s.P.length none,.slice 1 0 s.T.length none]
noncomputable def lU(H:af8)(nm:List UInt8)(y:List AV):List (FuncId×List AV×Mem×afA):=[
 (59,[shA H],iy H y,⟨.int .i64 0,none,[]⟩),
 (190,[.agg y,.ptr 4 0],iy H y++[.cells true 0 (dH 2 nm)],⟨.tuple [],some (iy H y++[.cells true 0 y]),[]⟩),
 (191,[shA H,.agg y],iy H y++[.cells true 0 y],⟨.int .i64 0,none,[]⟩)]
theorem adM.or'{y :af3}(h:adM P O)(h' :adM P y):adM P (af3.or O y):=by
 have k:∀c Z mem r,af3.or O y c Z mem=some r->O c Z mem=some r\/y c Z mem=some r:=fun c Z mem r X=>by
  unfold af3.or at X;split at X
  .rename_i q hq
   cases X;exact .inl hq
  .exact .inr X
 refine⟨fun f Z mem r X=>?_,fun f Z mem r X=>?_,fun c Z mem r p X W=>?_⟩
 .rcases k _ _ _ _ X with h1 | h1
  .exact h.fn _ _ _ _ h1
  .exact h'.fn _ _ _ _ h1
 .rcases k _ _ _ _ X with h1 | h1
  .exact h.yld _ _ _ _ h1
  .exact h'.yld _ _ _ _ h1
 .rcases k _ _ _ _ X with h1 | h1
  .exact h.pre _ _ _ _ _ h1 W
  .exact h'.pre _ _ _ _ _ h1 W
theorem iz(a b c d e:AV):oQ (aU prog) 168 (.agg [a,b,c,d,e]) 0=some a:=by kernel_rfl
theorem iA(a b c d e:AV):oQ (aU prog) 168 (.agg [a,b,c,d,e]) 1=some b:=by kernel_rfl
theorem ah2:aS prog 61=some f61:=by kernel_rfl
theorem ah3:be [0,1,3,0,15] 4=true:=by decide
theorem ah4:be [0,1,3,0,0,31,63] 6=true:=by decide
theorem wP(y:af8)(nm:List UInt8)(n:Z3)(o:Int)(s:Z3)(H:nm∈bF)(I:fR 1000 n)(Q:jt n=false)(R:o.natAbs<=1000)(hs:fR 1000 s)(hd:Iq s n=0):
  kO prog 61 [shA y,.agg (cO nm n o s)] [.cells false 2 (pC y.P),.cells false 3 (tC y.T)] (.int .i64 0) [.cells false 2 (pC y.P),.cells false 3 (tC y.T)]:=by
 obtain⟨F,V⟩:∃F,aN f61=F:=⟨_,rfl⟩
 have D:=bP V (ls:=[[0,1,3,0,15],[0,1,3,0,0,31,63]]) (by kernel_rfl);simp only[aN,cj,f61,lA] at V;subst V;simp only[lB] at D;obtain⟨S,K⟩:=D;obtain⟨W,Z⟩:=xE (cO nm n o s);have J:adM prog (af (dR (lT nm W))):=gQ fun e he M=>by
  simp only[lT,lM] at he;subst Z;rcases he with rfl | rfl | rfl
  .exact dZ nm H M
  .exact BQ nm n o s M
  .exact BM nm n o s M
 have G:adM prog (iY (lU y nm W)):=kQ fun e he=>by
  simp only[lU,lM] at he;subst Z;rcases he with rfl | rfl | rfl
  .exact⟨by simpa [afA.mem,shA] using ft y (iy y (cO nm n o s)) 0 1 false false rfl rfl,by simp⟩
  .exact⟨by simpa [afA.mem] using yn y nm n o s,by simp[iy]⟩
  .exact⟨by simpa [afA.mem,shA] using Gw nm n o s I Q R hs hd _ _ _,by simp⟩
 have C:=adM.or' J G;obtain⟨O,X⟩:=xE (af3.or (af (dR (lT nm W))) (iY (lU y nm W)));rw[<-X] at C;have h:aa (aU prog) (fun _=>[]) (aS prog) O 1 61 [shA y,.agg (cO nm n o s)] [.cells false 2 (pC y.P),.cells false 3 (tC y.T)]=some ⟨.int .i64 0,some [.cells false 2 (pC y.P),.cells false 3 (tC y.T)],[]⟩:=by rw[X,Z];simp[dh,-aJ,ak S,ak K,bt,bj,bp,ah3,ah4,Nat.testBit,-oQ,iz,iA,aa,ah2,f61,af3.or,af,dR,iY,lT,lU,shA,iy,dH,cO,bZ,aF,fB,fQ,iH,kj,DL,D6]
 have:=(ah ae (al _) C (ao _) h).1;simpa [afA.mem] using this
theorem Ak(y:af8)(nm:List UInt8)(n:Z3)(o w:Int)(u:List UInt8):
  kO prog 199 [.agg (dY nm n o w u),.ptr 4 0] (iy y (dY nm n o w u)++[.cells true 0 (dH 4 nm)]) (.tuple []) (iy y (dY nm n o w u)++[.cells true 0 (dY nm n o w u)]):=by
 have Z:aS prog 199=some f199:=by kernel_rfl
 have h:aa (aU prog) (fun _=>[]) (aS prog) bD 1 199 [.agg (dY nm n o w u),.ptr 4 0] (iy y (dY nm n o w u)++[.cells true 0 (dH 4 nm)])=some ⟨.tuple [],some (iy y (dY nm n o w u)++[.cells true 0 (dY nm n o w u)]),[]⟩:=by simp[aa,Z,f199,iy,dH,dY,fB,fQ,iH,kj]
 have:=(ah ae (al _) (aj _) (ao _) h).1;simpa [afA.mem] using this
noncomputable def ns(nm:List UInt8)(y:List AV):List (FuncId×List AV×AV):=[
 (109,[.str nm],.int .i64 0),
 (77,[.agg y],.agg [.func 199 [],.func 200 [],.func 201 [],.func 202 [],.func 203 []]),
 (110,[.agg y,.agg y],.bool true)]
noncomputable def nB(H:af8)(nm:List UInt8)(y:List AV):List (FuncId×List AV×Mem×afA):=[
 (59,[shA H],iy H y,⟨.int .i64 0,none,[]⟩),
 (199,[.agg y,.ptr 4 0],iy H y++[.cells true 0 (dH 4 nm)],⟨.tuple [],some (iy H y++[.cells true 0 y]),[]⟩),
 (200,[shA H,.agg y],iy H y++[.cells true 0 y],⟨.int .i64 0,none,[]⟩)]
theorem yu(y:af8)(nm:List UInt8)(n:Z3)(o w:Int)(u:List UInt8)(I:nm∈bF)(Q:fR 1000 n)(R:jt n=false)(Y:o.natAbs<=1000)(hw:0<w)(H:w<1000)(hu:u∈bF):
  kO prog 61 [shA y,.agg (dY nm n o w u)] [.cells false 2 (pC y.P),.cells false 3 (tC y.T)] (.int .i64 0) [.cells false 2 (pC y.P),.cells false 3 (tC y.T)]:=by
 obtain⟨F,V⟩:∃F,aN f61=F:=⟨_,rfl⟩
 have D:=bP V (ls:=[[0,1,3,0,15],[0,1,3,0,0,31,63]]) (by kernel_rfl);simp only[aN,cj,f61,lA] at V;subst V;simp only[lB] at D;obtain⟨S,K⟩:=D;obtain⟨W,Z⟩:=xE (dY nm n o w u);have J:adM prog (af (dR (ns nm W))):=gQ fun e he M=>by
  simp only[ns,lM] at he;subst Z;rcases he with rfl | rfl | rfl
  .exact dZ nm I M
  .exact El nm n o w u M
  .exact Ei nm n o w u M
 have G:adM prog (iY (nB y nm W)):=kQ fun e he=>by
  simp only[nB,lM] at he;subst Z;rcases he with rfl | rfl | rfl
  .exact⟨by simpa [afA.mem,shA] using ft y (iy y (dY nm n o w u)) 0 1 false false rfl rfl,by simp⟩
  .exact⟨by simpa [afA.mem] using Ak y nm n o w u,by simp[iy]⟩
  .exact⟨by simpa [afA.mem,shA] using Ix nm n o w u Q R Y hw H hu _ _ _,by simp⟩
 have C:=adM.or' J G;obtain⟨O,X⟩:=xE (af3.or (af (dR (ns nm W))) (iY (nB y nm W)));rw[<-X] at C;have h:aa (aU prog) (fun _=>[]) (aS prog) O 1 61 [shA y,.agg (dY nm n o w u)] [.cells false 2 (pC y.P),.cells false 3 (tC y.T)]=some ⟨.int .i64 0,some [.cells false 2 (pC y.P),.cells false 3 (tC y.T)],[]⟩:=by rw[X,Z];simp[dh,-aJ,ak S,ak K,bt,bj,bp,ah3,ah4,Nat.testBit,-oQ,iz,iA,aa,ah2,f61,af3.or,af,dR,iY,ns,nB,shA,iy,dH,dY,bZ,aF,fB,fQ,iH,kj,DL,D6]
 have:=(ah ae (al _) C (ao _) h).1;simpa [afA.mem] using this
theorem Am(y:af8)(nm:List UInt8)(i:Nat)(c:Z3):
  kO prog 204 [.agg (eG nm (cK i) c),.ptr 4 0] (iy y (eG nm (cK i) c)++[.cells true 0 (dH 5 nm)]) (.tuple []) (iy y (eG nm (cK i) c)++[.cells true 0 (eG nm (cK i) c)]):=by
 have Z:aS prog 204=some f204:=by kernel_rfl
 have h:aa (aU prog) (fun _=>[]) (aS prog) bD 1 204 [.agg (eG nm (cK i) c),.ptr 4 0] (iy y (eG nm (cK i) c)++[.cells true 0 (dH 5 nm)])=some ⟨.tuple [],some (iy y (eG nm (cK i) c)++[.cells true 0 (eG nm (cK i) c)]),[]⟩:=by simp[aa,Z,f204,iy,dH,eG,fB,fQ,iH,kj]
 have:=(ah ae (al _) (aj _) (ao _) h).1;simpa [afA.mem] using this
noncomputable def nt(nm:List UInt8)(y:List AV):List (FuncId×List AV×AV):=[
 (109,[.str nm],.int .i64 0),
 (77,[.agg y],.agg [.func 204 [],.func 205 [],.func 206 [],.func 207 [],.func 208 []]),
 (110,[.agg y,.agg y],.bool true)]
noncomputable def nE(H:af8)(nm:List UInt8)(y:List AV):List (FuncId×List AV×Mem×afA):=[
 (59,[shA H],iy H y,⟨.int .i64 0,none,[]⟩),
 (204,[.agg y,.ptr 4 0],iy H y++[.cells true 0 (dH 5 nm)],⟨.tuple [],some (iy H y++[.cells true 0 y]),[]⟩),
 (205,[shA H,.agg y],iy H y++[.cells true 0 y],⟨.int .i64 0,none,[]⟩)]
theorem yw(y:af8)(nm:List UInt8)(i:Nat)(c:Z3)(H:nm∈bF)(hc:fR 1000 c):
  kO prog 61 [shA y,.agg (eG nm (cK i) c)] [.cells false 2 (pC y.P),.cells false 3 (tC y.T)] (.int .i64 0) [.cells false 2 (pC y.P),.cells false 3 (tC y.T)]:=by
 obtain⟨F,V⟩:∃F,aN f61=F:=⟨_,rfl⟩
 have D:=bP V (ls:=[[0,1,3,0,15],[0,1,3,0,0,31,63]]) (by kernel_rfl);simp only[aN,cj,f61,lA] at V;subst V;simp only[lB] at D;obtain⟨S,K⟩:=D;obtain⟨W,Z⟩:=xE (eG nm (cK i) c);have J:adM prog (af (dR (nt nm W))):=gQ fun e he M=>by
  simp only[nt,lM] at he;subst Z;rcases he with rfl | rfl | rfl
  .exact dZ nm H M
  .exact Em nm (cK i) c M
  .exact Ek nm (cK i) c M
 have G:adM prog (iY (nE y nm W)):=kQ fun e he=>by
  simp only[nE,lM] at he;subst Z;rcases he with rfl | rfl | rfl
  .exact⟨by simpa [afA.mem,shA] using ft y (iy y (eG nm (cK i) c)) 0 1 false false rfl rfl,by simp⟩
  .exact⟨by simpa [afA.mem] using Am y nm i c,by simp[iy]⟩
  .exact⟨by simpa [afA.mem,shA] using Iz nm i c hc _ _ _,by simp⟩
 have C:=adM.or' J G;obtain⟨O,X⟩:=xE (af3.or (af (dR (nt nm W))) (iY (nE y nm W)));rw[<-X] at C;have h:aa (aU prog) (fun _=>[]) (aS prog) O 1 61 [shA y,.agg (eG nm (cK i) c)] [.cells false 2 (pC y.P),.cells false 3 (tC y.T)]=some ⟨.int .i64 0,some [.cells false 2 (pC y.P),.cells false 3 (tC y.T)],[]⟩:=by rw[X,Z];simp[dh,-aJ,ak S,ak K,bt,bj,bp,ah3,ah4,Nat.testBit,-oQ,iz,iA,aa,ah2,f61,af3.or,af,dR,iY,nt,nE,shA,iy,dH,eG,bZ,aF,fB,fQ,iH,kj,DL,D6]
 have:=(ah ae (al _) C (ao _) h).1;simpa [afA.mem] using this
end Go.Proofs
