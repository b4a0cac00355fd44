/- See C54. -/
import Derived.Test.YtffdedmakncfmaaGreatDoorC29
import Derived.Test.YtffdedmakncfmaaGreatDoorC31
set_option linter.all false
set_option maxRecDepth 100000
set_option maxHeartbeats 40000000
namespace Go.Proofs
open Go.Eng
open Tryz
section
variable (d:Nat)
theorem BX(x y:List UInt8):kU (bh prog) (d+1) 9 (.str x) (.str y)=some (x==y):=by rw[kU];simp
theorem Jf(x y:Int):kU (bh prog) (d+1) 3 (.int .i64 x) (.int .i64 y)=some (decide (x=y)):=by rw[kU];simp
theorem k9(a b c:List UInt8):kU (bh prog) (d+2) 54 (.agg [.str a,.str b,.str c]) (.agg [.str a,.str b,.str c])=some true:=by have i:=k8 d;rw[kU];simp[Ta,jR,TyI.isAgg,i]
theorem zq(a b c o:List UInt8):kU (bh prog) (d+3) 56 (.agg [.str a,.str b,.str c,.str o]) (.agg [.str a,.str b,.str c,.str o])=some true:=by have i:=k8 (d+1);have j:=k9 d;rw[kU];simp[Ta,jR,TyI.isAgg,i,j]
theorem Je(a b c o e f g:List UInt8):kU (bh prog) (d+4) 58 (.agg [.str a,.str b,.str c,.str o,.str e,.str f,.str g]) (.agg [.str a,.str b,.str c,.str o,.str e,.str f,.str g])=some true:=by have j:=k9 (d+1);have k:=zq d;rw[kU];simp[Ta,jR,TyI.isAgg,j,k]
theorem N6(a b c o w u:List UInt8):kU (bh prog) (d+4) 63 (.agg [.str a,.str b,.str c,.str o,.str w,.str u]) (.agg [.str a,.str b,.str c,.str o,.str w,.str u])=some true:=by have i:=k8 (d+2);have Z:=BX (d+2);have k:=zq d;rw[kU];simp[Ta,jR,TyI.isAgg,i,Z,k]
theorem N9(t u v w:Int):kU (bh prog) (d+2) 64 (.agg [.int .i64 t,.int .i64 u,.int .i64 v,.int .i64 w]) (.agg [.int .i64 t,.int .i64 u,.int .i64 v,.int .i64 w])=some true:=by have r:List.range' 0 4=[0,1,2,3]:=rfl;have i:=Jf d;rw[kU];simp only[G7,G6,r,Xk];simp[jR,TyI.isAgg,i]
theorem N8(t u v w:Int)(a b c:List UInt8):kU (bh prog) (d+3) 66 (.agg [.int .i64 t,.int .i64 u,.int .i64 v,.int .i64 w,.str a,.str b,.str c]) (.agg [.int .i64 t,.int .i64 u,.int .i64 v,.int .i64 w,.str a,.str b,.str c])=some true:=by have j:=k9 (d+0);have k:=N9 d;rw[kU];simp[Ta,jR,TyI.isAgg,j,k]
end
def kW:List (List UInt8):=[[101,48],[101,49],[101,50],[101,51],[101,52],[101,53],[107,48],[107,49],[107,50],[107,51],[107,52],[107,53],[65,49],[65,50],[65,51],[66,49],[66,50],[66,51],[67,49],[67,50],[67,51],[68,49],[68,50],[68,51],[69,49],[69,50],[69,51],[70,49],[70,50],[70,51],[116],[122],[102,105,110,101],[110],[110,95,97],[110,95,98],[110,95,99],[110,95,114,111,99,107]]
theorem gN(nm:List UInt8)(h:nm∈kW)(M:Mem):kO prog 132 [.str nm] M (.int .i64 0) M:=by refine cK (aw _) (lv:=ae) (K:=9) rfl rfl ?_ M;simp only[kW,lM] at h;rcases h with h | h | h | h | h | h | h | h | h | h | h | h | h | h | h | h | h | h | h | h | h | h | h | h | h | h | h | h | h | h | h | h | h | h | h | h | h | h<;>(subst h;as_aux_lemma=>kernel_rfl)
def yu:List AV:=[158,159,160,161,162,163,164,165,73,166,167,168,169,170,171,172,173,174,175,176,177,178,179,180,181].map fun i=>.func i []
theorem Ib(M:Mem):kO prog 110 [] M (.agg yu) M:=by refine cK (aw _) (lv:=ae) (K:=6) rfl rfl ?_ M;as_aux_lemma=>kernel_rfl
theorem qE{T:TypeId→Option TyI}{O:afF}{N m0:Nat}{ops:Array Oper}:∀(a b:List Oper) (s:XS),dF T O N m0 ops (a++b) s=(dF T O N m0 ops a s).bind (dF T O N m0 ops b)
 | [],b,s=>rfl
 |o::a,b,s=>by
  rw[List.cons_append,dF,dF];split
  ·split
   ·split
    ·exact qE a b _
    ·rfl
   ·exact qE a b _
   ·rfl
  ·rfl
variable{O:afF}{m0:Nat}{ops:Array Oper}
theorem dM{T:TypeId→Option TyI}{N:Nat}{a b:List Oper}{s s1:XS}{r:Option XS}(h:dF T O N m0 ops a s=some s1)(h2:dF T O N m0 ops b s1=r):dF T O N m0 ops (a++b) s=r:=by rw[qE,h];exact h2
noncomputable def aQ:Array Oper:=match f133.body with
 |some (.seq _ (.seq (.region _ ops _) _))=>ops
 |_=> #[]
noncomputable def rH:List Oper:=(aQ.toList.drop 0).take 6
noncomputable def rI:List Oper:=(aQ.toList.drop 6).take 7
noncomputable def rJ:List Oper:=(aQ.toList.drop 13).take 9
noncomputable def rK:List Oper:=(aQ.toList.drop 22).take 9
noncomputable def rL:List Oper:=(aQ.toList.drop 31).take 9
noncomputable def rM:List Oper:=(aQ.toList.drop 40).take 7
noncomputable def rN:List Oper:=(aQ.toList.drop 47).take 9
noncomputable def rO:List Oper:=(aQ.toList.drop 56).take 9
noncomputable def rP:List Oper:=(aQ.toList.drop 65).take 9
noncomputable def rQ:List Oper:=(aQ.toList.drop 74).take 7
noncomputable def pr:List Oper:=(aQ.toList.drop 81).take 7
theorem Jg:aQ.toList=rH++(rI++(rJ++(rK++(rL++(rM++(rN++(rO++(rP++(rQ++(pr)))))))))):=by kernel_rfl
structure Evc where
 k:Int
 nm:List UInt8
 B:List (List UInt8):=[]
 U:List (List UInt8):=[]
 S:List (List (List UInt8)):=[]
 K:List (List UInt8×List UInt8):=[]
 (t1 t2 t3 t4:Int:=0)
 (x5 x6 x7 x8 x9 x10 x11 x12 x13 x14 x16 x17 x18 x19 x20 x21 x22 x23 x24 x29 x30 x31:List UInt8:=[])
def Evc.cells(c:Evc)(b u s y:AV):List AV:=[.int .i64 c.k,.str c.nm,b,u,s,.str c.x5,.str c.x6,.str c.x7,.str c.x8,.str c.x9,.str c.x10,.str c.x11,.str c.x12,.str c.x13,.str c.x14,y,.str c.x16,.str c.x17,.str c.x18,.str c.x19,.str c.x20,.str c.x21,.str c.x22,.str c.x23,.str c.x24,.int .i64 c.t1,.int .i64 c.t2,.int .i64 c.t3,.int .i64 c.t4,.str c.x29,.str c.x30,.str c.x31]
noncomputable def BW:Array Oper:=match f133.body with
 |some (.seq (.region _ ops _) _)=>ops
 |_=> #[]
variable{b b' kn kn' s s' u u' :AV}{c:Evc}{d:Bool}{env:Env}{mem:Mem}{p q:Nat}
section
variable (h2:ad env 2=.ptr p 0)(h3:ad env 3=.ptr q 0)(hp:mem[p]? =some (.cells true 0 (c.cells b u s kn)))(hq:mem[q]? =some (.cells true 0 (c.cells b' u' s' kn')))
include h2 h3 hp hq
theorem Oa:
  ∃Z,dF (bh prog) O 92 m0 ops rH ⟨env,mem,d⟩=some ⟨Z,mem,d⟩∧ad Z 2=.ptr p 0∧ad Z 3=.ptr q 0∧ad Z 10=.bool true:=by
 have X:=fun d=>Jf d
 simp only[Evc.cells] at hp hq;simp[rH,aQ,f133,h2,h3,hp,hq]
theorem Ob(hg:(ops[5]?).bind (fun x=>x.dst)=some 10)(h1:ad env 10=.bool true):
  ∃Z,dF (bh prog) O 92 m0 ops rI ⟨env,mem,d⟩=some ⟨Z,mem,d⟩∧ad Z 2=.ptr p 0∧ad Z 3=.ptr q 0∧ad Z 17=.bool true:=by
 have X:=fun d=>BX d
 simp only[Evc.cells] at hp hq;simp[rI,aQ,f133,h2,h3,hp,hq,hg,h1]
theorem Oc(hg:(ops[12]?).bind (fun x=>x.dst)=some 17)(h1:ad env 17=.bool true)(y:O (.fn 197) [b,b'] mem=some ⟨.bool true,none,[]⟩):
  ∃Z,dF (bh prog) O 92 m0 ops rJ ⟨env,mem,d⟩=some ⟨Z,mem,d⟩∧ad Z 2=.ptr p 0∧ad Z 3=.ptr q 0∧ad Z 26=.bool true:=by
 simp only[Evc.cells] at hp hq;simp[rJ,aQ,f133,h2,h3,hp,hq,hg,h1,y]
theorem Od(hg:(ops[21]?).bind (fun x=>x.dst)=some 26)(h1:ad env 26=.bool true)(y:O (.fn 198) [u,u'] mem=some ⟨.bool true,none,[]⟩):
  ∃Z,dF (bh prog) O 92 m0 ops rK ⟨env,mem,d⟩=some ⟨Z,mem,d⟩∧ad Z 2=.ptr p 0∧ad Z 3=.ptr q 0∧ad Z 35=.bool true:=by
 simp only[Evc.cells] at hp hq;simp[rK,aQ,f133,h2,h3,hp,hq,hg,h1,y]
theorem Oe(hg:(ops[30]?).bind (fun x=>x.dst)=some 35)(h1:ad env 35=.bool true)(y:O (.fn 199) [s,s'] mem=some ⟨.bool true,none,[]⟩):
  ∃Z,dF (bh prog) O 92 m0 ops rL ⟨env,mem,d⟩=some ⟨Z,mem,d⟩∧ad Z 2=.ptr p 0∧ad Z 3=.ptr q 0∧ad Z 44=.bool true:=by
 simp only[Evc.cells] at hp hq;simp[rL,aQ,f133,h2,h3,hp,hq,hg,h1,y]
theorem Of(hg:(ops[39]?).bind (fun x=>x.dst)=some 44)(h1:ad env 44=.bool true):
  ∃Z,dF (bh prog) O 92 m0 ops rM ⟨env,mem,d⟩=some ⟨Z,mem,d⟩∧ad Z 2=.ptr p 0∧ad Z 3=.ptr q 0∧ad Z 51=.bool true:=by
 have X:=fun d=>Je d
 simp only[Evc.cells] at hp hq;simp[rM,aQ,f133,h2,h3,hp,hq,hg,h1,X]
theorem Og(hg:(ops[46]?).bind (fun x=>x.dst)=some 51)(h1:ad env 51=.bool true):
  ∃Z,dF (bh prog) O 92 m0 ops rN ⟨env,mem,d⟩=some ⟨Z,mem,d⟩∧ad Z 2=.ptr p 0∧ad Z 3=.ptr q 0∧ad Z 60=.bool true:=by
 have X:=fun d=>k9 d
 simp only[Evc.cells] at hp hq;simp[rN,aQ,f133,h2,h3,hp,hq,hg,h1,X]
theorem Oh(hg:(ops[55]?).bind (fun x=>x.dst)=some 60)(h1:ad env 60=.bool true)(y:O (.fn 200) [kn,kn'] mem=some ⟨.bool true,none,[]⟩):
  ∃Z,dF (bh prog) O 92 m0 ops rO ⟨env,mem,d⟩=some ⟨Z,mem,d⟩∧ad Z 2=.ptr p 0∧ad Z 3=.ptr q 0∧ad Z 69=.bool true:=by
 simp only[Evc.cells] at hp hq;simp[rO,aQ,f133,h2,h3,hp,hq,hg,h1,y]
theorem Oi(hg:(ops[64]?).bind (fun x=>x.dst)=some 69)(h1:ad env 69=.bool true):
  ∃Z,dF (bh prog) O 92 m0 ops rP ⟨env,mem,d⟩=some ⟨Z,mem,d⟩∧ad Z 2=.ptr p 0∧ad Z 3=.ptr q 0∧ad Z 78=.bool true:=by
 have X:=fun d=>k9 d
 simp only[Evc.cells] at hp hq;simp[rP,aQ,f133,h2,h3,hp,hq,hg,h1,X]
theorem Oj(hg:(ops[73]?).bind (fun x=>x.dst)=some 78)(h1:ad env 78=.bool true):
  ∃Z,dF (bh prog) O 92 m0 ops rQ ⟨env,mem,d⟩=some ⟨Z,mem,d⟩∧ad Z 2=.ptr p 0∧ad Z 3=.ptr q 0∧ad Z 85=.bool true:=by
 have X:=fun d=>N6 d
 simp only[Evc.cells] at hp hq;simp[rQ,aQ,f133,h2,h3,hp,hq,hg,h1,X]
theorem Ji(hg:(ops[80]?).bind (fun x=>x.dst)=some 85)(h1:ad env 85=.bool true):
  ∃Z,dF (bh prog) O 92 m0 ops pr ⟨env,mem,d⟩=some ⟨Z,mem,d⟩∧ad Z 2=.ptr p 0∧ad Z 3=.ptr q 0∧ad Z 4=.bool true:=by
 have X:=fun d=>N8 d
 simp only[Evc.cells] at hp hq;simp[pr,aQ,f133,h2,h3,hp,hq,hg,h1,X]
theorem Rx(y:O (.fn 197) [b,b'] mem=some ⟨.bool true,none,[]⟩)(H:O (.fn 198) [u,u'] mem=some ⟨.bool true,none,[]⟩)(I:O (.fn 199) [s,s'] mem=some ⟨.bool true,none,[]⟩)(J:O (.fn 200) [kn,kn'] mem=some ⟨.bool true,none,[]⟩):
  ∃AC,dF (bh prog) O 92 m0 aQ aQ.toList ⟨env,mem,d⟩=some ⟨AC,mem,d⟩∧ad AC 4=.bool true:=by
 have g1:(aQ[5]?).bind (fun x=>x.dst)=some 10:=by kernel_rfl
 have g2:(aQ[12]?).bind (fun x=>x.dst)=some 17:=by kernel_rfl
 have g3:(aQ[21]?).bind (fun x=>x.dst)=some 26:=by kernel_rfl
 have g4:(aQ[30]?).bind (fun x=>x.dst)=some 35:=by kernel_rfl
 have g5:(aQ[39]?).bind (fun x=>x.dst)=some 44:=by kernel_rfl
 have g6:(aQ[46]?).bind (fun x=>x.dst)=some 51:=by kernel_rfl
 have g7:(aQ[55]?).bind (fun x=>x.dst)=some 60:=by kernel_rfl
 have g8:(aQ[64]?).bind (fun x=>x.dst)=some 69:=by kernel_rfl
 have g9:(aQ[73]?).bind (fun x=>x.dst)=some 78:=by kernel_rfl
 have Z:(aQ[80]?).bind (fun x=>x.dst)=some 85:=by kernel_rfl
 obtain⟨e0,r0,X,V,b0⟩:=Oa (O:=O) (m0:=m0) (ops:=aQ) (d:=d) h2 h3 hp hq;obtain⟨e1,r1,U,S,b1⟩:=Ob (O:=O) (m0:=m0) (ops:=aQ) (d:=d) X V hp hq g1 b0;obtain⟨e2,r2,R,Q,b2⟩:=Oc (O:=O) (m0:=m0) (ops:=aQ) (d:=d) U S hp hq g2 b1 y;obtain⟨e3,r3,N,M,b3⟩:=Od (O:=O) (m0:=m0) (ops:=aQ) (d:=d) R Q hp hq g3 b2 H;obtain⟨e4,r4,L,K,b4⟩:=Oe (O:=O) (m0:=m0) (ops:=aQ) (d:=d) N M hp hq g4 b3 I;obtain⟨e5,r5,G,F,b5⟩:=Of (O:=O) (m0:=m0) (ops:=aQ) (d:=d) L K hp hq g5 b4;obtain⟨e6,r6,D,C,b6⟩:=Og (O:=O) (m0:=m0) (ops:=aQ) (d:=d) G F hp hq g6 b5;obtain⟨e7,r7,B,o,b7⟩:=Oh (O:=O) (m0:=m0) (ops:=aQ) (d:=d) D C hp hq g7 b6 J;obtain⟨e8,r8,m,j,b8⟩:=Oi (O:=O) (m0:=m0) (ops:=aQ) (d:=d) B o hp hq g8 b7;obtain⟨e9,r9,Y,W,b9⟩:=Oj (O:=O) (m0:=m0) (ops:=aQ) (d:=d) m j hp hq g9 b8;obtain⟨e10,r10,afz,afB,b10⟩:=Ji (O:=O) (m0:=m0) (ops:=aQ) (d:=d) Y W hp hq Z b9;exact⟨e10,by rw[Jg];exact dM r0 (dM r1 (dM r2 (dM r3 (dM r4 (dM r5 (dM r6 (dM r7 (dM r8 (dM r9 (r10)))))))))),b10⟩
end
theorem QU(y:qS prog O){m:Mem}(H:O (.fn 197) [b,b'] (m++[.cells true 0 (c.cells b u s kn),.cells true 0 (c.cells b' u' s' kn')])=some ⟨.bool true,none,[]⟩)(I:O (.fn 198) [u,u'] (m++[.cells true 0 (c.cells b u s kn),.cells true 0 (c.cells b' u' s' kn')])=some ⟨.bool true,none,[]⟩)(J:O (.fn 199) [s,s'] (m++[.cells true 0 (c.cells b u s kn),.cells true 0 (c.cells b' u' s' kn')])=some ⟨.bool true,none,[]⟩)(W:O (.fn 200) [kn,kn'] (m++[.cells true 0 (c.cells b u s kn),.cells true 0 (c.cells b' u' s' kn')])=some ⟨.bool true,none,[]⟩):
  kO prog 133 [.agg (c.cells b u s kn),.agg (c.cells b' u' s' kn')] m (.bool true) m:=by
 have R:aS prog 133=some f133:=by kernel_rfl
 obtain⟨ops,U⟩:=xE aQ;obtain⟨F,S⟩:=qJ (p:=fun e (_:Bool)=>ad e 2=.ptr m.length 0∧ad e 3=.ptr (m.length+1) 0) (q:=fun env (_:Bool) AC =>dF (bh prog) O 92 m.length ops ops.toList ⟨env,(m++[.cells true 0 (c.cells b u s kn),.cells true 0 (c.cells b' u' s' kn')]),false⟩=some ⟨AC,(m++[.cells true 0 (c.cells b u s kn),.cells true 0 (c.cells b' u' s' kn')]),false⟩∧ad AC 4=.bool true) (fun env _ h=>by
  subst U;have Q:((m++[.cells true 0 (c.cells b u s kn),.cells true 0 (c.cells b' u' s' kn')]))[m.length]? =some (.cells true 0 (c.cells b u s kn)):=by simp
  have N:((m++[.cells true 0 (c.cells b u s kn),.cells true 0 (c.cells b' u' s' kn')]))[m.length+1]? =some (.cells true 0 (c.cells b' u' s' kn')):=by simp
  exact Rx h.1 h.2 Q N H I J W)
 have Z:=fun env V h3=>(S env false ⟨V,h3⟩).1
 have X:=fun env V h3=>(S env false ⟨V,h3⟩).2
 refine er y ?_;have M:f133.body=some (.seq (.region 0 BW false) (.seq (.region 1 ops false) .ret)):=by rw[U];kernel_rfl
 unfold aa;rw[R];dsimp only;rw[M];dsimp only;simp only[Evc.cells] at Z X ⊢;simp[Z,X,BW,f133]
end Go.Proofs
