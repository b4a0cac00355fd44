/- See E54. -/
import Derived.Test.YthpgbelancmpjaaGreatDoorE29
import Derived.Test.YthpgbelancmpjaaGreatDoorE31
set_option linter.all false
set_option maxRecDepth 100000
set_option maxHeartbeats 40000000
namespace Go.Proofs
open Go.Eng
open Tryz
section
variable (d:Nat)
theorem AE(x y:List UInt8):jU (aV prog) (d+1) 9 (.str x) (.str y)=some (x==y):=by rw[jU];simp
theorem Hl(x y:Int):jU (aV prog) (d+1) 3 (.int .i64 x) (.int .i64 y)=some (decide (x=y)):=by rw[jU];simp
theorem kh(a b c:List UInt8):jU (aV prog) (d+2) 54 (.agg [.str a,.str b,.str c]) (.agg [.str a,.str b,.str c])=some true:=by have i:=kg d;rw[jU];simp[QD,iY,TyI.isAgg,i]
theorem yi(a b c o:List UInt8):jU (aV prog) (d+3) 56 (.agg [.str a,.str b,.str c,.str o]) (.agg [.str a,.str b,.str c,.str o])=some true:=by have i:=kg (d+1);have j:=kh d;rw[jU];simp[QD,iY,TyI.isAgg,i,j]
theorem Hk(a b c o e f g:List UInt8):jU (aV prog) (d+4) 58 (.agg [.str a,.str b,.str c,.str o,.str e,.str f,.str g]) (.agg [.str a,.str b,.str c,.str o,.str e,.str f,.str g])=some true:=by have j:=kh (d+1);have k:=yi d;rw[jU];simp[QD,iY,TyI.isAgg,j,k]
theorem LX(a b c o w u:List UInt8):jU (aV prog) (d+4) 63 (.agg [.str a,.str b,.str c,.str o,.str w,.str u]) (.agg [.str a,.str b,.str c,.str o,.str w,.str u])=some true:=by have i:=kg (d+2);have Z:=AE (d+2);have k:=yi d;rw[jU];simp[QD,iY,TyI.isAgg,i,Z,k]
theorem L3(t u v w:Int):jU (aV prog) (d+2) 64 (.agg [.int .i64 t,.int .i64 u,.int .i64 v,.int .i64 w]) (.agg [.int .i64 t,.int .i64 u,.int .i64 v,.int .i64 w])=some true:=by have r:List.range' 0 4=[0,1,2,3]:=rfl;have i:=Hl d;rw[jU];simp only[Fv,Ft,r,Vc];simp[iY,TyI.isAgg,i]
theorem LZ(t u v w:Int)(a b c:List UInt8):jU (aV prog) (d+3) 66 (.agg [.int .i64 t,.int .i64 u,.int .i64 v,.int .i64 w,.str a,.str b,.str c]) (.agg [.int .i64 t,.int .i64 u,.int .i64 v,.int .i64 w,.str a,.str b,.str c])=some true:=by have j:=kh (d+0);have k:=L3 d;rw[jU];simp[QD,iY,TyI.isAgg,j,k]
end
def jV:List (List UInt8):=[[101,48],[101,49],[101,50],[101,51],[101,52],[101,53],[107,48],[107,49],[107,50],[107,51],[107,52],[107,53],[65,49],[65,50],[65,51],[66,49],[66,50],[66,51],[67,49],[67,50],[67,51],[68,49],[68,50],[68,51],[69,49],[69,50],[69,51],[70,49],[70,50],[70,51],[116],[122],[102,105,110,101],[110],[110,95,97],[110,95,98],[110,95,99],[110,95,114,111,99,107]]
theorem gf(nm:List UInt8)(h:nm∈jV)(M:Mem):kO prog 71 [.str nm] M (.int .i64 0) M:=by refine cE (az _) (lv:=ae) (K:=9) rfl rfl ?_ M;simp only[jV,lM] at h;rcases h with h | h | h | h | h | h | h | h | h | h | h | h | h | h | h | h | h | h | h | h | h | h | h | h | h | h | h | h | h | h | h | h | h | h | h | h | h | h<;>(subst h;as_aux_lemma=>kernel_rfl)
def w9:List AV:=[154,155,156,157,158,159,160,161,111,162,163,164,165,166,167,168,169,170,171,172,173,174,175,176,177].map fun i=>.func i []
theorem GA(M:Mem):kO prog 96 [] M (.agg w9) M:=by refine cE (az _) (lv:=ae) (K:=6) rfl rfl ?_ M;as_aux_lemma=>kernel_rfl
theorem o9{T:TypeId→Option TyI}{O:y9}{N m0:Nat}{ops:Array Oper}:∀(a b:List Oper) (s:XS),dN T O N m0 ops (a++b) s=(dN T O N m0 ops a s).bind (dN T O N m0 ops b)
 | [],b,s=>rfl
 |o::a,b,s=>by
  rw[List.cons_append,dN,dN];split
  ·split
   ·split
    ·exact o9 a b _
    ·rfl
   ·exact o9 a b _
   ·rfl
  ·rfl
variable{O:y9}{m0:Nat}{ops:Array Oper}
theorem ea{T:TypeId→Option TyI}{N:Nat}{a b:List Oper}{s s1:XS}{r:Option XS}(h:dN T O N m0 ops a s=some s1)(h2:dN T O N m0 ops b s1=r):dN T O N m0 ops (a++b) s=r:=by rw[o9,h];exact h2
noncomputable def aQ:Array Oper:=match f26.body with
 |some (.seq _ (.seq (.region _ ops _) _))=>ops
 |_=> #[]
noncomputable def qj:List Oper:=(aQ.toList.drop 0).take 6
noncomputable def ql:List Oper:=(aQ.toList.drop 6).take 7
noncomputable def qm:List Oper:=(aQ.toList.drop 13).take 9
noncomputable def qo:List Oper:=(aQ.toList.drop 22).take 9
noncomputable def qp:List Oper:=(aQ.toList.drop 31).take 9
noncomputable def qq:List Oper:=(aQ.toList.drop 40).take 7
noncomputable def qs:List Oper:=(aQ.toList.drop 47).take 9
noncomputable def qt:List Oper:=(aQ.toList.drop 56).take 9
noncomputable def qu:List Oper:=(aQ.toList.drop 65).take 9
noncomputable def qv:List Oper:=(aQ.toList.drop 74).take 7
noncomputable def nT:List Oper:=(aQ.toList.drop 81).take 7
theorem Hm:aQ.toList=qj++(ql++(qm++(qo++(qp++(qq++(qs++(qt++(qu++(qv++(nT)))))))))):=by kernel_rfl
structure Evc where
 k:Int
 nm:List UInt8
 B:List (List UInt8):=[]
 U:List (List UInt8):=[]
 S:List (List (List UInt8)):=[]
 K:List (List UInt8×List UInt8):=[]
 (t1 t2 t3 t4:Int:=0)
 (x5 x6 x7 x8 x9 x10 x11 x12 x13 x14 x16 x17 x18 x19 x20 x21 x22 x23 x24 x29 x30 x31:List UInt8:=[])
def Evc.cells(c:Evc)(b u s H:AV):List AV:=[.int .i64 c.k,.str c.nm,b,u,s,.str c.x5,.str c.x6,.str c.x7,.str c.x8,.str c.x9,.str c.x10,.str c.x11,.str c.x12,.str c.x13,.str c.x14,H,.str c.x16,.str c.x17,.str c.x18,.str c.x19,.str c.x20,.str c.x21,.str c.x22,.str c.x23,.str c.x24,.int .i64 c.t1,.int .i64 c.t2,.int .i64 c.t3,.int .i64 c.t4,.str c.x29,.str c.x30,.str c.x31]
noncomputable def AD:Array Oper:=match f26.body with
 |some (.seq (.region _ ops _) _)=>ops
 |_=> #[]
variable{b b' kn Zt s s' u u' :AV}{c:Evc}{d:Bool}{env:Env}{mem:Mem}{p q:Nat}
section
variable (h2:ad env 2=.ptr p 0)(h3:ad env 3=.ptr q 0)(hp:mem[p]? =some (.cells true 0 (c.cells b u s kn)))(hq:mem[q]? =some (.cells true 0 (c.cells b' u' s' Zt)))
include h2 h3 hp hq
theorem L4:
  ∃Z,dN (aV prog) O 92 m0 ops qj ⟨env,mem,d⟩=some ⟨Z,mem,d⟩∧ad Z 2=.ptr p 0∧ad Z 3=.ptr q 0∧ad Z 10=.bool true:=by
 have X:=fun d=>Hl d
 simp only[Evc.cells] at hp hq;simp[qj,aQ,f26,h2,h3,hp,hq]
theorem L5(hg:(ops[5]?).bind (fun x=>x.dst)=some 10)(h1:ad env 10=.bool true):
  ∃Z,dN (aV prog) O 92 m0 ops ql ⟨env,mem,d⟩=some ⟨Z,mem,d⟩∧ad Z 2=.ptr p 0∧ad Z 3=.ptr q 0∧ad Z 17=.bool true:=by
 have X:=fun d=>AE d
 simp only[Evc.cells] at hp hq;simp[ql,aQ,f26,h2,h3,hp,hq,hg,h1]
theorem L6(hg:(ops[12]?).bind (fun x=>x.dst)=some 17)(h1:ad env 17=.bool true)(H:O (.fn 72) [b,b'] mem=some ⟨.bool true,none,[]⟩):
  ∃Z,dN (aV prog) O 92 m0 ops qm ⟨env,mem,d⟩=some ⟨Z,mem,d⟩∧ad Z 2=.ptr p 0∧ad Z 3=.ptr q 0∧ad Z 26=.bool true:=by
 simp only[Evc.cells] at hp hq;simp[qm,aQ,f26,h2,h3,hp,hq,hg,h1,H]
theorem L7(hg:(ops[21]?).bind (fun x=>x.dst)=some 26)(h1:ad env 26=.bool true)(H:O (.fn 73) [u,u'] mem=some ⟨.bool true,none,[]⟩):
  ∃Z,dN (aV prog) O 92 m0 ops qo ⟨env,mem,d⟩=some ⟨Z,mem,d⟩∧ad Z 2=.ptr p 0∧ad Z 3=.ptr q 0∧ad Z 35=.bool true:=by
 simp only[Evc.cells] at hp hq;simp[qo,aQ,f26,h2,h3,hp,hq,hg,h1,H]
theorem L8(hg:(ops[30]?).bind (fun x=>x.dst)=some 35)(h1:ad env 35=.bool true)(H:O (.fn 74) [s,s'] mem=some ⟨.bool true,none,[]⟩):
  ∃Z,dN (aV prog) O 92 m0 ops qp ⟨env,mem,d⟩=some ⟨Z,mem,d⟩∧ad Z 2=.ptr p 0∧ad Z 3=.ptr q 0∧ad Z 44=.bool true:=by
 simp only[Evc.cells] at hp hq;simp[qp,aQ,f26,h2,h3,hp,hq,hg,h1,H]
theorem Ma(hg:(ops[39]?).bind (fun x=>x.dst)=some 44)(h1:ad env 44=.bool true):
  ∃Z,dN (aV prog) O 92 m0 ops qq ⟨env,mem,d⟩=some ⟨Z,mem,d⟩∧ad Z 2=.ptr p 0∧ad Z 3=.ptr q 0∧ad Z 51=.bool true:=by
 have X:=fun d=>Hk d
 simp only[Evc.cells] at hp hq;simp[qq,aQ,f26,h2,h3,hp,hq,hg,h1,X]
theorem Mb(hg:(ops[46]?).bind (fun x=>x.dst)=some 51)(h1:ad env 51=.bool true):
  ∃Z,dN (aV prog) O 92 m0 ops qs ⟨env,mem,d⟩=some ⟨Z,mem,d⟩∧ad Z 2=.ptr p 0∧ad Z 3=.ptr q 0∧ad Z 60=.bool true:=by
 have X:=fun d=>kh d
 simp only[Evc.cells] at hp hq;simp[qs,aQ,f26,h2,h3,hp,hq,hg,h1,X]
theorem Mc(hg:(ops[55]?).bind (fun x=>x.dst)=some 60)(h1:ad env 60=.bool true)(H:O (.fn 75) [kn,Zt] mem=some ⟨.bool true,none,[]⟩):
  ∃Z,dN (aV prog) O 92 m0 ops qt ⟨env,mem,d⟩=some ⟨Z,mem,d⟩∧ad Z 2=.ptr p 0∧ad Z 3=.ptr q 0∧ad Z 69=.bool true:=by
 simp only[Evc.cells] at hp hq;simp[qt,aQ,f26,h2,h3,hp,hq,hg,h1,H]
theorem Md(hg:(ops[64]?).bind (fun x=>x.dst)=some 69)(h1:ad env 69=.bool true):
  ∃Z,dN (aV prog) O 92 m0 ops qu ⟨env,mem,d⟩=some ⟨Z,mem,d⟩∧ad Z 2=.ptr p 0∧ad Z 3=.ptr q 0∧ad Z 78=.bool true:=by
 have X:=fun d=>kh d
 simp only[Evc.cells] at hp hq;simp[qu,aQ,f26,h2,h3,hp,hq,hg,h1,X]
theorem Me(hg:(ops[73]?).bind (fun x=>x.dst)=some 78)(h1:ad env 78=.bool true):
  ∃Z,dN (aV prog) O 92 m0 ops qv ⟨env,mem,d⟩=some ⟨Z,mem,d⟩∧ad Z 2=.ptr p 0∧ad Z 3=.ptr q 0∧ad Z 85=.bool true:=by
 have X:=fun d=>LX d
 simp only[Evc.cells] at hp hq;simp[qv,aQ,f26,h2,h3,hp,hq,hg,h1,X]
theorem Ho(hg:(ops[80]?).bind (fun x=>x.dst)=some 85)(h1:ad env 85=.bool true):
  ∃Z,dN (aV prog) O 92 m0 ops nT ⟨env,mem,d⟩=some ⟨Z,mem,d⟩∧ad Z 2=.ptr p 0∧ad Z 3=.ptr q 0∧ad Z 4=.bool true:=by
 have X:=fun d=>LZ d
 simp only[Evc.cells] at hp hq;simp[nT,aQ,f26,h2,h3,hp,hq,hg,h1,X]
theorem O7(ZJ:O (.fn 72) [b,b'] mem=some ⟨.bool true,none,[]⟩)(H:O (.fn 73) [u,u'] mem=some ⟨.bool true,none,[]⟩)(I:O (.fn 74) [s,s'] mem=some ⟨.bool true,none,[]⟩)(J:O (.fn 75) [kn,Zt] mem=some ⟨.bool true,none,[]⟩):
  ∃AC,dN (aV prog) O 92 m0 aQ aQ.toList ⟨env,mem,d⟩=some ⟨AC,mem,d⟩∧ad AC 4=.bool true:=by
 have g1:(aQ[5]?).bind (fun x=>x.dst)=some 10:=by kernel_rfl
 have g2:(aQ[12]?).bind (fun x=>x.dst)=some 17:=by kernel_rfl
 have g3:(aQ[21]?).bind (fun x=>x.dst)=some 26:=by kernel_rfl
 have g4:(aQ[30]?).bind (fun x=>x.dst)=some 35:=by kernel_rfl
 have g5:(aQ[39]?).bind (fun x=>x.dst)=some 44:=by kernel_rfl
 have g6:(aQ[46]?).bind (fun x=>x.dst)=some 51:=by kernel_rfl
 have g7:(aQ[55]?).bind (fun x=>x.dst)=some 60:=by kernel_rfl
 have g8:(aQ[64]?).bind (fun x=>x.dst)=some 69:=by kernel_rfl
 have g9:(aQ[73]?).bind (fun x=>x.dst)=some 78:=by kernel_rfl
 have Z:(aQ[80]?).bind (fun x=>x.dst)=some 85:=by kernel_rfl
 obtain⟨e0,r0,X,V,b0⟩:=L4 (O:=O) (m0:=m0) (ops:=aQ) (d:=d) h2 h3 hp hq;obtain⟨e1,r1,U,S,b1⟩:=L5 (O:=O) (m0:=m0) (ops:=aQ) (d:=d) X V hp hq g1 b0;obtain⟨e2,r2,R,N,b2⟩:=L6 (O:=O) (m0:=m0) (ops:=aQ) (d:=d) U S hp hq g2 b1 ZJ;obtain⟨e3,r3,M,L,b3⟩:=L7 (O:=O) (m0:=m0) (ops:=aQ) (d:=d) R N hp hq g3 b2 H;obtain⟨e4,r4,K,G,b4⟩:=L8 (O:=O) (m0:=m0) (ops:=aQ) (d:=d) M L hp hq g4 b3 I;obtain⟨e5,r5,F,D,b5⟩:=Ma (O:=O) (m0:=m0) (ops:=aQ) (d:=d) K G hp hq g5 b4;obtain⟨e6,r6,C,B,b6⟩:=Mb (O:=O) (m0:=m0) (ops:=aQ) (d:=d) F D hp hq g6 b5;obtain⟨e7,r7,A,o,b7⟩:=Mc (O:=O) (m0:=m0) (ops:=aQ) (d:=d) C B hp hq g7 b6 J;obtain⟨e8,r8,m,j,b8⟩:=Md (O:=O) (m0:=m0) (ops:=aQ) (d:=d) A o hp hq g8 b7;obtain⟨e9,r9,Y,W,b9⟩:=Me (O:=O) (m0:=m0) (ops:=aQ) (d:=d) m j hp hq g9 b8;obtain⟨e10,r10,ad4,ad5,b10⟩:=Ho (O:=O) (m0:=m0) (ops:=aQ) (d:=d) Y W hp hq Z b9;exact⟨e10,by rw[Hm];exact ea r0 (ea r1 (ea r2 (ea r3 (ea r4 (ea r5 (ea r6 (ea r7 (ea r8 (ea r9 (r10)))))))))),b10⟩
end
theorem OL(hOk:qS prog O){m:Mem}(W:O (.fn 72) [b,b'] (m++[.cells true 0 (c.cells b u s kn),.cells true 0 (c.cells b' u' s' Zt)])=some ⟨.bool true,none,[]⟩)(H:O (.fn 73) [u,u'] (m++[.cells true 0 (c.cells b u s kn),.cells true 0 (c.cells b' u' s' Zt)])=some ⟨.bool true,none,[]⟩)(I:O (.fn 74) [s,s'] (m++[.cells true 0 (c.cells b u s kn),.cells true 0 (c.cells b' u' s' Zt)])=some ⟨.bool true,none,[]⟩)(J:O (.fn 75) [kn,Zt] (m++[.cells true 0 (c.cells b u s kn),.cells true 0 (c.cells b' u' s' Zt)])=some ⟨.bool true,none,[]⟩):
  kO prog 26 [.agg (c.cells b u s kn),.agg (c.cells b' u' s' Zt)] m (.bool true) m:=by
 have R:aT prog 26=some f26:=by kernel_rfl
 obtain⟨ops,X⟩:=xE aQ;obtain⟨F,V⟩:=rO (p:=fun e (_:Bool)=>ad e 2=.ptr m.length 0∧ad e 3=.ptr (m.length+1) 0) (q:=fun env (_:Bool) AC =>dN (aV prog) O 92 m.length ops ops.toList ⟨env,(m++[.cells true 0 (c.cells b u s kn),.cells true 0 (c.cells b' u' s' Zt)]),false⟩=some ⟨AC,(m++[.cells true 0 (c.cells b u s kn),.cells true 0 (c.cells b' u' s' Zt)]),false⟩∧ad AC 4=.bool true) (fun env _ h=>by
  subst X;have N:((m++[.cells true 0 (c.cells b u s kn),.cells true 0 (c.cells b' u' s' Zt)]))[m.length]? =some (.cells true 0 (c.cells b u s kn)):=by simp
  have M:((m++[.cells true 0 (c.cells b u s kn),.cells true 0 (c.cells b' u' s' Zt)]))[m.length+1]? =some (.cells true 0 (c.cells b' u' s' Zt)):=by simp
  exact O7 h.1 h.2 N M W H I J)
 have U:=fun env Z h3=>(V env false ⟨Z,h3⟩).1
 have S:=fun env Z h3=>(V env false ⟨Z,h3⟩).2
 refine gT hOk ?_;have L:f26.body=some (.seq (.region 0 AD false) (.seq (.region 1 ops false) .ret)):=by rw[X];kernel_rfl
 unfold aa;rw[R];dsimp only;rw[L];dsimp only;simp only[Evc.cells] at U S ⊢;simp[U,S,AD,f26]
end Go.Proofs
