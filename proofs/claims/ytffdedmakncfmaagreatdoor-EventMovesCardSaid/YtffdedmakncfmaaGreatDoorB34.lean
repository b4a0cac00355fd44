/- See B54. -/
import Derived.Test.YtffdedmakncfmaaGreatDoorB30
import Derived.Test.YtffdedmakncfmaaGreatDoorB33
set_option linter.all false
set_option maxRecDepth 100000
set_option maxHeartbeats 40000000
namespace Go.Proofs
open Go.Eng
open Tryz
section
variable (d:Nat)
theorem Be(x y:List UInt8):jy (ba prog) (d+1) 9 (.str x) (.str y)=some (x==y):=by rw[jy];simp
theorem H7(x y:Int):jy (ba prog) (d+1) 3 (.int .i64 x) (.int .i64 y)=some (decide (x=y)):=by rw[jy];simp
theorem fU(a b c:List UInt8):jy (ba prog) (d+2) 54 (.agg [.str a,.str b,.str c]) (.agg [.str a,.str b,.str c])=some true:=by have i:=kB d;rw[jy];simp[Rt,jm,TyI.isAgg,i]
theorem yD(a b c o:List UInt8):jy (ba prog) (d+3) 56 (.agg [.str a,.str b,.str c,.str o]) (.agg [.str a,.str b,.str c,.str o])=some true:=by have i:=kB (d+1);have j:=fU d;rw[jy];simp[Rt,jm,TyI.isAgg,i,j]
theorem H6(a b c o e f g:List UInt8):jy (ba prog) (d+4) 58 (.agg [.str a,.str b,.str c,.str o,.str e,.str f,.str g]) (.agg [.str a,.str b,.str c,.str o,.str e,.str f,.str g])=some true:=by have j:=fU (d+1);have k:=yD d;rw[jy];simp[Rt,jm,TyI.isAgg,j,k]
theorem MT(a b c o w u:List UInt8):jy (ba prog) (d+4) 63 (.agg [.str a,.str b,.str c,.str o,.str w,.str u]) (.agg [.str a,.str b,.str c,.str o,.str w,.str u])=some true:=by have i:=kB (d+2);have Z:=Be (d+2);have k:=yD d;rw[jy];simp[Rt,jm,TyI.isAgg,i,Z,k]
theorem MW(t u v w:Int):jy (ba prog) (d+2) 64 (.agg [.int .i64 t,.int .i64 u,.int .i64 v,.int .i64 w]) (.agg [.int .i64 t,.int .i64 u,.int .i64 v,.int .i64 w])=some true:=by have r:List.range' 0 4=[0,1,2,3]:=rfl;have i:=H7 d;rw[jy];simp only[Gh,Gg,r,VH];simp[jm,TyI.isAgg,i]
theorem MV(t u v w:Int)(a b c:List UInt8):jy (ba prog) (d+3) 66 (.agg [.int .i64 t,.int .i64 u,.int .i64 v,.int .i64 w,.str a,.str b,.str c]) (.agg [.int .i64 t,.int .i64 u,.int .i64 v,.int .i64 w,.str a,.str b,.str c])=some true:=by have j:=fU (d+0);have k:=MW d;rw[jy];simp[Rt,jm,TyI.isAgg,j,k]
end
def ku:List (List UInt8):=[[101,48],[101,49],[101,50],[101,51],[101,52],[101,53],[107,48],[107,49],[107,50],[107,51],[107,52],[107,53],[65,49],[65,50],[65,51],[66,49],[66,50],[66,51],[67,49],[67,50],[67,51],[68,49],[68,50],[68,51],[69,49],[69,50],[69,51],[70,49],[70,50],[70,51],[116],[122],[102,105,110,101],[110],[110,95,97],[110,95,98],[110,95,99],[110,95,114,111,99,107]]
theorem gj(nm:List UInt8)(h:nm∈ku)(M:Mem):kO prog 132 [.str nm] M (.int .i64 0) M:=by refine cH (ax _) (lv:=ad) (K:=9) rfl rfl ?_ M;simp only[ku,lM] at h;rcases h with h | h | h | h | h | h | h | h | h | h | h | h | h | h | h | h | h | h | h | h | h | h | h | h | h | h | h | h | h | h | h | h | h | h | h | h | h | h<;>(subst h;as_aux_lemma=>kernel_rfl)
def xt:List AV:=[158,159,160,161,162,163,164,165,73,166,167,168,169,170,171,172,173,174,175,176,177,178,179,180,181].map fun i=>.func i []
theorem Hl(M:Mem):kO prog 110 [] M (.agg xt) M:=by refine cH (ax _) (lv:=ad) (K:=6) rfl rfl ?_ M;as_aux_lemma=>kernel_rfl
theorem pK{T:TypeId→Option TyI}{O:ae3}{N m0:Nat}{ops:Array Oper}:∀(a b:List Oper) (s:XS),dx T O N m0 ops (a++b) s=(dx T O N m0 ops a s).bind (dx T O N m0 ops b)
 | [],b,s=>rfl
 |o::a,b,s=>by
  rw[List.cons_append,dx,dx];split
  ·split
   ·split
    ·exact pK a b _
    ·rfl
   ·exact pK a b _
   ·rfl
  ·rfl
variable{O:ae3}{m0:Nat}{ops:Array Oper}
theorem dH{T:TypeId→Option TyI}{N:Nat}{a b:List Oper}{s s1:XS}{r:Option XS}(h:dx T O N m0 ops a s=some s1)(h2:dx T O N m0 ops b s1=r):dx T O N m0 ops (a++b) s=r:=by rw[pK,h];exact h2
noncomputable def aS:Array Oper:=match f133.body with
 |some (.seq _ (.seq (.region _ ops _) _))=>ops
 |_=> #[]
noncomputable def qw:List Oper:=(aS.toList.drop 0).take 6
noncomputable def qz:List Oper:=(aS.toList.drop 6).take 7
noncomputable def qA:List Oper:=(aS.toList.drop 13).take 9
noncomputable def qB:List Oper:=(aS.toList.drop 22).take 9
noncomputable def qD:List Oper:=(aS.toList.drop 31).take 9
noncomputable def qE:List Oper:=(aS.toList.drop 40).take 7
noncomputable def qG:List Oper:=(aS.toList.drop 47).take 9
noncomputable def qI:List Oper:=(aS.toList.drop 56).take 9
noncomputable def qJ:List Oper:=(aS.toList.drop 65).take 9
noncomputable def qL:List Oper:=(aS.toList.drop 74).take 7
noncomputable def n9:List Oper:=(aS.toList.drop 81).take 7
theorem H8:aS.toList=qw++(qz++(qA++(qB++(qD++(qE++(qG++(qI++(qJ++(qL++(n9)))))))))):=by kernel_rfl
structure Evc where
 k:Int
 nm:List UInt8
 B:List (List UInt8):=[]
 U:List (List UInt8):=[]
 S:List (List (List UInt8)):=[]
 K:List (List UInt8×List UInt8):=[]
 (t1 t2 t3 t4:Int:=0)
 (x5 x6 x7 x8 x9 x10 x11 x12 x13 x14 x16 x17 x18 x19 x20 x21 x22 x23 x24 x29 x30 x31:List UInt8:=[])
def Evc.cells(c:Evc)(b u s y:AV):List AV:=[.int .i64 c.k,.str c.nm,b,u,s,.str c.x5,.str c.x6,.str c.x7,.str c.x8,.str c.x9,.str c.x10,.str c.x11,.str c.x12,.str c.x13,.str c.x14,y,.str c.x16,.str c.x17,.str c.x18,.str c.x19,.str c.x20,.str c.x21,.str c.x22,.str c.x23,.str c.x24,.int .i64 c.t1,.int .i64 c.t2,.int .i64 c.t3,.int .i64 c.t4,.str c.x29,.str c.x30,.str c.x31]
noncomputable def Bd:Array Oper:=match f133.body with
 |some (.seq (.region _ ops _) _)=>ops
 |_=> #[]
variable{b b' kn ZM s s' u u' :AV}{c:Evc}{d:Bool}{env:Env}{mem:Mem}{p q:Nat}
section
variable (h2:ab env 2=.ptr p 0)(h3:ab env 3=.ptr q 0)(hp:mem[p]? =some (.cells true 0 (c.cells b u s kn)))(hq:mem[q]? =some (.cells true 0 (c.cells b' u' s' ZM)))
include h2 h3 hp hq
theorem MX:
  ∃Z,dx (ba prog) O 92 m0 ops qw ⟨env,mem,d⟩=some ⟨Z,mem,d⟩∧ab Z 2=.ptr p 0∧ab Z 3=.ptr q 0∧ab Z 10=.bool true:=by
 have X:=fun d=>H7 d
 simp only[Evc.cells] at hp hq;simp[qw,aS,f133,h2,h3,hp,hq]
theorem MY(hg:(ops[5]?).bind (fun x=>x.dst)=some 10)(h1:ab env 10=.bool true):
  ∃Z,dx (ba prog) O 92 m0 ops qz ⟨env,mem,d⟩=some ⟨Z,mem,d⟩∧ab Z 2=.ptr p 0∧ab Z 3=.ptr q 0∧ab Z 17=.bool true:=by
 have X:=fun d=>Be d
 simp only[Evc.cells] at hp hq;simp[qz,aS,f133,h2,h3,hp,hq,hg,h1]
theorem MZ(hg:(ops[12]?).bind (fun x=>x.dst)=some 17)(h1:ab env 17=.bool true)(y:O (.fn 197) [b,b'] mem=some ⟨.bool true,none,[]⟩):
  ∃Z,dx (ba prog) O 92 m0 ops qA ⟨env,mem,d⟩=some ⟨Z,mem,d⟩∧ab Z 2=.ptr p 0∧ab Z 3=.ptr q 0∧ab Z 26=.bool true:=by
 simp only[Evc.cells] at hp hq;simp[qA,aS,f133,h2,h3,hp,hq,hg,h1,y]
theorem M1(hg:(ops[21]?).bind (fun x=>x.dst)=some 26)(h1:ab env 26=.bool true)(y:O (.fn 198) [u,u'] mem=some ⟨.bool true,none,[]⟩):
  ∃Z,dx (ba prog) O 92 m0 ops qB ⟨env,mem,d⟩=some ⟨Z,mem,d⟩∧ab Z 2=.ptr p 0∧ab Z 3=.ptr q 0∧ab Z 35=.bool true:=by
 simp only[Evc.cells] at hp hq;simp[qB,aS,f133,h2,h3,hp,hq,hg,h1,y]
theorem M2(hg:(ops[30]?).bind (fun x=>x.dst)=some 35)(h1:ab env 35=.bool true)(y:O (.fn 199) [s,s'] mem=some ⟨.bool true,none,[]⟩):
  ∃Z,dx (ba prog) O 92 m0 ops qD ⟨env,mem,d⟩=some ⟨Z,mem,d⟩∧ab Z 2=.ptr p 0∧ab Z 3=.ptr q 0∧ab Z 44=.bool true:=by
 simp only[Evc.cells] at hp hq;simp[qD,aS,f133,h2,h3,hp,hq,hg,h1,y]
theorem M4(hg:(ops[39]?).bind (fun x=>x.dst)=some 44)(h1:ab env 44=.bool true):
  ∃Z,dx (ba prog) O 92 m0 ops qE ⟨env,mem,d⟩=some ⟨Z,mem,d⟩∧ab Z 2=.ptr p 0∧ab Z 3=.ptr q 0∧ab Z 51=.bool true:=by
 have X:=fun d=>H6 d
 simp only[Evc.cells] at hp hq;simp[qE,aS,f133,h2,h3,hp,hq,hg,h1,X]
theorem M5(hg:(ops[46]?).bind (fun x=>x.dst)=some 51)(h1:ab env 51=.bool true):
  ∃Z,dx (ba prog) O 92 m0 ops qG ⟨env,mem,d⟩=some ⟨Z,mem,d⟩∧ab Z 2=.ptr p 0∧ab Z 3=.ptr q 0∧ab Z 60=.bool true:=by
 have X:=fun d=>fU d
 simp only[Evc.cells] at hp hq;simp[qG,aS,f133,h2,h3,hp,hq,hg,h1,X]
theorem M6(hg:(ops[55]?).bind (fun x=>x.dst)=some 60)(h1:ab env 60=.bool true)(y:O (.fn 200) [kn,ZM] mem=some ⟨.bool true,none,[]⟩):
  ∃Z,dx (ba prog) O 92 m0 ops qI ⟨env,mem,d⟩=some ⟨Z,mem,d⟩∧ab Z 2=.ptr p 0∧ab Z 3=.ptr q 0∧ab Z 69=.bool true:=by
 simp only[Evc.cells] at hp hq;simp[qI,aS,f133,h2,h3,hp,hq,hg,h1,y]
theorem M7(hg:(ops[64]?).bind (fun x=>x.dst)=some 69)(h1:ab env 69=.bool true):
  ∃Z,dx (ba prog) O 92 m0 ops qJ ⟨env,mem,d⟩=some ⟨Z,mem,d⟩∧ab Z 2=.ptr p 0∧ab Z 3=.ptr q 0∧ab Z 78=.bool true:=by
 have X:=fun d=>fU d
 simp only[Evc.cells] at hp hq;simp[qJ,aS,f133,h2,h3,hp,hq,hg,h1,X]
theorem M8(hg:(ops[73]?).bind (fun x=>x.dst)=some 78)(h1:ab env 78=.bool true):
  ∃Z,dx (ba prog) O 92 m0 ops qL ⟨env,mem,d⟩=some ⟨Z,mem,d⟩∧ab Z 2=.ptr p 0∧ab Z 3=.ptr q 0∧ab Z 85=.bool true:=by
 have X:=fun d=>MT d
 simp only[Evc.cells] at hp hq;simp[qL,aS,f133,h2,h3,hp,hq,hg,h1,X]
theorem Ia(hg:(ops[80]?).bind (fun x=>x.dst)=some 85)(h1:ab env 85=.bool true):
  ∃Z,dx (ba prog) O 92 m0 ops n9 ⟨env,mem,d⟩=some ⟨Z,mem,d⟩∧ab Z 2=.ptr p 0∧ab Z 3=.ptr q 0∧ab Z 4=.bool true:=by
 have X:=fun d=>MV d
 simp only[Evc.cells] at hp hq;simp[n9,aS,f133,h2,h3,hp,hq,hg,h1,X]
theorem P8(Z2:O (.fn 197) [b,b'] mem=some ⟨.bool true,none,[]⟩)(y:O (.fn 198) [u,u'] mem=some ⟨.bool true,none,[]⟩)(H:O (.fn 199) [s,s'] mem=some ⟨.bool true,none,[]⟩)(I:O (.fn 200) [kn,ZM] mem=some ⟨.bool true,none,[]⟩):
  ∃AC,dx (ba prog) O 92 m0 aS aS.toList ⟨env,mem,d⟩=some ⟨AC,mem,d⟩∧ab AC 4=.bool true:=by
 have g1:(aS[5]?).bind (fun x=>x.dst)=some 10:=by kernel_rfl
 have g2:(aS[12]?).bind (fun x=>x.dst)=some 17:=by kernel_rfl
 have g3:(aS[21]?).bind (fun x=>x.dst)=some 26:=by kernel_rfl
 have g4:(aS[30]?).bind (fun x=>x.dst)=some 35:=by kernel_rfl
 have g5:(aS[39]?).bind (fun x=>x.dst)=some 44:=by kernel_rfl
 have g6:(aS[46]?).bind (fun x=>x.dst)=some 51:=by kernel_rfl
 have g7:(aS[55]?).bind (fun x=>x.dst)=some 60:=by kernel_rfl
 have g8:(aS[64]?).bind (fun x=>x.dst)=some 69:=by kernel_rfl
 have g9:(aS[73]?).bind (fun x=>x.dst)=some 78:=by kernel_rfl
 have Z:(aS[80]?).bind (fun x=>x.dst)=some 85:=by kernel_rfl
 obtain⟨e0,r0,X,V,b0⟩:=MX (O:=O) (m0:=m0) (ops:=aS) (d:=d) h2 h3 hp hq;obtain⟨e1,r1,U,S,b1⟩:=MY (O:=O) (m0:=m0) (ops:=aS) (d:=d) X V hp hq g1 b0;obtain⟨e2,r2,R,Q,b2⟩:=MZ (O:=O) (m0:=m0) (ops:=aS) (d:=d) U S hp hq g2 b1 Z2;obtain⟨e3,r3,N,M,b3⟩:=M1 (O:=O) (m0:=m0) (ops:=aS) (d:=d) R Q hp hq g3 b2 y;obtain⟨e4,r4,L,K,b4⟩:=M2 (O:=O) (m0:=m0) (ops:=aS) (d:=d) N M hp hq g4 b3 H;obtain⟨e5,r5,G,F,b5⟩:=M4 (O:=O) (m0:=m0) (ops:=aS) (d:=d) L K hp hq g5 b4;obtain⟨e6,r6,D,C,b6⟩:=M5 (O:=O) (m0:=m0) (ops:=aS) (d:=d) G F hp hq g6 b5;obtain⟨e7,r7,B,o,b7⟩:=M6 (O:=O) (m0:=m0) (ops:=aS) (d:=d) D C hp hq g7 b6 I;obtain⟨e8,r8,m,j,b8⟩:=M7 (O:=O) (m0:=m0) (ops:=aS) (d:=d) B o hp hq g8 b7;obtain⟨e9,r9,Y,W,b9⟩:=M8 (O:=O) (m0:=m0) (ops:=aS) (d:=d) m j hp hq g9 b8;obtain⟨J,r10,aeR,aeS,b10⟩:=Ia (O:=O) (m0:=m0) (ops:=aS) (d:=d) Y W hp hq Z b9;exact⟨J,by rw[H8];exact dH r0 (dH r1 (dH r2 (dH r3 (dH r4 (dH r5 (dH r6 (dH r7 (dH r8 (dH r9 (r10)))))))))),b10⟩
end
theorem PA(y:qS prog O){m:Mem}(W:O (.fn 197) [b,b'] (m++[.cells true 0 (c.cells b u s kn),.cells true 0 (c.cells b' u' s' ZM)])=some ⟨.bool true,none,[]⟩)(H:O (.fn 198) [u,u'] (m++[.cells true 0 (c.cells b u s kn),.cells true 0 (c.cells b' u' s' ZM)])=some ⟨.bool true,none,[]⟩)(I:O (.fn 199) [s,s'] (m++[.cells true 0 (c.cells b u s kn),.cells true 0 (c.cells b' u' s' ZM)])=some ⟨.bool true,none,[]⟩)(J:O (.fn 200) [kn,ZM] (m++[.cells true 0 (c.cells b u s kn),.cells true 0 (c.cells b' u' s' ZM)])=some ⟨.bool true,none,[]⟩):
  kO prog 133 [.agg (c.cells b u s kn),.agg (c.cells b' u' s' ZM)] m (.bool true) m:=by
 have R:aT prog 133=some f133:=by kernel_rfl
 obtain⟨ops,X⟩:=xE aS;obtain⟨F,V⟩:=pN (p:=fun e (_:Bool)=>ab e 2=.ptr m.length 0∧ab e 3=.ptr (m.length+1) 0) (q:=fun env (_:Bool) AC =>dx (ba prog) O 92 m.length ops ops.toList ⟨env,(m++[.cells true 0 (c.cells b u s kn),.cells true 0 (c.cells b' u' s' ZM)]),false⟩=some ⟨AC,(m++[.cells true 0 (c.cells b u s kn),.cells true 0 (c.cells b' u' s' ZM)]),false⟩∧ab AC 4=.bool true) (fun env _ h=>by
  subst X;have Q:((m++[.cells true 0 (c.cells b u s kn),.cells true 0 (c.cells b' u' s' ZM)]))[m.length]? =some (.cells true 0 (c.cells b u s kn)):=by simp
  have N:((m++[.cells true 0 (c.cells b u s kn),.cells true 0 (c.cells b' u' s' ZM)]))[m.length+1]? =some (.cells true 0 (c.cells b' u' s' ZM)):=by simp
  exact P8 h.1 h.2 Q N W H I J)
 have U:=fun env Z h3=>(V env false ⟨Z,h3⟩).1
 have S:=fun env Z h3=>(V env false ⟨Z,h3⟩).2
 refine fP y ?_;have M:f133.body=some (.seq (.region 0 Bd false) (.seq (.region 1 ops false) .ret)):=by rw[X];kernel_rfl
 unfold aa;rw[R];dsimp only;rw[M];dsimp only;simp only[Evc.cells] at U S ⊢;simp[U,S,Bd,f133]
end Go.Proofs
