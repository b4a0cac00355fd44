/- See P53. -/
import Derived.Test.YtmhkeaphiadacaaGreatDoorP22
import Derived.Test.YtmhkeaphiadacaaGreatDoorP25
set_option linter.all false
set_option maxRecDepth 100000
set_option maxHeartbeats 40000000
namespace Go.Proofs
open Go.Eng
open Tryz
section
variable (d:Nat)
theorem mI(x y:List UInt8):iI (aC prog) (d+1) 9 (.str x) (.str y)=some (x==y):=by rw[iI];simp
theorem uF(x y:Int):iI (aC prog) (d+1) 3 (.int .i64 x) (.int .i64 y)=some (decide (x=y)):=by rw[iI];simp
theorem ja(a b c:List UInt8):iI (aC prog) (d+2) 51 (.agg [.str a,.str b,.str c]) (.agg [.str a,.str b,.str c])=some true:=by have i:=fV d;rw[iI];simp[Kl,fR,TyI.isAgg,i]
theorem xj(a b c o:List UInt8):iI (aC prog) (d+3) 53 (.agg [.str a,.str b,.str c,.str o]) (.agg [.str a,.str b,.str c,.str o])=some true:=by have i:=fV (d+1);have j:=ja d;rw[iI];simp[Kl,fR,TyI.isAgg,i,j]
theorem xh(a b c o e f g:List UInt8):iI (aC prog) (d+4) 55 (.agg [.str a,.str b,.str c,.str o,.str e,.str f,.str g]) (.agg [.str a,.str b,.str c,.str o,.str e,.str f,.str g])=some true:=by have j:=ja (d+1);have k:=xj d;rw[iI];simp[Kl,fR,TyI.isAgg,j,k]
theorem Aj(a b c o w u:List UInt8):iI (aC prog) (d+4) 60 (.agg [.str a,.str b,.str c,.str o,.str w,.str u]) (.agg [.str a,.str b,.str c,.str o,.str w,.str u])=some true:=by have i:=fV (d+2);have i2:=mI (d+2);have k:=xj d;rw[iI];simp[Kl,fR,TyI.isAgg,i,i2,k]
theorem LN(t u v w:Int):iI (aC prog) (d+2) 61 (.agg [.int .i64 t,.int .i64 u,.int .i64 v,.int .i64 w]) (.agg [.int .i64 t,.int .i64 u,.int .i64 v,.int .i64 w])=some true:=by have r:List.range' 0 4=[0,1,2,3]:=rfl;have i:=uF d;rw[iI];simp only[E7,E6,r,Ug];simp[fR,TyI.isAgg,i]
theorem LM(t u v w:Int)(a b c:List UInt8):iI (aC prog) (d+3) 63 (.agg [.int .i64 t,.int .i64 u,.int .i64 v,.int .i64 w,.str a,.str b,.str c]) (.agg [.int .i64 t,.int .i64 u,.int .i64 v,.int .i64 w,.str a,.str b,.str c])=some true:=by have j:=ja (d+0);have k:=LN d;rw[iI];simp[Kl,fR,TyI.isAgg,j,k]
end
theorem Ge(M:Mem):mB prog 82 [.kO,.kO] M (.bool true) M:=by
 have h0:∀M,mB prog 113 [.kO,.kO] M (.bool true) M:=fun M=>by
  have hG:aO prog 113=some f113:=by kernel_rfl
  refine aB (ah _) (lv:=fun _=>[13]) (K:=3) rfl rfl ?_ M;simp[ad,hG,f113,aR,gl]
 have hO:qS prog (ar fun f args=>match f,args with
   |113,[.kO,.kO]=>some (.bool true)
   |_,_=>none):=bZ fun f args v h mem=>by
  split at h
  ·cases h;exact h0 mem
  ·cases h
 have hG:aO prog 82=some f82:=by kernel_rfl
 refine aB hO (lv:=fun _=>[13]) (K:=3) rfl rfl ?_ M;simp[ad,hG,f82,ar]
theorem Gw(M:Mem):mB prog 32 [.kO,.kO] M (.bool true) M:=by
 have hG:aO prog 32=some f32:=by kernel_rfl
 refine aB (ah _) (lv:=fun _=>[13]) (K:=3) rfl rfl ?_ M;simp[ad,hG,f32,aR,gl]
theorem Gh(M:Mem):mB prog 84 [.kO,.kO] M (.bool true) M:=by
 have hG:aO prog 84=some f84:=by kernel_rfl
 refine aB (ah _) (lv:=fun _=>[13]) (K:=3) rfl rfl ?_ M;simp[ad,hG,f84,aR,gl]
theorem LC(M:Mem):mB prog 83 [.kO,.kO] M (.bool true) M:=by
 have h0:∀M,mB prog 114 [.kO,.kO,.func 82 []] M (.bool true) M:=fun M=>by
  have hG:aO prog 114=some f114:=by kernel_rfl
  refine aB (ah _) (lv:=fun _=>[17]) (K:=3) rfl rfl ?_ M;simp[ad,hG,f114,aR,gl]
 have hO:qS prog (ar fun f args=>match f,args with
   |114,[.kO,.kO,.func 82 []]=>some (.bool true)
   |_,_=>none):=bZ fun f args v h mem=>by
  split at h
  ·cases h;exact h0 mem
  ·cases h
 have hG:aO prog 83=some f83:=by kernel_rfl
 refine aB hO (lv:=fun _=>[]) (K:=3) rfl rfl ?_ M;simp[ad,hG,f83,ar]
end Go.Proofs
namespace Go.Proofs
open Go.Eng
open Tryz
def bk:List (List UInt8):=[[101,48],[101,49],[101,50],[101,51],[101,52],[101,53],[107,48],[107,49],[107,50],[107,51],[107,52],[107,53],[65,49],[65,50],[65,51],[66,49],[66,50],[66,51],[67,49],[67,50],[67,51],[68,49],[68,50],[68,51],[69,49],[69,50],[69,51],[70,49],[70,50],[70,51],[116],[122],[102,105,110,101]]
theorem cW(nm:List UInt8)(h:nm∈bk)(M:Mem):mB prog 80 [.str nm] M (.int .i64 0) M:=by refine aB (ah _) (lv:=ab) (K:=6) rfl rfl ?_ M;simp only[bk,List.mem_cons,List.not_mem_nil,or_false] at h;rcases h with h | h | h | h | h | h | h | h | h | h | h | h | h | h | h | h | h | h | h | h | h | h | h | h | h | h | h | h | h | h | h | h | h<;>(subst h;as_aux_lemma=>kernel_rfl)
theorem BN(nm:List UInt8)(h:nm∈[[],[57],[120,45]])(M:Mem):mB prog 80 [.str nm] M (.int .i64 8) M:=by refine aB (ah _) (lv:=ab) (K:=6) rfl rfl ?_ M;simp only[List.mem_cons,List.not_mem_nil,or_false] at h;rcases h with h | h | h<;>(subst h;as_aux_lemma=>kernel_rfl)
variable{i:Nat}
theorem dK(h:i<6):bF i∈bk:=by
 have:i=0∨i=1∨i=2∨i=3∨i=4∨i=5:=by omega
 rcases this with rfl | rfl | rfl | rfl | rfl | rfl<;>decide
theorem xA(h:i<6):ik i∈bk:=by
 have:i=0∨i=1∨i=2∨i=3∨i=4∨i=5:=by omega
 rcases this with rfl | rfl | rfl | rfl | rfl | rfl<;>decide
theorem im{J:Nat}(h:i<6)(hJ:J<3):∀u∈bp i J,u∈bk:=by
 have hi:i=0∨i=1∨i=2∨i=3∨i=4∨i=5:=by omega
 have hj:J=0∨J=1∨J=2:=by omega
 rcases hi with rfl | rfl | rfl | rfl | rfl | rfl<;>rcases hj with rfl | rfl | rfl<;>decide
def jQ:List AV:=(List.range 25).map fun i=>.func (149+i) []
theorem Gd(M:Mem):mB prog 112 [] M (.agg jQ) M:=by refine aB (ah _) (lv:=ab) (K:=6) rfl rfl ?_ M;as_aux_lemma=>kernel_rfl
theorem oL{T:TypeId→Option TyI}{O:aac}{N m0:Nat}{ops:Array Oper}:∀(a b:List Oper) (s:XS),aX T O N m0 ops (a++b) s=(aX T O N m0 ops a s).bind (aX T O N m0 ops b)
 | [],b,s=>rfl
 |o::a,b,s=>by
  rw[List.cons_append,aX,aX];split
  ·split
   ·split
    ·exact oL a b _
    ·rfl
   ·exact oL a b _
   ·rfl
  ·rfl
variable{O:aac}{m0:Nat}{ops:Array Oper}
theorem aq{T:TypeId→Option TyI}{N:Nat}{a b:List Oper}{s s1:XS}{r:Option XS}(h:aX T O N m0 ops a s=some s1)(h2:aX T O N m0 ops b s1=r):aX T O N m0 ops (a++b) s=r:=by rw[oL,h];exact h2
noncomputable def ae:Array Oper:=match f49.body with
 |some (.seq _ (.seq (.region _ ops _) _))=>ops
 |_=> #[]
noncomputable def iy:List Oper:=(ae.toList.drop 0).take 6
noncomputable def iz:List Oper:=(ae.toList.drop 6).take 7
noncomputable def fy:List Oper:=(ae.toList.drop 13).take 9
noncomputable def eO:List Oper:=(ae.toList.drop 22).take 9
noncomputable def dV:List Oper:=(ae.toList.drop 31).take 9
noncomputable def da:List Oper:=(ae.toList.drop 40).take 7
noncomputable def cL:List Oper:=(ae.toList.drop 47).take 9
noncomputable def db:List Oper:=(ae.toList.drop 56).take 9
noncomputable def cM:List Oper:=(ae.toList.drop 65).take 9
noncomputable def bX:List Oper:=(ae.toList.drop 74).take 7
noncomputable def bS:List Oper:=(ae.toList.drop 81).take 7
theorem xi:ae.toList=iy++(iz++(fy++(eO++(dV++(da++(cL++(db++(cM++(bX++(bS)))))))))):=by kernel_rfl
structure Evc where
 k:Int
 nm:List UInt8
 B:List (List UInt8):=[]
 U:List (List UInt8):=[]
 S:List (List (List UInt8)):=[]
 K:List (List UInt8×List UInt8):=[]
 (t1 t2 t3 t4:Int:=0)
 (x5 x6 x7 x8 x9 x10 x11 x12 x13 x14 x16 x17 x18 x19 x20 x21 x22 x23 x24 x29 x30 x31:List UInt8:=[])
def Evc.cells(c:Evc) (b u s kn:AV):List AV:=[.int .i64 c.k,.str c.nm,b,u,s,.str c.x5,.str c.x6,.str c.x7,.str c.x8,.str c.x9,.str c.x10,.str c.x11,.str c.x12,.str c.x13,.str c.x14,kn,.str c.x16,.str c.x17,.str c.x18,.str c.x19,.str c.x20,.str c.x21,.str c.x22,.str c.x23,.str c.x24,.int .i64 c.t1,.int .i64 c.t2,.int .i64 c.t3,.int .i64 c.t4,.str c.x29,.str c.x30,.str c.x31]
noncomputable def nF:Array Oper:=match f49.body with
 |some (.seq (.region _ ops _) _)=>ops
 |_=> #[]
variable{b b' kn WT s s' u u' :AV}{c:Evc}{d:Bool}{env:Env}{mem:Mem}{p q:Nat}
section
variable (h2:aa env 2=.ptr p 0)(h3:aa env 3=.ptr q 0)(hp:mem[p]? =some (.cells true 0 (c.cells b u s kn)))(hq:mem[q]? =some (.cells true 0 (c.cells b' u' s' WT)))
include h2 h3 hp hq
theorem LQ:
  ∃z',aX (aC prog) O 92 m0 ops iy ⟨env,mem,d⟩=some ⟨z',mem,d⟩∧aa z' 2=.ptr p 0∧aa z' 3=.ptr q 0∧aa z' 10=.bool true:=by
 have e0:=fun d=>uF d
 simp only[Evc.cells] at hp hq;simp[iy,ae,f49,h2,h3,hp,hq]
theorem LR(hg:(ops[5]?).bind (fun x=>x.dst)=some 10)(h1:aa env 10=.bool true):
  ∃z',aX (aC prog) O 92 m0 ops iz ⟨env,mem,d⟩=some ⟨z',mem,d⟩∧aa z' 2=.ptr p 0∧aa z' 3=.ptr q 0∧aa z' 17=.bool true:=by
 have e1:=fun d=>mI d
 simp only[Evc.cells] at hp hq;simp[iz,ae,f49,h2,h3,hp,hq,hg,h1]
theorem LS(hg:(ops[12]?).bind (fun x=>x.dst)=some 17)(h1:aa env 17=.bool true)(hO:O (.fn 82) [b,b'] mem=some ⟨.bool true,none,[]⟩):
  ∃z',aX (aC prog) O 92 m0 ops fy ⟨env,mem,d⟩=some ⟨z',mem,d⟩∧aa z' 2=.ptr p 0∧aa z' 3=.ptr q 0∧aa z' 26=.bool true:=by
 simp only[Evc.cells] at hp hq;simp[fy,ae,f49,h2,h3,hp,hq,hg,h1,hO]
theorem LU(hg:(ops[21]?).bind (fun x=>x.dst)=some 26)(h1:aa env 26=.bool true)(hO:O (.fn 32) [u,u'] mem=some ⟨.bool true,none,[]⟩):
  ∃z',aX (aC prog) O 92 m0 ops eO ⟨env,mem,d⟩=some ⟨z',mem,d⟩∧aa z' 2=.ptr p 0∧aa z' 3=.ptr q 0∧aa z' 35=.bool true:=by
 simp only[Evc.cells] at hp hq;simp[eO,ae,f49,h2,h3,hp,hq,hg,h1,hO]
theorem LV(hg:(ops[30]?).bind (fun x=>x.dst)=some 35)(h1:aa env 35=.bool true)(hO:O (.fn 83) [s,s'] mem=some ⟨.bool true,none,[]⟩):
  ∃z',aX (aC prog) O 92 m0 ops dV ⟨env,mem,d⟩=some ⟨z',mem,d⟩∧aa z' 2=.ptr p 0∧aa z' 3=.ptr q 0∧aa z' 44=.bool true:=by
 simp only[Evc.cells] at hp hq;simp[dV,ae,f49,h2,h3,hp,hq,hg,h1,hO]
theorem LW(hg:(ops[39]?).bind (fun x=>x.dst)=some 44)(h1:aa env 44=.bool true):
  ∃z',aX (aC prog) O 92 m0 ops da ⟨env,mem,d⟩=some ⟨z',mem,d⟩∧aa z' 2=.ptr p 0∧aa z' 3=.ptr q 0∧aa z' 51=.bool true:=by
 have e2:=fun d=>xh d
 simp only[Evc.cells] at hp hq;simp[da,ae,f49,h2,h3,hp,hq,hg,h1,e2]
theorem LX(hg:(ops[46]?).bind (fun x=>x.dst)=some 51)(h1:aa env 51=.bool true):
  ∃z',aX (aC prog) O 92 m0 ops cL ⟨env,mem,d⟩=some ⟨z',mem,d⟩∧aa z' 2=.ptr p 0∧aa z' 3=.ptr q 0∧aa z' 60=.bool true:=by
 have e3:=fun d=>ja d
 simp only[Evc.cells] at hp hq;simp[cL,ae,f49,h2,h3,hp,hq,hg,h1,e3]
theorem LY(hg:(ops[55]?).bind (fun x=>x.dst)=some 60)(h1:aa env 60=.bool true)(hO:O (.fn 84) [kn,WT] mem=some ⟨.bool true,none,[]⟩):
  ∃z',aX (aC prog) O 92 m0 ops db ⟨env,mem,d⟩=some ⟨z',mem,d⟩∧aa z' 2=.ptr p 0∧aa z' 3=.ptr q 0∧aa z' 69=.bool true:=by
 simp only[Evc.cells] at hp hq;simp[db,ae,f49,h2,h3,hp,hq,hg,h1,hO]
theorem LZ(hg:(ops[64]?).bind (fun x=>x.dst)=some 69)(h1:aa env 69=.bool true):
  ∃z',aX (aC prog) O 92 m0 ops cM ⟨env,mem,d⟩=some ⟨z',mem,d⟩∧aa z' 2=.ptr p 0∧aa z' 3=.ptr q 0∧aa z' 78=.bool true:=by
 have e3:=fun d=>ja d
 simp only[Evc.cells] at hp hq;simp[cM,ae,f49,h2,h3,hp,hq,hg,h1,e3]
theorem L3(hg:(ops[73]?).bind (fun x=>x.dst)=some 78)(h1:aa env 78=.bool true):
  ∃z',aX (aC prog) O 92 m0 ops bX ⟨env,mem,d⟩=some ⟨z',mem,d⟩∧aa z' 2=.ptr p 0∧aa z' 3=.ptr q 0∧aa z' 85=.bool true:=by
 have e4:=fun d=>Aj d
 simp only[Evc.cells] at hp hq;simp[bX,ae,f49,h2,h3,hp,hq,hg,h1,e4]
theorem GU(hg:(ops[80]?).bind (fun x=>x.dst)=some 85)(h1:aa env 85=.bool true):
  ∃z',aX (aC prog) O 92 m0 ops bS ⟨env,mem,d⟩=some ⟨z',mem,d⟩∧aa z' 2=.ptr p 0∧aa z' 3=.ptr q 0∧aa z' 4=.bool true:=by
 have e5:=fun d=>LM d
 simp only[Evc.cells] at hp hq;simp[bS,ae,f49,h2,h3,hp,hq,hg,h1,e5]
theorem OK(W0:O (.fn 82) [b,b'] mem=some ⟨.bool true,none,[]⟩)(hO3:O (.fn 32) [u,u'] mem=some ⟨.bool true,none,[]⟩)(hO4:O (.fn 83) [s,s'] mem=some ⟨.bool true,none,[]⟩)(hO7:O (.fn 84) [kn,WT] mem=some ⟨.bool true,none,[]⟩):
  ∃z',aX (aC prog) O 92 m0 ae ae.toList ⟨env,mem,d⟩=some ⟨z',mem,d⟩∧aa z' 4=.bool true:=by
 have g1:(ae[5]?).bind (fun x=>x.dst)=some 10:=by kernel_rfl
 have g2:(ae[12]?).bind (fun x=>x.dst)=some 17:=by kernel_rfl
 have g3:(ae[21]?).bind (fun x=>x.dst)=some 26:=by kernel_rfl
 have g4:(ae[30]?).bind (fun x=>x.dst)=some 35:=by kernel_rfl
 have g5:(ae[39]?).bind (fun x=>x.dst)=some 44:=by kernel_rfl
 have g6:(ae[46]?).bind (fun x=>x.dst)=some 51:=by kernel_rfl
 have g7:(ae[55]?).bind (fun x=>x.dst)=some 60:=by kernel_rfl
 have g8:(ae[64]?).bind (fun x=>x.dst)=some 69:=by kernel_rfl
 have g9:(ae[73]?).bind (fun x=>x.dst)=some 78:=by kernel_rfl
 have g10:(ae[80]?).bind (fun x=>x.dst)=some 85:=by kernel_rfl
 obtain⟨e0,r0,Yt,Yu,b0⟩:=LQ (O:=O) (m0:=m0) (ops:=ae) (d:=d) h2 h3 hp hq;obtain⟨e1,r1,Yv,Yw,b1⟩:=LR (O:=O) (m0:=m0) (ops:=ae) (d:=d) Yt Yu hp hq g1 b0;obtain⟨e2,r2,Yx,Yy,b2⟩:=LS (O:=O) (m0:=m0) (ops:=ae) (d:=d) Yv Yw hp hq g2 b1 W0;obtain⟨e3,r3,Za,Zb,b3⟩:=LU (O:=O) (m0:=m0) (ops:=ae) (d:=d) Yx Yy hp hq g3 b2 hO3;obtain⟨e4,r4,Zc,Zd,b4⟩:=LV (O:=O) (m0:=m0) (ops:=ae) (d:=d) Za Zb hp hq g4 b3 hO4;obtain⟨e5,r5,Ze,Zf,b5⟩:=LW (O:=O) (m0:=m0) (ops:=ae) (d:=d) Zc Zd hp hq g5 b4;obtain⟨e6,r6,ZX,ZY,b6⟩:=LX (O:=O) (m0:=m0) (ops:=ae) (d:=d) Ze Zf hp hq g6 b5;obtain⟨e7,r7,h2_7,h3_7,b7⟩:=LY (O:=O) (m0:=m0) (ops:=ae) (d:=d) ZX ZY hp hq g7 b6 hO7;obtain⟨e8,r8,h2_8,h3_8,b8⟩:=LZ (O:=O) (m0:=m0) (ops:=ae) (d:=d) h2_7 h3_7 hp hq g8 b7;obtain⟨e9,r9,h2_9,h3_9,b9⟩:=L3 (O:=O) (m0:=m0) (ops:=ae) (d:=d) h2_8 h3_8 hp hq g9 b8;obtain⟨e10,r10,h2_10,h3_10,b10⟩:=GU (O:=O) (m0:=m0) (ops:=ae) (d:=d) h2_9 h3_9 hp hq g10 b9;exact⟨e10,by rw[xi];exact aq r0 (aq r1 (aq r2 (aq r3 (aq r4 (aq r5 (aq r6 (aq r7 (aq r8 (aq r9 (r10)))))))))),b10⟩
end
variable{m:Mem}
theorem Ol(hOk:qS prog O)(W0:O (.fn 82) [b,b'] (m++[.cells true 0 (c.cells b u s kn),.cells true 0 (c.cells b' u' s' WT)])=some ⟨.bool true,none,[]⟩)(hO3:O (.fn 32) [u,u'] (m++[.cells true 0 (c.cells b u s kn),.cells true 0 (c.cells b' u' s' WT)])=some ⟨.bool true,none,[]⟩)(hO4:O (.fn 83) [s,s'] (m++[.cells true 0 (c.cells b u s kn),.cells true 0 (c.cells b' u' s' WT)])=some ⟨.bool true,none,[]⟩)(hO7:O (.fn 84) [kn,WT] (m++[.cells true 0 (c.cells b u s kn),.cells true 0 (c.cells b' u' s' WT)])=some ⟨.bool true,none,[]⟩):
  mB prog 49 [.agg (c.cells b u s kn),.agg (c.cells b' u' s' WT)] m (.bool true) m:=by
 have hG:aO prog 49=some f49:=by kernel_rfl
 obtain⟨ops,F'⟩:∃o,o=ae:=⟨_,rfl⟩
 obtain⟨F,hF⟩:=rq (p:=fun e (_:Bool)=>aa e 2=.ptr m.length 0∧aa e 3=.ptr (m.length+1) 0) (q:=fun env (_:Bool) z' =>aX (aC prog) O 92 m.length ops ops.toList ⟨env,(m++[.cells true 0 (c.cells b u s kn),.cells true 0 (c.cells b' u' s' WT)]),false⟩=some ⟨z',(m++[.cells true 0 (c.cells b u s kn),.cells true 0 (c.cells b' u' s' WT)]),false⟩∧aa z' 4=.bool true) (fun env _ h=>by
  subst F';have hp:((m++[.cells true 0 (c.cells b u s kn),.cells true 0 (c.cells b' u' s' WT)]))[m.length]? =some (.cells true 0 (c.cells b u s kn)):=by simp
  have hq:((m++[.cells true 0 (c.cells b u s kn),.cells true 0 (c.cells b' u' s' WT)]))[m.length+1]? =some (.cells true 0 (c.cells b' u' s' WT)):=by simp
  exact OK h.1 h.2 hp hq W0 hO3 hO4 hO7)
 have H1:=fun env h2 h3=>(hF env false ⟨h2,h3⟩).1
 have P':=fun env h2 h3=>(hF env false ⟨h2,h3⟩).2
 refine aY (K:=1) (lv:=fun _=>[]) hOk ?_;have hb:f49.body=some (.seq (.region 0 nF false) (.seq (.region 1 ops false) .ret)):=by rw[F'];kernel_rfl
 unfold ad;rw[hG];dsimp only;rw[hb];dsimp only;simp only[Evc.cells] at H1 P' ⊢;simp[H1,P',nF,f49]
theorem iW(hOk:qS prog O){k t1 t2 t3 t4:Int}{nm x5 x6 x7 x8 x9 x10 x11 x12 x13 x14 x16 x17 x18 x19 x20 x21 x22 x23 x24 x29 x30 x31:List UInt8}(W0:O (.fn 82) [b,b] (m++[.cells true 0 [.int .i64 k,.str nm,b,u,s,.str x5,.str x6,.str x7,.str x8,.str x9,.str x10,.str x11,.str x12,.str x13,.str x14,kn,.str x16,.str x17,.str x18,.str x19,.str x20,.str x21,.str x22,.str x23,.str x24,.int .i64 t1,.int .i64 t2,.int .i64 t3,.int .i64 t4,.str x29,.str x30,.str x31],.cells true 0 [.int .i64 k,.str nm,b,u,s,.str x5,.str x6,.str x7,.str x8,.str x9,.str x10,.str x11,.str x12,.str x13,.str x14,kn,.str x16,.str x17,.str x18,.str x19,.str x20,.str x21,.str x22,.str x23,.str x24,.int .i64 t1,.int .i64 t2,.int .i64 t3,.int .i64 t4,.str x29,.str x30,.str x31]])=some ⟨.bool true,none,[]⟩)(hO3:O (.fn 32) [u,u] (m++[.cells true 0 [.int .i64 k,.str nm,b,u,s,.str x5,.str x6,.str x7,.str x8,.str x9,.str x10,.str x11,.str x12,.str x13,.str x14,kn,.str x16,.str x17,.str x18,.str x19,.str x20,.str x21,.str x22,.str x23,.str x24,.int .i64 t1,.int .i64 t2,.int .i64 t3,.int .i64 t4,.str x29,.str x30,.str x31],.cells true 0 [.int .i64 k,.str nm,b,u,s,.str x5,.str x6,.str x7,.str x8,.str x9,.str x10,.str x11,.str x12,.str x13,.str x14,kn,.str x16,.str x17,.str x18,.str x19,.str x20,.str x21,.str x22,.str x23,.str x24,.int .i64 t1,.int .i64 t2,.int .i64 t3,.int .i64 t4,.str x29,.str x30,.str x31]])=some ⟨.bool true,none,[]⟩)(hO4:O (.fn 83) [s,s] (m++[.cells true 0 [.int .i64 k,.str nm,b,u,s,.str x5,.str x6,.str x7,.str x8,.str x9,.str x10,.str x11,.str x12,.str x13,.str x14,kn,.str x16,.str x17,.str x18,.str x19,.str x20,.str x21,.str x22,.str x23,.str x24,.int .i64 t1,.int .i64 t2,.int .i64 t3,.int .i64 t4,.str x29,.str x30,.str x31],.cells true 0 [.int .i64 k,.str nm,b,u,s,.str x5,.str x6,.str x7,.str x8,.str x9,.str x10,.str x11,.str x12,.str x13,.str x14,kn,.str x16,.str x17,.str x18,.str x19,.str x20,.str x21,.str x22,.str x23,.str x24,.int .i64 t1,.int .i64 t2,.int .i64 t3,.int .i64 t4,.str x29,.str x30,.str x31]])=some ⟨.bool true,none,[]⟩)(hO7:O (.fn 84) [kn,kn] (m++[.cells true 0 [.int .i64 k,.str nm,b,u,s,.str x5,.str x6,.str x7,.str x8,.str x9,.str x10,.str x11,.str x12,.str x13,.str x14,kn,.str x16,.str x17,.str x18,.str x19,.str x20,.str x21,.str x22,.str x23,.str x24,.int .i64 t1,.int .i64 t2,.int .i64 t3,.int .i64 t4,.str x29,.str x30,.str x31],.cells true 0 [.int .i64 k,.str nm,b,u,s,.str x5,.str x6,.str x7,.str x8,.str x9,.str x10,.str x11,.str x12,.str x13,.str x14,kn,.str x16,.str x17,.str x18,.str x19,.str x20,.str x21,.str x22,.str x23,.str x24,.int .i64 t1,.int .i64 t2,.int .i64 t3,.int .i64 t4,.str x29,.str x30,.str x31]])=some ⟨.bool true,none,[]⟩):
  mB prog 49 [.agg [.int .i64 k,.str nm,b,u,s,.str x5,.str x6,.str x7,.str x8,.str x9,.str x10,.str x11,.str x12,.str x13,.str x14,kn,.str x16,.str x17,.str x18,.str x19,.str x20,.str x21,.str x22,.str x23,.str x24,.int .i64 t1,.int .i64 t2,.int .i64 t3,.int .i64 t4,.str x29,.str x30,.str x31],.agg [.int .i64 k,.str nm,b,u,s,.str x5,.str x6,.str x7,.str x8,.str x9,.str x10,.str x11,.str x12,.str x13,.str x14,kn,.str x16,.str x17,.str x18,.str x19,.str x20,.str x21,.str x22,.str x23,.str x24,.int .i64 t1,.int .i64 t2,.int .i64 t3,.int .i64 t4,.str x29,.str x30,.str x31]] m (.bool true) m:=
 Ol hOk (c:={ k:=k,nm:=nm,t1:=t1,t2:=t2,t3:=t3,t4:=t4,x5:=x5,x6:=x6,x7:=x7,x8:=x8,x9:=x9,x10:=x10,x11:=x11,x12:=x12,x13:=x13,x14:=x14,x16:=x16,x17:=x17,x18:=x18,x19:=x19,x20:=x20,x21:=x21,x22:=x22,x23:=x23,x24:=x24,x29:=x29,x30:=x30,x31:=x31 }) W0 hO3 hO4 hO7
end Go.Proofs
