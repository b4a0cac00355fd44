/- See R54. -/
import Derived.Test.YtgafjliihahjgaaGreatDoorR22
import Derived.Test.YtgafjliihahjgaaGreatDoorR25
set_option linter.all false
set_option maxRecDepth 100000
set_option maxHeartbeats 40000000
namespace Go.Proofs
open Go.Eng
open Tryz
section
variable (d:Nat)
theorem z6(x y:List UInt8):lz (aM prog) (d+1) 9 (.str x) (.str y)=some (x==y):=by rw[lz];simp
theorem Gy(x y:Int):lz (aM prog) (d+1) 3 (.int .i64 x) (.int .i64 y)=some (decide (x=y)):=by rw[lz];simp
theorem kh(a b c:List UInt8):lz (aM prog) (d+2) 31 (.agg [.str a,.str b,.str c]) (.agg [.str a,.str b,.str c])=some true:=by have i:=kg d;rw[lz];simp[Qf,jn,TyI.isAgg,i]
theorem xc(a b c o:List UInt8):lz (aM prog) (d+3) 71 (.agg [.str a,.str b,.str c,.str o]) (.agg [.str a,.str b,.str c,.str o])=some true:=by have i:=kg (d+1);have j:=kh d;rw[lz];simp[Qf,jn,TyI.isAgg,i,j]
theorem Gx(a b c o e f g:List UInt8):lz (aM prog) (d+4) 73 (.agg [.str a,.str b,.str c,.str o,.str e,.str f,.str g]) (.agg [.str a,.str b,.str c,.str o,.str e,.str f,.str g])=some true:=by have j:=kh (d+1);have k:=xc d;rw[lz];simp[Qf,jn,TyI.isAgg,j,k]
theorem Lu(a b c o w u:List UInt8):lz (aM prog) (d+4) 78 (.agg [.str a,.str b,.str c,.str o,.str w,.str u]) (.agg [.str a,.str b,.str c,.str o,.str w,.str u])=some true:=by have i:=kg (d+2);have i2:=z6 (d+2);have k:=xc d;rw[lz];simp[Qf,jn,TyI.isAgg,i,i2,k]
theorem Lx(t u v w:Int):lz (aM prog) (d+2) 79 (.agg [.int .i64 t,.int .i64 u,.int .i64 v,.int .i64 w]) (.agg [.int .i64 t,.int .i64 u,.int .i64 v,.int .i64 w])=some true:=by have r:List.range' 0 4=[0,1,2,3]:=rfl;have i:=Gy d;rw[lz];simp only[M9,L8,r,VW];simp[jn,TyI.isAgg,i]
theorem Lw(t u v w:Int)(a b c:List UInt8):lz (aM prog) (d+3) 81 (.agg [.int .i64 t,.int .i64 u,.int .i64 v,.int .i64 w,.str a,.str b,.str c]) (.agg [.int .i64 t,.int .i64 u,.int .i64 v,.int .i64 w,.str a,.str b,.str c])=some true:=by have j:=kh (d+0);have k:=Lx d;rw[lz];simp[Qf,jn,TyI.isAgg,j,k]
end
theorem FY(M:Mem):kF prog 166 [.kK,.kK] M (.bool true) M:=by
 have h0:∀M,kF prog 242 [.kK,.kK] M (.bool true) M:=fun M=>by
  have hG:aT prog 242=some f242:=by kernel_rfl
  refine az (ah _) (lv:=fun _=>[13]) (K:=3) rfl rfl ?_ M;simp[ad,hG,f242,aI,ej]
 have hO:kP prog (ag fun f args=>match f,args with
   |242,[.kK,.kK]=>some (.bool true)
   |_,_=>none):=bK fun f args v h mem=>by
  split at h
  ·cases h;exact h0 mem
  ·cases h
 have hG:aT prog 166=some f166:=by kernel_rfl
 refine az hO (lv:=fun _=>[13]) (K:=3) rfl rfl ?_ M;simp[ad,hG,f166,ag]
theorem Gl(M:Mem):kF prog 26 [.kK,.kK] M (.bool true) M:=by
 have hG:aT prog 26=some f26:=by kernel_rfl
 refine az (ah _) (lv:=fun _=>[13]) (K:=3) rfl rfl ?_ M;simp[ad,hG,f26,aI,ej]
theorem F7(M:Mem):kF prog 168 [.kK,.kK] M (.bool true) M:=by
 have hG:aT prog 168=some f168:=by kernel_rfl
 refine az (ah _) (lv:=fun _=>[13]) (K:=3) rfl rfl ?_ M;simp[ad,hG,f168,aI,ej]
theorem Li(M:Mem):kF prog 167 [.kK,.kK] M (.bool true) M:=by
 have h0:∀M,kF prog 243 [.kK,.kK,.func 166 []] M (.bool true) M:=fun M=>by
  have hG:aT prog 243=some f243:=by kernel_rfl
  refine az (ah _) (lv:=fun _=>[17]) (K:=3) rfl rfl ?_ M;simp[ad,hG,f243,aI,ej]
 have hO:kP prog (ag fun f args=>match f,args with
   |243,[.kK,.kK,.func 166 []]=>some (.bool true)
   |_,_=>none):=bK fun f args v h mem=>by
  split at h
  ·cases h;exact h0 mem
  ·cases h
 have hG:aT prog 167=some f167:=by kernel_rfl
 refine az hO (lv:=fun _=>[]) (K:=3) rfl rfl ?_ M;simp[ad,hG,f167,ag]
end Go.Proofs
namespace Go.Proofs
open Go.Eng
open Tryz
def bC:List (List UInt8):=[[101,48],[101,49],[101,50],[101,51],[101,52],[101,53],[107,48],[107,49],[107,50],[107,51],[107,52],[107,53],[65,49],[65,50],[65,51],[66,49],[66,50],[66,51],[67,49],[67,50],[67,51],[68,49],[68,50],[68,51],[69,49],[69,50],[69,51],[70,49],[70,50],[70,51],[116],[122],[102,105,110,101]]
theorem dj(nm:List UInt8)(h:nm∈bC)(M:Mem):kF prog 109 [.str nm] M (.int .i64 0) M:=by refine az (ah _) (lv:=aa) (K:=6) rfl rfl ?_ M;simp only[bC,List.mem_cons,List.not_mem_nil,or_false] at h;rcases h with h | h | h | h | h | h | h | h | h | h | h | h | h | h | h | h | h | h | h | h | h | h | h | h | h | h | h | h | h | h | h | h | h<;>(subst h;as_aux_lemma=>kernel_rfl)
variable{i:Nat}
theorem dM(h:i<6):bH i∈bC:=by
 have:i=0∨i=1∨i=2∨i=3∨i=4∨i=5:=by omega
 rcases this with rfl | rfl | rfl | rfl | rfl | rfl<;>decide
theorem xo(h:i<6):ig i∈bC:=by
 have:i=0∨i=1∨i=2∨i=3∨i=4∨i=5:=by omega
 rcases this with rfl | rfl | rfl | rfl | rfl | rfl<;>decide
theorem ik{J:Nat}(h:i<6)(hJ:J<3):∀u∈bu i J,u∈bC:=by
 have hi:i=0∨i=1∨i=2∨i=3∨i=4∨i=5:=by omega
 have hj:J=0∨J=1∨J=2:=by omega
 rcases hi with rfl | rfl | rfl | rfl | rfl | rfl<;>rcases hj with rfl | rfl | rfl<;>decide
def mY:List AV:=[185,186,187,188,189,190,191,192,69,193,194,195,196,197,198,199,200,201,202,203,204,205,206,207,208].map fun i=>.func i []
theorem FX(M:Mem):kF prog 127 [] M (.agg mY) M:=by refine az (ah _) (lv:=aa) (K:=6) rfl rfl ?_ M;as_aux_lemma=>kernel_rfl
theorem oo{T:TypeId→Option TyI}{O:adM}{N m0:Nat}{ops:Array Oper}:∀(a b:List Oper) (s:XS),eg T O N m0 ops (a++b) s=(eg T O N m0 ops a s).bind (eg T O N m0 ops b)
 | [],b,s=>rfl
 |o::a,b,s=>by
  rw[List.cons_append,eg,eg];split
  ·split
   ·split
    ·exact oo a b _
    ·rfl
   ·exact oo a b _
   ·rfl
  ·rfl
variable{O:adM}{m0:Nat}{ops:Array Oper}
theorem fx{T:TypeId→Option TyI}{N:Nat}{a b:List Oper}{s s1:XS}{r:Option XS}(h:eg T O N m0 ops a s=some s1)(h2:eg T O N m0 ops b s1=r):eg T O N m0 ops (a++b) s=r:=by rw[oo,h];exact h2
noncomputable def aL:Array Oper:=match f110.body with
 |some (.seq _ (.seq (.region _ ops _) _))=>ops
 |_=> #[]
noncomputable def pq:List Oper:=(aL.toList.drop 0).take 6
noncomputable def pr:List Oper:=(aL.toList.drop 6).take 7
noncomputable def pw:List Oper:=(aL.toList.drop 13).take 9
noncomputable def pz:List Oper:=(aL.toList.drop 22).take 9
noncomputable def pB:List Oper:=(aL.toList.drop 31).take 9
noncomputable def pD:List Oper:=(aL.toList.drop 40).take 7
noncomputable def pE:List Oper:=(aL.toList.drop 47).take 9
noncomputable def pF:List Oper:=(aL.toList.drop 56).take 9
noncomputable def pG:List Oper:=(aL.toList.drop 65).take 9
noncomputable def pH:List Oper:=(aL.toList.drop 74).take 7
noncomputable def nG:List Oper:=(aL.toList.drop 81).take 7
theorem Gz:aL.toList=pq++(pr++(pw++(pz++(pB++(pD++(pE++(pF++(pG++(pH++(nG)))))))))):=by kernel_rfl
structure Evc where
 k:Int
 nm:List UInt8
 B:List (List UInt8):=[]
 U:List (List UInt8):=[]
 S:List (List (List UInt8)):=[]
 K:List (List UInt8×List UInt8):=[]
 (t1 t2 t3 t4:Int:=0)
 (x5 x6 x7 x8 x9 x10 x11 x12 x13 x14 x16 x17 x18 x19 x20 x21 x22 x23 x24 x29 x30 x31:List UInt8:=[])
def Evc.cells(c:Evc) (b u s kn:AV):List AV:=[.int .i64 c.k,.str c.nm,b,u,s,.str c.x5,.str c.x6,.str c.x7,.str c.x8,.str c.x9,.str c.x10,.str c.x11,.str c.x12,.str c.x13,.str c.x14,kn,.str c.x16,.str c.x17,.str c.x18,.str c.x19,.str c.x20,.str c.x21,.str c.x22,.str c.x23,.str c.x24,.int .i64 c.t1,.int .i64 c.t2,.int .i64 c.t3,.int .i64 c.t4,.str c.x29,.str c.x30,.str c.x31]
noncomputable def zZ:Array Oper:=match f110.body with
 |some (.seq (.region _ ops _) _)=>ops
 |_=> #[]
variable{b b' kn kn' s s' u u' :AV}{c:Evc}{d:Bool}{env:Env}{mem:Mem}{p q:Nat}
section
variable (h2:ab env 2=.ptr p 0)(h3:ab env 3=.ptr q 0)(hp:mem[p]? =some (.cells true 0 (c.cells b u s kn)))(hq:mem[q]? =some (.cells true 0 (c.cells b' u' s' kn')))
include h2 h3 hp hq
theorem Ly:
  ∃AC,eg (aM prog) O 92 m0 ops pq ⟨env,mem,d⟩=some ⟨AC,mem,d⟩∧ab AC 2=.ptr p 0∧ab AC 3=.ptr q 0∧ab AC 10=.bool true:=by
 have e0:=fun d=>Gy d
 simp only[Evc.cells] at hp hq;simp[pq,aL,f110,h2,h3,hp,hq]
theorem Lz(hg:(ops[5]?).bind (fun x=>x.dst)=some 10)(h1:ab env 10=.bool true):
  ∃AC,eg (aM prog) O 92 m0 ops pr ⟨env,mem,d⟩=some ⟨AC,mem,d⟩∧ab AC 2=.ptr p 0∧ab AC 3=.ptr q 0∧ab AC 17=.bool true:=by
 have e1:=fun d=>z6 d
 simp only[Evc.cells] at hp hq;simp[pr,aL,f110,h2,h3,hp,hq,hg,h1]
theorem LA(hg:(ops[12]?).bind (fun x=>x.dst)=some 17)(h1:ab env 17=.bool true)(hO:O (.fn 166) [b,b'] mem=some ⟨.bool true,none,[]⟩):
  ∃AC,eg (aM prog) O 92 m0 ops pw ⟨env,mem,d⟩=some ⟨AC,mem,d⟩∧ab AC 2=.ptr p 0∧ab AC 3=.ptr q 0∧ab AC 26=.bool true:=by
 simp only[Evc.cells] at hp hq;simp[pw,aL,f110,h2,h3,hp,hq,hg,h1,hO]
theorem LB(hg:(ops[21]?).bind (fun x=>x.dst)=some 26)(h1:ab env 26=.bool true)(hO:O (.fn 26) [u,u'] mem=some ⟨.bool true,none,[]⟩):
  ∃AC,eg (aM prog) O 92 m0 ops pz ⟨env,mem,d⟩=some ⟨AC,mem,d⟩∧ab AC 2=.ptr p 0∧ab AC 3=.ptr q 0∧ab AC 35=.bool true:=by
 simp only[Evc.cells] at hp hq;simp[pz,aL,f110,h2,h3,hp,hq,hg,h1,hO]
theorem LC(hg:(ops[30]?).bind (fun x=>x.dst)=some 35)(h1:ab env 35=.bool true)(hO:O (.fn 167) [s,s'] mem=some ⟨.bool true,none,[]⟩):
  ∃AC,eg (aM prog) O 92 m0 ops pB ⟨env,mem,d⟩=some ⟨AC,mem,d⟩∧ab AC 2=.ptr p 0∧ab AC 3=.ptr q 0∧ab AC 44=.bool true:=by
 simp only[Evc.cells] at hp hq;simp[pB,aL,f110,h2,h3,hp,hq,hg,h1,hO]
theorem LD(hg:(ops[39]?).bind (fun x=>x.dst)=some 44)(h1:ab env 44=.bool true):
  ∃AC,eg (aM prog) O 92 m0 ops pD ⟨env,mem,d⟩=some ⟨AC,mem,d⟩∧ab AC 2=.ptr p 0∧ab AC 3=.ptr q 0∧ab AC 51=.bool true:=by
 have e2:=fun d=>Gx d
 simp only[Evc.cells] at hp hq;simp[pD,aL,f110,h2,h3,hp,hq,hg,h1,e2]
theorem LF(hg:(ops[46]?).bind (fun x=>x.dst)=some 51)(h1:ab env 51=.bool true):
  ∃AC,eg (aM prog) O 92 m0 ops pE ⟨env,mem,d⟩=some ⟨AC,mem,d⟩∧ab AC 2=.ptr p 0∧ab AC 3=.ptr q 0∧ab AC 60=.bool true:=by
 have e3:=fun d=>kh d
 simp only[Evc.cells] at hp hq;simp[pE,aL,f110,h2,h3,hp,hq,hg,h1,e3]
theorem LG(hg:(ops[55]?).bind (fun x=>x.dst)=some 60)(h1:ab env 60=.bool true)(hO:O (.fn 168) [kn,kn'] mem=some ⟨.bool true,none,[]⟩):
  ∃AC,eg (aM prog) O 92 m0 ops pF ⟨env,mem,d⟩=some ⟨AC,mem,d⟩∧ab AC 2=.ptr p 0∧ab AC 3=.ptr q 0∧ab AC 69=.bool true:=by
 simp only[Evc.cells] at hp hq;simp[pF,aL,f110,h2,h3,hp,hq,hg,h1,hO]
theorem LH(hg:(ops[64]?).bind (fun x=>x.dst)=some 69)(h1:ab env 69=.bool true):
  ∃AC,eg (aM prog) O 92 m0 ops pG ⟨env,mem,d⟩=some ⟨AC,mem,d⟩∧ab AC 2=.ptr p 0∧ab AC 3=.ptr q 0∧ab AC 78=.bool true:=by
 have e3:=fun d=>kh d
 simp only[Evc.cells] at hp hq;simp[pG,aL,f110,h2,h3,hp,hq,hg,h1,e3]
theorem LI(hg:(ops[73]?).bind (fun x=>x.dst)=some 78)(h1:ab env 78=.bool true):
  ∃AC,eg (aM prog) O 92 m0 ops pH ⟨env,mem,d⟩=some ⟨AC,mem,d⟩∧ab AC 2=.ptr p 0∧ab AC 3=.ptr q 0∧ab AC 85=.bool true:=by
 have e4:=fun d=>Lu d
 simp only[Evc.cells] at hp hq;simp[pH,aL,f110,h2,h3,hp,hq,hg,h1,e4]
theorem GA(hg:(ops[80]?).bind (fun x=>x.dst)=some 85)(h1:ab env 85=.bool true):
  ∃AC,eg (aM prog) O 92 m0 ops nG ⟨env,mem,d⟩=some ⟨AC,mem,d⟩∧ab AC 2=.ptr p 0∧ab AC 3=.ptr q 0∧ab AC 4=.bool true:=by
 have e5:=fun d=>Lw d
 simp only[Evc.cells] at hp hq;simp[nG,aL,f110,h2,h3,hp,hq,hg,h1,e5]
theorem OG(Yn:O (.fn 166) [b,b'] mem=some ⟨.bool true,none,[]⟩)(hO3:O (.fn 26) [u,u'] mem=some ⟨.bool true,none,[]⟩)(hO4:O (.fn 167) [s,s'] mem=some ⟨.bool true,none,[]⟩)(hO7:O (.fn 168) [kn,kn'] mem=some ⟨.bool true,none,[]⟩):
  ∃AC,eg (aM prog) O 92 m0 aL aL.toList ⟨env,mem,d⟩=some ⟨AC,mem,d⟩∧ab AC 4=.bool true:=by
 have g1:(aL[5]?).bind (fun x=>x.dst)=some 10:=by kernel_rfl
 have g2:(aL[12]?).bind (fun x=>x.dst)=some 17:=by kernel_rfl
 have g3:(aL[21]?).bind (fun x=>x.dst)=some 26:=by kernel_rfl
 have g4:(aL[30]?).bind (fun x=>x.dst)=some 35:=by kernel_rfl
 have g5:(aL[39]?).bind (fun x=>x.dst)=some 44:=by kernel_rfl
 have g6:(aL[46]?).bind (fun x=>x.dst)=some 51:=by kernel_rfl
 have g7:(aL[55]?).bind (fun x=>x.dst)=some 60:=by kernel_rfl
 have g8:(aL[64]?).bind (fun x=>x.dst)=some 69:=by kernel_rfl
 have g9:(aL[73]?).bind (fun x=>x.dst)=some 78:=by kernel_rfl
 have g10:(aL[80]?).bind (fun x=>x.dst)=some 85:=by kernel_rfl
 obtain⟨e0,r0,ady,adz,b0⟩:=Ly (O:=O) (m0:=m0) (ops:=aL) (d:=d) h2 h3 hp hq;obtain⟨e1,r1,adA,adB,b1⟩:=Lz (O:=O) (m0:=m0) (ops:=aL) (d:=d) ady adz hp hq g1 b0;obtain⟨e2,r2,adC,adD,b2⟩:=LA (O:=O) (m0:=m0) (ops:=aL) (d:=d) adA adB hp hq g2 b1 Yn;obtain⟨e3,r3,adE,adF,b3⟩:=LB (O:=O) (m0:=m0) (ops:=aL) (d:=d) adC adD hp hq g3 b2 hO3;obtain⟨e4,r4,adG,adH,b4⟩:=LC (O:=O) (m0:=m0) (ops:=aL) (d:=d) adE adF hp hq g4 b3 hO4;obtain⟨e5,r5,adI,adJ,b5⟩:=LD (O:=O) (m0:=m0) (ops:=aL) (d:=d) adG adH hp hq g5 b4;obtain⟨e6,r6,adK,adL,b6⟩:=LF (O:=O) (m0:=m0) (ops:=aL) (d:=d) adI adJ hp hq g6 b5;obtain⟨e7,r7,adN,adO,b7⟩:=LG (O:=O) (m0:=m0) (ops:=aL) (d:=d) adK adL hp hq g7 b6 hO7;obtain⟨e8,r8,adP,adQ,b8⟩:=LH (O:=O) (m0:=m0) (ops:=aL) (d:=d) adN adO hp hq g8 b7;obtain⟨e9,r9,adR,adS,b9⟩:=LI (O:=O) (m0:=m0) (ops:=aL) (d:=d) adP adQ hp hq g9 b8;obtain⟨e10,r10,aej,aek,b10⟩:=GA (O:=O) (m0:=m0) (ops:=aL) (d:=d) adR adS hp hq g10 b9;exact⟨e10,by rw[Gz];exact fx r0 (fx r1 (fx r2 (fx r3 (fx r4 (fx r5 (fx r6 (fx r7 (fx r8 (fx r9 (r10)))))))))),b10⟩
end
variable{m:Mem}
theorem Ob(hOk:kP prog O)(Yn:O (.fn 166) [b,b'] (m++[.cells true 0 (c.cells b u s kn),.cells true 0 (c.cells b' u' s' kn')])=some ⟨.bool true,none,[]⟩)(hO3:O (.fn 26) [u,u'] (m++[.cells true 0 (c.cells b u s kn),.cells true 0 (c.cells b' u' s' kn')])=some ⟨.bool true,none,[]⟩)(hO4:O (.fn 167) [s,s'] (m++[.cells true 0 (c.cells b u s kn),.cells true 0 (c.cells b' u' s' kn')])=some ⟨.bool true,none,[]⟩)(hO7:O (.fn 168) [kn,kn'] (m++[.cells true 0 (c.cells b u s kn),.cells true 0 (c.cells b' u' s' kn')])=some ⟨.bool true,none,[]⟩):
  kF prog 110 [.agg (c.cells b u s kn),.agg (c.cells b' u' s' kn')] m (.bool true) m:=by
 have hG:aT prog 110=some f110:=by kernel_rfl
 obtain⟨ops,FS⟩:∃o,o=aL:=⟨_,rfl⟩
 obtain⟨F,hF⟩:=tV (p:=fun e (_:Bool)=>ab e 2=.ptr m.length 0∧ab e 3=.ptr (m.length+1) 0) (q:=fun env (_:Bool) AC =>eg (aM prog) O 92 m.length ops ops.toList ⟨env,(m++[.cells true 0 (c.cells b u s kn),.cells true 0 (c.cells b' u' s' kn')]),false⟩=some ⟨AC,(m++[.cells true 0 (c.cells b u s kn),.cells true 0 (c.cells b' u' s' kn')]),false⟩∧ab AC 4=.bool true) (fun env _ h=>by
  subst FS;have hp:((m++[.cells true 0 (c.cells b u s kn),.cells true 0 (c.cells b' u' s' kn')]))[m.length]? =some (.cells true 0 (c.cells b u s kn)):=by simp
  have hq:((m++[.cells true 0 (c.cells b u s kn),.cells true 0 (c.cells b' u' s' kn')]))[m.length+1]? =some (.cells true 0 (c.cells b' u' s' kn')):=by simp
  exact OG h.1 h.2 hp hq Yn hO3 hO4 hO7)
 have I':=fun env h2 h3=>(hF env false ⟨h2,h3⟩).1
 have T':=fun env h2 h3=>(hF env false ⟨h2,h3⟩).2
 refine bB (K:=1) (lv:=fun _=>[]) hOk ?_;have hb:f110.body=some (.seq (.region 0 zZ false) (.seq (.region 1 ops false) .ret)):=by rw[FS];kernel_rfl
 unfold ad;rw[hG];dsimp only;rw[hb];dsimp only;simp only[Evc.cells] at I' T' ⊢;simp[I',T',zZ,f110]
theorem iX(hOk:kP prog O){k t1 t2 t3 t4:Int}{nm x5 x6 x7 x8 x9 x10 x11 x12 x13 x14 x16 x17 x18 x19 x20 x21 x22 x23 x24 x29 x30 x31:List UInt8}(Yn:O (.fn 166) [b,b] (m++[.cells true 0 [.int .i64 k,.str nm,b,u,s,.str x5,.str x6,.str x7,.str x8,.str x9,.str x10,.str x11,.str x12,.str x13,.str x14,kn,.str x16,.str x17,.str x18,.str x19,.str x20,.str x21,.str x22,.str x23,.str x24,.int .i64 t1,.int .i64 t2,.int .i64 t3,.int .i64 t4,.str x29,.str x30,.str x31],.cells true 0 [.int .i64 k,.str nm,b,u,s,.str x5,.str x6,.str x7,.str x8,.str x9,.str x10,.str x11,.str x12,.str x13,.str x14,kn,.str x16,.str x17,.str x18,.str x19,.str x20,.str x21,.str x22,.str x23,.str x24,.int .i64 t1,.int .i64 t2,.int .i64 t3,.int .i64 t4,.str x29,.str x30,.str x31]])=some ⟨.bool true,none,[]⟩)(hO3:O (.fn 26) [u,u] (m++[.cells true 0 [.int .i64 k,.str nm,b,u,s,.str x5,.str x6,.str x7,.str x8,.str x9,.str x10,.str x11,.str x12,.str x13,.str x14,kn,.str x16,.str x17,.str x18,.str x19,.str x20,.str x21,.str x22,.str x23,.str x24,.int .i64 t1,.int .i64 t2,.int .i64 t3,.int .i64 t4,.str x29,.str x30,.str x31],.cells true 0 [.int .i64 k,.str nm,b,u,s,.str x5,.str x6,.str x7,.str x8,.str x9,.str x10,.str x11,.str x12,.str x13,.str x14,kn,.str x16,.str x17,.str x18,.str x19,.str x20,.str x21,.str x22,.str x23,.str x24,.int .i64 t1,.int .i64 t2,.int .i64 t3,.int .i64 t4,.str x29,.str x30,.str x31]])=some ⟨.bool true,none,[]⟩)(hO4:O (.fn 167) [s,s] (m++[.cells true 0 [.int .i64 k,.str nm,b,u,s,.str x5,.str x6,.str x7,.str x8,.str x9,.str x10,.str x11,.str x12,.str x13,.str x14,kn,.str x16,.str x17,.str x18,.str x19,.str x20,.str x21,.str x22,.str x23,.str x24,.int .i64 t1,.int .i64 t2,.int .i64 t3,.int .i64 t4,.str x29,.str x30,.str x31],.cells true 0 [.int .i64 k,.str nm,b,u,s,.str x5,.str x6,.str x7,.str x8,.str x9,.str x10,.str x11,.str x12,.str x13,.str x14,kn,.str x16,.str x17,.str x18,.str x19,.str x20,.str x21,.str x22,.str x23,.str x24,.int .i64 t1,.int .i64 t2,.int .i64 t3,.int .i64 t4,.str x29,.str x30,.str x31]])=some ⟨.bool true,none,[]⟩)(hO7:O (.fn 168) [kn,kn] (m++[.cells true 0 [.int .i64 k,.str nm,b,u,s,.str x5,.str x6,.str x7,.str x8,.str x9,.str x10,.str x11,.str x12,.str x13,.str x14,kn,.str x16,.str x17,.str x18,.str x19,.str x20,.str x21,.str x22,.str x23,.str x24,.int .i64 t1,.int .i64 t2,.int .i64 t3,.int .i64 t4,.str x29,.str x30,.str x31],.cells true 0 [.int .i64 k,.str nm,b,u,s,.str x5,.str x6,.str x7,.str x8,.str x9,.str x10,.str x11,.str x12,.str x13,.str x14,kn,.str x16,.str x17,.str x18,.str x19,.str x20,.str x21,.str x22,.str x23,.str x24,.int .i64 t1,.int .i64 t2,.int .i64 t3,.int .i64 t4,.str x29,.str x30,.str x31]])=some ⟨.bool true,none,[]⟩):
  kF prog 110 [.agg [.int .i64 k,.str nm,b,u,s,.str x5,.str x6,.str x7,.str x8,.str x9,.str x10,.str x11,.str x12,.str x13,.str x14,kn,.str x16,.str x17,.str x18,.str x19,.str x20,.str x21,.str x22,.str x23,.str x24,.int .i64 t1,.int .i64 t2,.int .i64 t3,.int .i64 t4,.str x29,.str x30,.str x31],.agg [.int .i64 k,.str nm,b,u,s,.str x5,.str x6,.str x7,.str x8,.str x9,.str x10,.str x11,.str x12,.str x13,.str x14,kn,.str x16,.str x17,.str x18,.str x19,.str x20,.str x21,.str x22,.str x23,.str x24,.int .i64 t1,.int .i64 t2,.int .i64 t3,.int .i64 t4,.str x29,.str x30,.str x31]] m (.bool true) m:=
 Ob hOk (c:={ k:=k,nm:=nm,t1:=t1,t2:=t2,t3:=t3,t4:=t4,x5:=x5,x6:=x6,x7:=x7,x8:=x8,x9:=x9,x10:=x10,x11:=x11,x12:=x12,x13:=x13,x14:=x14,x16:=x16,x17:=x17,x18:=x18,x19:=x19,x20:=x20,x21:=x21,x22:=x22,x23:=x23,x24:=x24,x29:=x29,x30:=x30,x31:=x31 }) Yn hO3 hO4 hO7
end Go.Proofs
