/- See F54. -/
import Derived.Test.YtgafjliihahjgaaGreatDoorF17
import Derived.Test.YtgafjliihahjgaaGreatDoorF20
set_option linter.all false
set_option maxRecDepth 100000
set_option maxHeartbeats 40000000
namespace Go.Proofs
open Go.Eng
open Tryz
section
variable (d:Nat)
theorem Bh(x y:List UInt8):lz (aN prog) (d+1) 9 (.str x) (.str y)=some (x==y):=by rw[lz];simp
theorem Iu(x y:Int):lz (aN prog) (d+1) 3 (.int .i64 x) (.int .i64 y)=some (decide (x=y)):=by rw[lz];simp
theorem kB(a b c:List UInt8):lz (aN prog) (d+2) 31 (.agg [.str a,.str b,.str c]) (.agg [.str a,.str b,.str c])=some true:=by have i:=kA d;rw[lz];simp[Sp,jt,TyI.isAgg,i]
theorem ya(a b c o:List UInt8):lz (aN prog) (d+3) 71 (.agg [.str a,.str b,.str c,.str o]) (.agg [.str a,.str b,.str c,.str o])=some true:=by have i:=kA (d+1);have j:=kB d;rw[lz];simp[Sp,jt,TyI.isAgg,i,j]
theorem It(a b c o e f g:List UInt8):lz (aN prog) (d+4) 73 (.agg [.str a,.str b,.str c,.str o,.str e,.str f,.str g]) (.agg [.str a,.str b,.str c,.str o,.str e,.str f,.str g])=some true:=by have j:=kB (d+1);have k:=ya d;rw[lz];simp[Sp,jt,TyI.isAgg,j,k]
theorem NB(a b c o w u:List UInt8):lz (aN prog) (d+4) 78 (.agg [.str a,.str b,.str c,.str o,.str w,.str u]) (.agg [.str a,.str b,.str c,.str o,.str w,.str u])=some true:=by have i:=kA (d+2);have Z:=Bh (d+2);have k:=ya d;rw[lz];simp[Sp,jt,TyI.isAgg,i,Z,k]
theorem NF(t u v w:Int):lz (aN prog) (d+2) 79 (.agg [.int .i64 t,.int .i64 u,.int .i64 v,.int .i64 w]) (.agg [.int .i64 t,.int .i64 u,.int .i64 v,.int .i64 w])=some true:=by have r:List.range' 0 4=[0,1,2,3]:=rfl;have i:=Iu d;rw[lz];simp only[Pt,Ot,r,X8];simp[jt,TyI.isAgg,i]
theorem ND(t u v w:Int)(a b c:List UInt8):lz (aN prog) (d+3) 81 (.agg [.int .i64 t,.int .i64 u,.int .i64 v,.int .i64 w,.str a,.str b,.str c]) (.agg [.int .i64 t,.int .i64 u,.int .i64 v,.int .i64 w,.str a,.str b,.str c])=some true:=by have j:=kB (d+0);have k:=NF d;rw[lz];simp[Sp,jt,TyI.isAgg,j,k]
end
theorem HK(M:Mem):kO prog 166 [.y9,.y9] M (.bool true) M:=by
 have W:∀M,kO prog 242 [.y9,.y9] M (.bool true) M:=fun M=>by
  have X:aK prog 242=some f242:=by kernel_rfl
  refine cV (al _) (lv:=fun _=>[13]) (K:=3) rfl rfl ?_ M;simp[aa,X,f242,aQ,er]
 have V:HS prog (af fun f Z=>match f,Z with
   |242,[.y9,.y9]=>some (.bool true)
   |_,_=>none):=bH fun f Z v h mem=>by
  split at h
  ·cases h;exact W mem
  ·cases h
 have X:aK prog 166=some f166:=by kernel_rfl
 refine cV V (lv:=fun _=>[13]) (K:=3) rfl rfl ?_ M;simp[aa,X,f166,af]
theorem Ii(M:Mem):kO prog 26 [.y9,.y9] M (.bool true) M:=by
 have Z:aK prog 26=some f26:=by kernel_rfl
 refine cV (al _) (lv:=fun _=>[13]) (K:=3) rfl rfl ?_ M;simp[aa,Z,f26,aQ,er]
theorem HX(M:Mem):kO prog 168 [.y9,.y9] M (.bool true) M:=by
 have Z:aK prog 168=some f168:=by kernel_rfl
 refine cV (al _) (lv:=fun _=>[13]) (K:=3) rfl rfl ?_ M;simp[aa,Z,f168,aQ,er]
theorem Nq(M:Mem):kO prog 167 [.y9,.y9] M (.bool true) M:=by
 have W:∀M,kO prog 243 [.y9,.y9,.func 166 []] M (.bool true) M:=fun M=>by
  have X:aK prog 243=some f243:=by kernel_rfl
  refine cV (al _) (lv:=fun _=>[17]) (K:=3) rfl rfl ?_ M;simp[aa,X,f243,aQ,er]
 have V:HS prog (af fun f Z=>match f,Z with
   |243,[.y9,.y9,.func 166 []]=>some (.bool true)
   |_,_=>none):=bH fun f Z v h mem=>by
  split at h
  ·cases h;exact W mem
  ·cases h
 have X:aK prog 167=some f167:=by kernel_rfl
 refine cV V (lv:=fun _=>[]) (K:=3) rfl rfl ?_ M;simp[aa,X,f167,af]
def bG:List (List UInt8):=[[101,48],[101,49],[101,50],[101,51],[101,52],[101,53],[107,48],[107,49],[107,50],[107,51],[107,52],[107,53],[65,49],[65,50],[65,51],[66,49],[66,50],[66,51],[67,49],[67,50],[67,51],[68,49],[68,50],[68,51],[69,49],[69,50],[69,51],[70,49],[70,50],[70,51],[116],[122],[102,105,110,101]]
theorem dD(nm:List UInt8)(h:nm∈bG)(M:Mem):kO prog 109 [.str nm] M (.int .i64 0) M:=by refine cV (al _) (lv:=ab) (K:=6) rfl rfl ?_ M;simp only[bG,lM] at h;rcases h with h | h | h | h | h | h | h | h | h | h | h | h | h | h | h | h | h | h | h | h | h | h | h | h | h | h | h | h | h | h | h | h | h<;>(subst h;as_aux_lemma=>kernel_rfl)
variable{i:Nat}
theorem dY(h:i<6):bO i∈bG:=by
 have:i=0∨i=1∨i=2∨i=3∨i=4∨i=5:=by omega
 rcases this with rfl | rfl | rfl | rfl | rfl | rfl<;>decide
theorem yw(h:i<6):iw i∈bG:=by
 have:i=0∨i=1∨i=2∨i=3∨i=4∨i=5:=by omega
 rcases this with rfl | rfl | rfl | rfl | rfl | rfl<;>decide
theorem iz{J:Nat}(h:i<6)(A:J<3):∀u∈bE i J,u∈bG:=by
 have Z:i=0∨i=1∨i=2∨i=3∨i=4∨i=5:=by omega
 have X:J=0∨J=1∨J=2:=by omega
 rcases Z with rfl | rfl | rfl | rfl | rfl | rfl<;>rcases X with rfl | rfl | rfl<;>decide
def nq:List AV:=[185,186,187,188,189,190,191,192,69,193,194,195,196,197,198,199,200,201,202,203,204,205,206,207,208].map fun i=>.func i []
theorem HF(M:Mem):kO prog 127 [] M (.agg nq) M:=by refine cV (al _) (lv:=ab) (K:=6) rfl rfl ?_ M;as_aux_lemma=>kernel_rfl
theorem oV{T:TypeId→Option TyI}{O:aeT}{N m0:Nat}{ops:Array Oper}:∀(a b:List Oper) (s:XS),fa T O N m0 ops (a++b) s=(fa T O N m0 ops a s).bind (fa T O N m0 ops b)
 | [],b,s=>rfl
 |o::a,b,s=>by
  rw[List.cons_append,fa,fa];split
  ·split
   ·split
    ·exact oV a b _
    ·rfl
   ·exact oV a b _
   ·rfl
  ·rfl
variable{O:aeT}{m0:Nat}{ops:Array Oper}
theorem fJ{T:TypeId→Option TyI}{N:Nat}{a b:List Oper}{s s1:XS}{r:Option XS}(h:fa T O N m0 ops a s=some s1)(A:fa T O N m0 ops b s1=r):fa T O N m0 ops (a++b) s=r:=by rw[oV,h];exact A
noncomputable def aL:Array Oper:=match f110.body with
 |some (.seq _ (.seq (.region _ ops _) _))=>ops
 |_=> #[]
noncomputable def pW:List Oper:=(aL.toList.drop 0).take 6
noncomputable def pX:List Oper:=(aL.toList.drop 6).take 7
noncomputable def pY:List Oper:=(aL.toList.drop 13).take 9
noncomputable def pZ:List Oper:=(aL.toList.drop 22).take 9
noncomputable def p9:List Oper:=(aL.toList.drop 31).take 9
noncomputable def qc:List Oper:=(aL.toList.drop 40).take 7
noncomputable def qd:List Oper:=(aL.toList.drop 47).take 9
noncomputable def qe:List Oper:=(aL.toList.drop 56).take 9
noncomputable def qf:List Oper:=(aL.toList.drop 65).take 9
noncomputable def qg:List Oper:=(aL.toList.drop 74).take 7
noncomputable def n8:List Oper:=(aL.toList.drop 81).take 7
theorem Iv:aL.toList=pW++(pX++(pY++(pZ++(p9++(qc++(qd++(qe++(qf++(qg++(n8)))))))))):=by kernel_rfl
structure Evc where
 k:Int
 nm:List UInt8
 B:List (List UInt8):=[]
 U:List (List UInt8):=[]
 S:List (List (List UInt8)):=[]
 K:List (List UInt8×List UInt8):=[]
 (t1 t2 t3 t4:Int:=0)
 (x5 x6 x7 x8 x9 x10 x11 x12 x13 x14 x16 x17 x18 x19 x20 x21 x22 x23 x24 x29 x30 x31:List UInt8:=[])
def Evc.cells(c:Evc)(b u s A:AV):List AV:=[.int .i64 c.k,.str c.nm,b,u,s,.str c.x5,.str c.x6,.str c.x7,.str c.x8,.str c.x9,.str c.x10,.str c.x11,.str c.x12,.str c.x13,.str c.x14,A,.str c.x16,.str c.x17,.str c.x18,.str c.x19,.str c.x20,.str c.x21,.str c.x22,.str c.x23,.str c.x24,.int .i64 c.t1,.int .i64 c.t2,.int .i64 c.t3,.int .i64 c.t4,.str c.x29,.str c.x30,.str c.x31]
noncomputable def Bg:Array Oper:=match f110.body with
 |some (.seq (.region _ ops _) _)=>ops
 |_=> #[]
variable{b b' kn kn' s s' u u' :AV}{c:Evc}{d:Bool}{env:Env}{mem:Mem}{p q:Nat}
section
variable (h2:ad env 2=.ptr p 0)(h3:ad env 3=.ptr q 0)(hp:mem[p]? =some (.cells true 0 (c.cells b u s kn)))(hq:mem[q]? =some (.cells true 0 (c.cells b' u' s' kn')))
include h2 h3 hp hq
theorem NG:
  ∃Z,fa (aN prog) O 92 m0 ops pW ⟨env,mem,d⟩=some ⟨Z,mem,d⟩∧ad Z 2=.ptr p 0∧ad Z 3=.ptr q 0∧ad Z 10=.bool true:=by
 have X:=fun d=>Iu d
 simp only[Evc.cells] at hp hq;simp[pW,aL,f110,h2,h3,hp,hq]
theorem NH(A:(ops[5]?).bind (fun x=>x.dst)=some 10)(G:ad env 10=.bool true):
  ∃Z,fa (aN prog) O 92 m0 ops pX ⟨env,mem,d⟩=some ⟨Z,mem,d⟩∧ad Z 2=.ptr p 0∧ad Z 3=.ptr q 0∧ad Z 17=.bool true:=by
 have X:=fun d=>Bh d
 simp only[Evc.cells] at hp hq;simp[pX,aL,f110,h2,h3,hp,hq,A,G]
theorem NI(A:(ops[12]?).bind (fun x=>x.dst)=some 17)(G:ad env 17=.bool true)(H:O (.fn 166) [b,b'] mem=some ⟨.bool true,none,[]⟩):
  ∃Z,fa (aN prog) O 92 m0 ops pY ⟨env,mem,d⟩=some ⟨Z,mem,d⟩∧ad Z 2=.ptr p 0∧ad Z 3=.ptr q 0∧ad Z 26=.bool true:=by
 simp only[Evc.cells] at hp hq;simp[pY,aL,f110,h2,h3,hp,hq,A,G,H]
theorem NJ(A:(ops[21]?).bind (fun x=>x.dst)=some 26)(G:ad env 26=.bool true)(H:O (.fn 26) [u,u'] mem=some ⟨.bool true,none,[]⟩):
  ∃Z,fa (aN prog) O 92 m0 ops pZ ⟨env,mem,d⟩=some ⟨Z,mem,d⟩∧ad Z 2=.ptr p 0∧ad Z 3=.ptr q 0∧ad Z 35=.bool true:=by
 simp only[Evc.cells] at hp hq;simp[pZ,aL,f110,h2,h3,hp,hq,A,G,H]
theorem NK(A:(ops[30]?).bind (fun x=>x.dst)=some 35)(G:ad env 35=.bool true)(H:O (.fn 167) [s,s'] mem=some ⟨.bool true,none,[]⟩):
  ∃Z,fa (aN prog) O 92 m0 ops p9 ⟨env,mem,d⟩=some ⟨Z,mem,d⟩∧ad Z 2=.ptr p 0∧ad Z 3=.ptr q 0∧ad Z 44=.bool true:=by
 simp only[Evc.cells] at hp hq;simp[p9,aL,f110,h2,h3,hp,hq,A,G,H]
theorem NL(A:(ops[39]?).bind (fun x=>x.dst)=some 44)(G:ad env 44=.bool true):
  ∃Z,fa (aN prog) O 92 m0 ops qc ⟨env,mem,d⟩=some ⟨Z,mem,d⟩∧ad Z 2=.ptr p 0∧ad Z 3=.ptr q 0∧ad Z 51=.bool true:=by
 have X:=fun d=>It d
 simp only[Evc.cells] at hp hq;simp[qc,aL,f110,h2,h3,hp,hq,A,G,X]
theorem NM(A:(ops[46]?).bind (fun x=>x.dst)=some 51)(G:ad env 51=.bool true):
  ∃Z,fa (aN prog) O 92 m0 ops qd ⟨env,mem,d⟩=some ⟨Z,mem,d⟩∧ad Z 2=.ptr p 0∧ad Z 3=.ptr q 0∧ad Z 60=.bool true:=by
 have X:=fun d=>kB d
 simp only[Evc.cells] at hp hq;simp[qd,aL,f110,h2,h3,hp,hq,A,G,X]
theorem NN(A:(ops[55]?).bind (fun x=>x.dst)=some 60)(G:ad env 60=.bool true)(H:O (.fn 168) [kn,kn'] mem=some ⟨.bool true,none,[]⟩):
  ∃Z,fa (aN prog) O 92 m0 ops qe ⟨env,mem,d⟩=some ⟨Z,mem,d⟩∧ad Z 2=.ptr p 0∧ad Z 3=.ptr q 0∧ad Z 69=.bool true:=by
 simp only[Evc.cells] at hp hq;simp[qe,aL,f110,h2,h3,hp,hq,A,G,H]
theorem NO(A:(ops[64]?).bind (fun x=>x.dst)=some 69)(G:ad env 69=.bool true):
  ∃Z,fa (aN prog) O 92 m0 ops qf ⟨env,mem,d⟩=some ⟨Z,mem,d⟩∧ad Z 2=.ptr p 0∧ad Z 3=.ptr q 0∧ad Z 78=.bool true:=by
 have X:=fun d=>kB d
 simp only[Evc.cells] at hp hq;simp[qf,aL,f110,h2,h3,hp,hq,A,G,X]
theorem NP(A:(ops[73]?).bind (fun x=>x.dst)=some 78)(G:ad env 78=.bool true):
  ∃Z,fa (aN prog) O 92 m0 ops qg ⟨env,mem,d⟩=some ⟨Z,mem,d⟩∧ad Z 2=.ptr p 0∧ad Z 3=.ptr q 0∧ad Z 85=.bool true:=by
 have X:=fun d=>NB d
 simp only[Evc.cells] at hp hq;simp[qg,aL,f110,h2,h3,hp,hq,A,G,X]
theorem Iw(A:(ops[80]?).bind (fun x=>x.dst)=some 85)(G:ad env 85=.bool true):
  ∃Z,fa (aN prog) O 92 m0 ops n8 ⟨env,mem,d⟩=some ⟨Z,mem,d⟩∧ad Z 2=.ptr p 0∧ad Z 3=.ptr q 0∧ad Z 4=.bool true:=by
 have X:=fun d=>ND d
 simp only[Evc.cells] at hp hq;simp[n8,aL,f110,h2,h3,hp,hq,A,G,X]
theorem QS(A:O (.fn 166) [b,b'] mem=some ⟨.bool true,none,[]⟩)(G:O (.fn 26) [u,u'] mem=some ⟨.bool true,none,[]⟩)(H:O (.fn 167) [s,s'] mem=some ⟨.bool true,none,[]⟩)(I:O (.fn 168) [kn,kn'] mem=some ⟨.bool true,none,[]⟩):
  ∃AC,fa (aN prog) O 92 m0 aL aL.toList ⟨env,mem,d⟩=some ⟨AC,mem,d⟩∧ad AC 4=.bool true:=by
 have g1:(aL[5]?).bind (fun x=>x.dst)=some 10:=by kernel_rfl
 have g2:(aL[12]?).bind (fun x=>x.dst)=some 17:=by kernel_rfl
 have g3:(aL[21]?).bind (fun x=>x.dst)=some 26:=by kernel_rfl
 have g4:(aL[30]?).bind (fun x=>x.dst)=some 35:=by kernel_rfl
 have g5:(aL[39]?).bind (fun x=>x.dst)=some 44:=by kernel_rfl
 have g6:(aL[46]?).bind (fun x=>x.dst)=some 51:=by kernel_rfl
 have g7:(aL[55]?).bind (fun x=>x.dst)=some 60:=by kernel_rfl
 have g8:(aL[64]?).bind (fun x=>x.dst)=some 69:=by kernel_rfl
 have g9:(aL[73]?).bind (fun x=>x.dst)=some 78:=by kernel_rfl
 have Z:(aL[80]?).bind (fun x=>x.dst)=some 85:=by kernel_rfl
 obtain⟨e0,r0,X,W,b0⟩:=NG (O:=O) (m0:=m0) (ops:=aL) (d:=d) h2 h3 hp hq;obtain⟨e1,r1,V,S,b1⟩:=NH (O:=O) (m0:=m0) (ops:=aL) (d:=d) X W hp hq g1 b0;obtain⟨e2,r2,M,K,b2⟩:=NI (O:=O) (m0:=m0) (ops:=aL) (d:=d) V S hp hq g2 b1 A;obtain⟨e3,r3,J,F,b3⟩:=NJ (O:=O) (m0:=m0) (ops:=aL) (d:=d) M K hp hq g3 b2 G;obtain⟨e4,r4,D,C,b4⟩:=NK (O:=O) (m0:=m0) (ops:=aL) (d:=d) J F hp hq g4 b3 H;obtain⟨e5,r5,B,z,b5⟩:=NL (O:=O) (m0:=m0) (ops:=aL) (d:=d) D C hp hq g5 b4;obtain⟨e6,r6,m,j,b6⟩:=NM (O:=O) (m0:=m0) (ops:=aL) (d:=d) B z hp hq g6 b5;obtain⟨e7,r7,Y,R,b7⟩:=NN (O:=O) (m0:=m0) (ops:=aL) (d:=d) m j hp hq g7 b6 I;obtain⟨e8,r8,aem,aen,b8⟩:=NO (O:=O) (m0:=m0) (ops:=aL) (d:=d) Y R hp hq g8 b7;obtain⟨e9,r9,aeo,aep,b9⟩:=NP (O:=O) (m0:=m0) (ops:=aL) (d:=d) aem aen hp hq g9 b8;obtain⟨e10,r10,aeF,aeG,b10⟩:=Iw (O:=O) (m0:=m0) (ops:=aL) (d:=d) aeo aep hp hq Z b9;exact⟨e10,by rw[Iv];exact fJ r0 (fJ r1 (fJ r2 (fJ r3 (fJ r4 (fJ r5 (fJ r6 (fJ r7 (fJ r8 (fJ r9 (r10)))))))))),b10⟩
end
variable{m:Mem}
theorem Qs(A:HS prog O)(G:O (.fn 166) [b,b'] (m++[.cells true 0 (c.cells b u s kn),.cells true 0 (c.cells b' u' s' kn')])=some ⟨.bool true,none,[]⟩)(H:O (.fn 26) [u,u'] (m++[.cells true 0 (c.cells b u s kn),.cells true 0 (c.cells b' u' s' kn')])=some ⟨.bool true,none,[]⟩)(I:O (.fn 167) [s,s'] (m++[.cells true 0 (c.cells b u s kn),.cells true 0 (c.cells b' u' s' kn')])=some ⟨.bool true,none,[]⟩)(R:O (.fn 168) [kn,kn'] (m++[.cells true 0 (c.cells b u s kn),.cells true 0 (c.cells b' u' s' kn')])=some ⟨.bool true,none,[]⟩):
  kO prog 110 [.agg (c.cells b u s kn),.agg (c.cells b' u' s' kn')] m (.bool true) m:=by
 have M:aK prog 110=some f110:=by kernel_rfl
 obtain⟨ops,X⟩:=xE aL;obtain⟨F,W⟩:=uQ (p:=fun e (_:Bool)=>ad e 2=.ptr m.length 0∧ad e 3=.ptr (m.length+1) 0) (q:=fun env (_:Bool) AC =>fa (aN prog) O 92 m.length ops ops.toList ⟨env,(m++[.cells true 0 (c.cells b u s kn),.cells true 0 (c.cells b' u' s' kn')]),false⟩=some ⟨AC,(m++[.cells true 0 (c.cells b u s kn),.cells true 0 (c.cells b' u' s' kn')]),false⟩∧ad AC 4=.bool true) (fun env _ h=>by
  subst X;have K:((m++[.cells true 0 (c.cells b u s kn),.cells true 0 (c.cells b' u' s' kn')]))[m.length]? =some (.cells true 0 (c.cells b u s kn)):=by simp
  have hq:((m++[.cells true 0 (c.cells b u s kn),.cells true 0 (c.cells b' u' s' kn')]))[m.length+1]? =some (.cells true 0 (c.cells b' u' s' kn')):=by simp
  exact QS h.1 h.2 K hq G H I R)
 have V:=fun env Z h3=>(W env false ⟨Z,h3⟩).1
 have S:=fun env Z h3=>(W env false ⟨Z,h3⟩).2
 refine cd A ?_;have J:f110.body=some (.seq (.region 0 Bg false) (.seq (.region 1 ops false) .ret)):=by rw[X];kernel_rfl
 unfold aa;rw[M];dsimp only;rw[J];dsimp only;simp only[Evc.cells] at V S ⊢;simp[V,S,Bg,f110]
theorem jg(A:HS prog O){k t1 t2 t3 t4:Int}{nm x5 x6 x7 x8 x9 x10 x11 x12 x13 x14 x16 x17 x18 x19 x20 x21 x22 x23 x24 x29 x30 x31:List UInt8}(G:O (.fn 166) [b,b] (m++[.cells true 0 [.int .i64 k,.str nm,b,u,s,.str x5,.str x6,.str x7,.str x8,.str x9,.str x10,.str x11,.str x12,.str x13,.str x14,kn,.str x16,.str x17,.str x18,.str x19,.str x20,.str x21,.str x22,.str x23,.str x24,.int .i64 t1,.int .i64 t2,.int .i64 t3,.int .i64 t4,.str x29,.str x30,.str x31],.cells true 0 [.int .i64 k,.str nm,b,u,s,.str x5,.str x6,.str x7,.str x8,.str x9,.str x10,.str x11,.str x12,.str x13,.str x14,kn,.str x16,.str x17,.str x18,.str x19,.str x20,.str x21,.str x22,.str x23,.str x24,.int .i64 t1,.int .i64 t2,.int .i64 t3,.int .i64 t4,.str x29,.str x30,.str x31]])=some ⟨.bool true,none,[]⟩)(H:O (.fn 26) [u,u] (m++[.cells true 0 [.int .i64 k,.str nm,b,u,s,.str x5,.str x6,.str x7,.str x8,.str x9,.str x10,.str x11,.str x12,.str x13,.str x14,kn,.str x16,.str x17,.str x18,.str x19,.str x20,.str x21,.str x22,.str x23,.str x24,.int .i64 t1,.int .i64 t2,.int .i64 t3,.int .i64 t4,.str x29,.str x30,.str x31],.cells true 0 [.int .i64 k,.str nm,b,u,s,.str x5,.str x6,.str x7,.str x8,.str x9,.str x10,.str x11,.str x12,.str x13,.str x14,kn,.str x16,.str x17,.str x18,.str x19,.str x20,.str x21,.str x22,.str x23,.str x24,.int .i64 t1,.int .i64 t2,.int .i64 t3,.int .i64 t4,.str x29,.str x30,.str x31]])=some ⟨.bool true,none,[]⟩)(I:O (.fn 167) [s,s] (m++[.cells true 0 [.int .i64 k,.str nm,b,u,s,.str x5,.str x6,.str x7,.str x8,.str x9,.str x10,.str x11,.str x12,.str x13,.str x14,kn,.str x16,.str x17,.str x18,.str x19,.str x20,.str x21,.str x22,.str x23,.str x24,.int .i64 t1,.int .i64 t2,.int .i64 t3,.int .i64 t4,.str x29,.str x30,.str x31],.cells true 0 [.int .i64 k,.str nm,b,u,s,.str x5,.str x6,.str x7,.str x8,.str x9,.str x10,.str x11,.str x12,.str x13,.str x14,kn,.str x16,.str x17,.str x18,.str x19,.str x20,.str x21,.str x22,.str x23,.str x24,.int .i64 t1,.int .i64 t2,.int .i64 t3,.int .i64 t4,.str x29,.str x30,.str x31]])=some ⟨.bool true,none,[]⟩)(R:O (.fn 168) [kn,kn] (m++[.cells true 0 [.int .i64 k,.str nm,b,u,s,.str x5,.str x6,.str x7,.str x8,.str x9,.str x10,.str x11,.str x12,.str x13,.str x14,kn,.str x16,.str x17,.str x18,.str x19,.str x20,.str x21,.str x22,.str x23,.str x24,.int .i64 t1,.int .i64 t2,.int .i64 t3,.int .i64 t4,.str x29,.str x30,.str x31],.cells true 0 [.int .i64 k,.str nm,b,u,s,.str x5,.str x6,.str x7,.str x8,.str x9,.str x10,.str x11,.str x12,.str x13,.str x14,kn,.str x16,.str x17,.str x18,.str x19,.str x20,.str x21,.str x22,.str x23,.str x24,.int .i64 t1,.int .i64 t2,.int .i64 t3,.int .i64 t4,.str x29,.str x30,.str x31]])=some ⟨.bool true,none,[]⟩):
  kO prog 110 [.agg [.int .i64 k,.str nm,b,u,s,.str x5,.str x6,.str x7,.str x8,.str x9,.str x10,.str x11,.str x12,.str x13,.str x14,kn,.str x16,.str x17,.str x18,.str x19,.str x20,.str x21,.str x22,.str x23,.str x24,.int .i64 t1,.int .i64 t2,.int .i64 t3,.int .i64 t4,.str x29,.str x30,.str x31],.agg [.int .i64 k,.str nm,b,u,s,.str x5,.str x6,.str x7,.str x8,.str x9,.str x10,.str x11,.str x12,.str x13,.str x14,kn,.str x16,.str x17,.str x18,.str x19,.str x20,.str x21,.str x22,.str x23,.str x24,.int .i64 t1,.int .i64 t2,.int .i64 t3,.int .i64 t4,.str x29,.str x30,.str x31]] m (.bool true) m:=
 Qs A (c:={ k:=k,nm:=nm,t1:=t1,t2:=t2,t3:=t3,t4:=t4,x5:=x5,x6:=x6,x7:=x7,x8:=x8,x9:=x9,x10:=x10,x11:=x11,x12:=x12,x13:=x13,x14:=x14,x16:=x16,x17:=x17,x18:=x18,x19:=x19,x20:=x20,x21:=x21,x22:=x22,x23:=x23,x24:=x24,x29:=x29,x30:=x30,x31:=x31 }) G H I R
end Go.Proofs
