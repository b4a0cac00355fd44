/- See Q54. -/
import Derived.Test.YtgafjliihahjgaaGreatDoorQ22
import Derived.Test.YtgafjliihahjgaaGreatDoorQ25
set_option linter.all false
namespace Go.Proofs
open Go.Eng
section
variable (d:Nat)
theorem yd(x y:List UInt8):gT (aM Tryz.prog) (d+1) 9 (.str x) (.str y)=some (x==y):=by rw[gT];simp
theorem Ex(x y:Int):gT (aM Tryz.prog) (d+1) 3 (.int .i64 x) (.int .i64 y)=some (decide (x=y)):=by rw[gT];simp
theorem cP(a b c:List UInt8):gT (aM Tryz.prog) (d+2) 31 (.agg [.str a,.str b,.str c]) (.agg [.str a,.str b,.str c])=some true:=by have i:=ji d;rw[gT];simp[Ny,im,TyI.isAgg,i]
theorem uW(a b c o:List UInt8):gT (aM Tryz.prog) (d+3) 71 (.agg [.str a,.str b,.str c,.str o]) (.agg [.str a,.str b,.str c,.str o])=some true:=by have i:=ji (d+1);have j:=cP d;rw[gT];simp[Ny,im,TyI.isAgg,i,j]
theorem Ew(a b c o e f g:List UInt8):gT (aM Tryz.prog) (d+4) 73 (.agg [.str a,.str b,.str c,.str o,.str e,.str f,.str g]) (.agg [.str a,.str b,.str c,.str o,.str e,.str f,.str g])=some true:=by have j:=cP (d+1);have k:=uW d;rw[gT];simp[Ny,im,TyI.isAgg,j,k]
theorem I7(a b c o w u:List UInt8):gT (aM Tryz.prog) (d+4) 78 (.agg [.str a,.str b,.str c,.str o,.str w,.str u]) (.agg [.str a,.str b,.str c,.str o,.str w,.str u])=some true:=by have i:=ji (d+2);have i2:=yd (d+2);have k:=uW d;rw[gT];simp[Ny,im,TyI.isAgg,i,i2,k]
theorem Ja(t u v w:Int):gT (aM Tryz.prog) (d+2) 79 (.agg [.int .i64 t,.int .i64 u,.int .i64 v,.int .i64 w]) (.agg [.int .i64 t,.int .i64 u,.int .i64 v,.int .i64 w])=some true:=by have r:List.range' 0 4=[0,1,2,3]:=rfl;have i:=Ex d;rw[gT];simp only[KD,JG,r,Sg];simp[im,TyI.isAgg,i]
theorem I9(t u v w:Int) (a b c:List UInt8):gT (aM Tryz.prog) (d+3) 81 (.agg [.int .i64 t,.int .i64 u,.int .i64 v,.int .i64 w,.str a,.str b,.str c]) (.agg [.int .i64 t,.int .i64 u,.int .i64 v,.int .i64 w,.str a,.str b,.str c])=some true:=by have j:=cP (d+0);have k:=Ja d;rw[gT];simp[Ny,im,TyI.isAgg,j,k]
end
theorem DX(M:Mem):ACallsTo Tryz.prog 166 [.nilslice,.nilslice] M (.bool true) M:=by
 have h0:∀M,ACallsTo Tryz.prog 242 [.nilslice,.nilslice] M (.bool true) M:=fun M=>by
  have hG:aL Tryz.prog 242=some Tryz.f242:=by kernel_rfl
  refine aq (ao _) (lv:=fun _=>[13]) (K:=3) rfl rfl ?_ M;simp[aa,hG,Tryz.f242,aB,dV]
 have hO:OracleOk Tryz.prog (af fun f args=>match f,args with
   |242,[.nilslice,.nilslice]=>some (.bool true)
   |_,_=>none):=bq fun f args v h mem=>by
  split at h
  ·cases h;exact h0 mem
  ·cases h
 have hG:aL Tryz.prog 166=some Tryz.f166:=by kernel_rfl
 refine aq hO (lv:=fun _=>[13]) (K:=3) rfl rfl ?_ M;simp[aa,hG,Tryz.f166,af]
theorem Eo(M:Mem):ACallsTo Tryz.prog 26 [.nilslice,.nilslice] M (.bool true) M:=by
 have hG:aL Tryz.prog 26=some Tryz.f26:=by kernel_rfl
 refine aq (ao _) (lv:=fun _=>[13]) (K:=3) rfl rfl ?_ M;simp[aa,hG,Tryz.f26,aB,dV]
theorem D7(M:Mem):ACallsTo Tryz.prog 168 [.nilslice,.nilslice] M (.bool true) M:=by
 have hG:aL Tryz.prog 168=some Tryz.f168:=by kernel_rfl
 refine aq (ao _) (lv:=fun _=>[13]) (K:=3) rfl rfl ?_ M;simp[aa,hG,Tryz.f168,aB,dV]
theorem IX(M:Mem):ACallsTo Tryz.prog 167 [.nilslice,.nilslice] M (.bool true) M:=by
 have h0:∀M,ACallsTo Tryz.prog 243 [.nilslice,.nilslice,.func 166 []] M (.bool true) M:=fun M=>by
  have hG:aL Tryz.prog 243=some Tryz.f243:=by kernel_rfl
  refine aq (ao _) (lv:=fun _=>[17]) (K:=3) rfl rfl ?_ M;simp[aa,hG,Tryz.f243,aB,dV]
 have hO:OracleOk Tryz.prog (af fun f args=>match f,args with
   |243,[.nilslice,.nilslice,.func 166 []]=>some (.bool true)
   |_,_=>none):=bq fun f args v h mem=>by
  split at h
  ·cases h;exact h0 mem
  ·cases h
 have hG:aL Tryz.prog 167=some Tryz.f167:=by kernel_rfl
 refine aq hO (lv:=fun _=>[]) (K:=3) rfl rfl ?_ M;simp[aa,hG,Tryz.f167,af]
end Go.Proofs
namespace Go.Proofs
open Go.Eng
def bl:List (List UInt8):=[[101,48],[101,49],[101,50],[101,51],[101,52],[101,53],[107,48],[107,49],[107,50],[107,51],[107,52],[107,53],[65,49],[65,50],[65,51],[66,49],[66,50],[66,51],[67,49],[67,50],[67,51],[68,49],[68,50],[68,51],[69,49],[69,50],[69,51],[70,49],[70,50],[70,51],[116],[122],[102,105,110,101]]
theorem cL(nm:List UInt8) (h:nm∈bl) (M:Mem):ACallsTo Tryz.prog 109 [.str nm] M (.int .i64 0) M:=by refine aq (ao _) (lv:=ad) (K:=6) rfl rfl ?_ M;simp only[bl,List.mem_cons,List.not_mem_nil,or_false] at h;rcases h with h | h | h | h | h | h | h | h | h | h | h | h | h | h | h | h | h | h | h | h | h | h | h | h | h | h | h | h | h | h | h | h | h<;>(subst h;as_aux_lemma=>kernel_rfl)
theorem dn{i:Nat}(h:i<6):bA i∈bl:=by
 have:i=0∨i=1∨i=2∨i=3∨i=4∨i=5:=by omega
 rcases this with rfl | rfl | rfl | rfl | rfl | rfl<;>decide
theorem u9{i:Nat}(h:i<6):gj i∈bl:=by
 have:i=0∨i=1∨i=2∨i=3∨i=4∨i=5:=by omega
 rcases this with rfl | rfl | rfl | rfl | rfl | rfl<;>decide
theorem gl{i J:Nat}(h:i<6) (hJ:J<3):∀u∈bj i J,u∈bl:=by
 have hi:i=0∨i=1∨i=2∨i=3∨i=4∨i=5:=by omega
 have hj:J=0∨J=1∨J=2:=by omega
 rcases hi with rfl | rfl | rfl | rfl | rfl | rfl<;>rcases hj with rfl | rfl | rfl<;>decide
def ly:List AV:=[185,186,187,188,189,190,191,192,69,193,194,195,196,197,198,199,200,201,202,203,204,205,206,207,208].map fun i=>.func i []
theorem DT(M:Mem):ACallsTo Tryz.prog 127 [] M (.agg ly) M:=by refine aq (ao _) (lv:=ad) (K:=6) rfl rfl ?_ M;as_aux_lemma=>kernel_rfl
theorem mM{T:TypeId→Option TyI}{O:Oracle}{N m0:Nat}{ops:Array Oper}:∀(a b:List Oper) (s:XS),dD T O N m0 ops (a++b) s=(dD T O N m0 ops a s).bind (dD T O N m0 ops b)
 | [],b,s=>rfl
 |o::a,b,s=>by
  rw[List.cons_append,dD,dD];split
  ·split
   ·split
    ·exact mM a b _
    ·rfl
   ·exact mM a b _
   ·rfl
  ·rfl
theorem eh{T:TypeId→Option TyI}{O:Oracle}{N m0:Nat}{ops:Array Oper}{a b:List Oper}{s s1:XS}{r:Option XS}(h:dD T O N m0 ops a s=some s1) (h2:dD T O N m0 ops b s1=r):dD T O N m0 ops (a++b) s=r:=by rw[mM,h];exact h2
noncomputable def aG:Array Oper:=match Tryz.f110.body with
 |some (.seq _ (.seq (.region _ ops _) _))=>ops
 |_=> #[]
noncomputable def nH:List Oper:=(aG.toList.drop 0).take 6
noncomputable def nI:List Oper:=(aG.toList.drop 6).take 7
noncomputable def nJ:List Oper:=(aG.toList.drop 13).take 9
noncomputable def nK:List Oper:=(aG.toList.drop 22).take 9
noncomputable def nL:List Oper:=(aG.toList.drop 31).take 9
noncomputable def nM:List Oper:=(aG.toList.drop 40).take 7
noncomputable def nN:List Oper:=(aG.toList.drop 47).take 9
noncomputable def nO:List Oper:=(aG.toList.drop 56).take 9
noncomputable def nP:List Oper:=(aG.toList.drop 65).take 9
noncomputable def nQ:List Oper:=(aG.toList.drop 74).take 7
noncomputable def lX:List Oper:=(aG.toList.drop 81).take 7
theorem Ey:aG.toList=nH++(nI++(nJ++(nK++(nL++(nM++(nN++(nO++(nP++(nQ++(lX)))))))))):=by kernel_rfl
structure Evc where
 k:Int
 nm:List UInt8
 B:List (List UInt8):=[]
 U:List (List UInt8):=[]
 S:List (List (List UInt8)):=[]
 K:List (List UInt8×List UInt8):=[]
 (t1 t2 t3 t4:Int:=0)
 (x5 x6 x7 x8 x9 x10 x11 x12 x13 x14 x16 x17 x18 x19 x20 x21 x22 x23 x24 x29 x30 x31:List UInt8:=[])
def Evc.cells(c:Evc) (b u s kn:AV):List AV:=[.int .i64 c.k,.str c.nm,b,u,s,.str c.x5,.str c.x6,.str c.x7,.str c.x8,.str c.x9,.str c.x10,.str c.x11,.str c.x12,.str c.x13,.str c.x14,kn,.str c.x16,.str c.x17,.str c.x18,.str c.x19,.str c.x20,.str c.x21,.str c.x22,.str c.x23,.str c.x24,.int .i64 c.t1,.int .i64 c.t2,.int .i64 c.t3,.int .i64 c.t4,.str c.x29,.str c.x30,.str c.x31]
noncomputable def yc:Array Oper:=match Tryz.f110.body with
 |some (.seq (.region _ ops _) _)=>ops
 |_=> #[]
set_option maxRecDepth 4000 in
theorem Jb{O:Oracle}{m0:Nat}{ops:Array Oper}{env:Env}{mem:Mem}{d:Bool}{p q:Nat}{c:Evc}{b u s kn b' u' s' kn' :AV}(h2:ab env 2=.ptr p 0) (h3:ab env 3=.ptr q 0) (hp:mem[p]? =some (.cells true 0 (c.cells b u s kn))) (hq:mem[q]? =some (.cells true 0 (c.cells b' u' s' kn'))):
  ∃env',dD (aM Tryz.prog) O 92 m0 ops nH ⟨env,mem,d⟩=some ⟨env',mem,d⟩∧ab env' 2=.ptr p 0∧ab env' 3=.ptr q 0∧ab env' 10=.bool true:=by
 have e0:=fun d=>Ex d
 simp only[Evc.cells] at hp hq;simp[nH,aG,Tryz.f110,h2,h3,hp,hq]
set_option maxRecDepth 4000 in
theorem Jc{O:Oracle}{m0:Nat}{ops:Array Oper}{env:Env}{mem:Mem}{d:Bool}{p q:Nat}{c:Evc}{b u s kn b' u' s' kn' :AV}(h2:ab env 2=.ptr p 0) (h3:ab env 3=.ptr q 0) (hp:mem[p]? =some (.cells true 0 (c.cells b u s kn))) (hq:mem[q]? =some (.cells true 0 (c.cells b' u' s' kn'))) (hg:(ops[5]?).bind (fun x=>x.dst)=some 10) (h1:ab env 10=.bool true):
  ∃env',dD (aM Tryz.prog) O 92 m0 ops nI ⟨env,mem,d⟩=some ⟨env',mem,d⟩∧ab env' 2=.ptr p 0∧ab env' 3=.ptr q 0∧ab env' 17=.bool true:=by
 have e1:=fun d=>yd d
 simp only[Evc.cells] at hp hq;simp[nI,aG,Tryz.f110,h2,h3,hp,hq,hg,h1]
set_option maxRecDepth 4000 in
theorem Jd{O:Oracle}{m0:Nat}{ops:Array Oper}{env:Env}{mem:Mem}{d:Bool}{p q:Nat}{c:Evc}{b u s kn b' u' s' kn' :AV}(h2:ab env 2=.ptr p 0) (h3:ab env 3=.ptr q 0) (hp:mem[p]? =some (.cells true 0 (c.cells b u s kn))) (hq:mem[q]? =some (.cells true 0 (c.cells b' u' s' kn'))) (hg:(ops[12]?).bind (fun x=>x.dst)=some 17) (h1:ab env 17=.bool true) (hO:O (.fn 166) [b,b'] mem=some ⟨.bool true,none,[]⟩):
  ∃env',dD (aM Tryz.prog) O 92 m0 ops nJ ⟨env,mem,d⟩=some ⟨env',mem,d⟩∧ab env' 2=.ptr p 0∧ab env' 3=.ptr q 0∧ab env' 26=.bool true:=by
 simp only[Evc.cells] at hp hq;simp[nJ,aG,Tryz.f110,h2,h3,hp,hq,hg,h1,hO]
set_option maxRecDepth 4000 in
theorem Je{O:Oracle}{m0:Nat}{ops:Array Oper}{env:Env}{mem:Mem}{d:Bool}{p q:Nat}{c:Evc}{b u s kn b' u' s' kn' :AV}(h2:ab env 2=.ptr p 0) (h3:ab env 3=.ptr q 0) (hp:mem[p]? =some (.cells true 0 (c.cells b u s kn))) (hq:mem[q]? =some (.cells true 0 (c.cells b' u' s' kn'))) (hg:(ops[21]?).bind (fun x=>x.dst)=some 26) (h1:ab env 26=.bool true) (hO:O (.fn 26) [u,u'] mem=some ⟨.bool true,none,[]⟩):
  ∃env',dD (aM Tryz.prog) O 92 m0 ops nK ⟨env,mem,d⟩=some ⟨env',mem,d⟩∧ab env' 2=.ptr p 0∧ab env' 3=.ptr q 0∧ab env' 35=.bool true:=by
 simp only[Evc.cells] at hp hq;simp[nK,aG,Tryz.f110,h2,h3,hp,hq,hg,h1,hO]
set_option maxRecDepth 4000 in
theorem Jf{O:Oracle}{m0:Nat}{ops:Array Oper}{env:Env}{mem:Mem}{d:Bool}{p q:Nat}{c:Evc}{b u s kn b' u' s' kn' :AV}(h2:ab env 2=.ptr p 0) (h3:ab env 3=.ptr q 0) (hp:mem[p]? =some (.cells true 0 (c.cells b u s kn))) (hq:mem[q]? =some (.cells true 0 (c.cells b' u' s' kn'))) (hg:(ops[30]?).bind (fun x=>x.dst)=some 35) (h1:ab env 35=.bool true) (hO:O (.fn 167) [s,s'] mem=some ⟨.bool true,none,[]⟩):
  ∃env',dD (aM Tryz.prog) O 92 m0 ops nL ⟨env,mem,d⟩=some ⟨env',mem,d⟩∧ab env' 2=.ptr p 0∧ab env' 3=.ptr q 0∧ab env' 44=.bool true:=by
 simp only[Evc.cells] at hp hq;simp[nL,aG,Tryz.f110,h2,h3,hp,hq,hg,h1,hO]
set_option maxRecDepth 4000 in
theorem Jg{O:Oracle}{m0:Nat}{ops:Array Oper}{env:Env}{mem:Mem}{d:Bool}{p q:Nat}{c:Evc}{b u s kn b' u' s' kn' :AV}(h2:ab env 2=.ptr p 0) (h3:ab env 3=.ptr q 0) (hp:mem[p]? =some (.cells true 0 (c.cells b u s kn))) (hq:mem[q]? =some (.cells true 0 (c.cells b' u' s' kn'))) (hg:(ops[39]?).bind (fun x=>x.dst)=some 44) (h1:ab env 44=.bool true):
  ∃env',dD (aM Tryz.prog) O 92 m0 ops nM ⟨env,mem,d⟩=some ⟨env',mem,d⟩∧ab env' 2=.ptr p 0∧ab env' 3=.ptr q 0∧ab env' 51=.bool true:=by
 have e2:=fun d=>Ew d
 simp only[Evc.cells] at hp hq;simp[nM,aG,Tryz.f110,h2,h3,hp,hq,hg,h1,e2]
set_option maxRecDepth 4000 in
theorem Jh{O:Oracle}{m0:Nat}{ops:Array Oper}{env:Env}{mem:Mem}{d:Bool}{p q:Nat}{c:Evc}{b u s kn b' u' s' kn' :AV}(h2:ab env 2=.ptr p 0) (h3:ab env 3=.ptr q 0) (hp:mem[p]? =some (.cells true 0 (c.cells b u s kn))) (hq:mem[q]? =some (.cells true 0 (c.cells b' u' s' kn'))) (hg:(ops[46]?).bind (fun x=>x.dst)=some 51) (h1:ab env 51=.bool true):
  ∃env',dD (aM Tryz.prog) O 92 m0 ops nN ⟨env,mem,d⟩=some ⟨env',mem,d⟩∧ab env' 2=.ptr p 0∧ab env' 3=.ptr q 0∧ab env' 60=.bool true:=by
 have e3:=fun d=>cP d
 simp only[Evc.cells] at hp hq;simp[nN,aG,Tryz.f110,h2,h3,hp,hq,hg,h1,e3]
set_option maxRecDepth 4000 in
theorem Ji{O:Oracle}{m0:Nat}{ops:Array Oper}{env:Env}{mem:Mem}{d:Bool}{p q:Nat}{c:Evc}{b u s kn b' u' s' kn' :AV}(h2:ab env 2=.ptr p 0) (h3:ab env 3=.ptr q 0) (hp:mem[p]? =some (.cells true 0 (c.cells b u s kn))) (hq:mem[q]? =some (.cells true 0 (c.cells b' u' s' kn'))) (hg:(ops[55]?).bind (fun x=>x.dst)=some 60) (h1:ab env 60=.bool true) (hO:O (.fn 168) [kn,kn'] mem=some ⟨.bool true,none,[]⟩):
  ∃env',dD (aM Tryz.prog) O 92 m0 ops nO ⟨env,mem,d⟩=some ⟨env',mem,d⟩∧ab env' 2=.ptr p 0∧ab env' 3=.ptr q 0∧ab env' 69=.bool true:=by
 simp only[Evc.cells] at hp hq;simp[nO,aG,Tryz.f110,h2,h3,hp,hq,hg,h1,hO]
set_option maxRecDepth 4000 in
theorem Jj{O:Oracle}{m0:Nat}{ops:Array Oper}{env:Env}{mem:Mem}{d:Bool}{p q:Nat}{c:Evc}{b u s kn b' u' s' kn' :AV}(h2:ab env 2=.ptr p 0) (h3:ab env 3=.ptr q 0) (hp:mem[p]? =some (.cells true 0 (c.cells b u s kn))) (hq:mem[q]? =some (.cells true 0 (c.cells b' u' s' kn'))) (hg:(ops[64]?).bind (fun x=>x.dst)=some 69) (h1:ab env 69=.bool true):
  ∃env',dD (aM Tryz.prog) O 92 m0 ops nP ⟨env,mem,d⟩=some ⟨env',mem,d⟩∧ab env' 2=.ptr p 0∧ab env' 3=.ptr q 0∧ab env' 78=.bool true:=by
 have e3:=fun d=>cP d
 simp only[Evc.cells] at hp hq;simp[nP,aG,Tryz.f110,h2,h3,hp,hq,hg,h1,e3]
set_option maxRecDepth 4000 in
theorem Jk{O:Oracle}{m0:Nat}{ops:Array Oper}{env:Env}{mem:Mem}{d:Bool}{p q:Nat}{c:Evc}{b u s kn b' u' s' kn' :AV}(h2:ab env 2=.ptr p 0) (h3:ab env 3=.ptr q 0) (hp:mem[p]? =some (.cells true 0 (c.cells b u s kn))) (hq:mem[q]? =some (.cells true 0 (c.cells b' u' s' kn'))) (hg:(ops[73]?).bind (fun x=>x.dst)=some 78) (h1:ab env 78=.bool true):
  ∃env',dD (aM Tryz.prog) O 92 m0 ops nQ ⟨env,mem,d⟩=some ⟨env',mem,d⟩∧ab env' 2=.ptr p 0∧ab env' 3=.ptr q 0∧ab env' 85=.bool true:=by
 have e4:=fun d=>I7 d
 simp only[Evc.cells] at hp hq;simp[nQ,aG,Tryz.f110,h2,h3,hp,hq,hg,h1,e4]
set_option maxRecDepth 4000 in
theorem Ez{O:Oracle}{m0:Nat}{ops:Array Oper}{env:Env}{mem:Mem}{d:Bool}{p q:Nat}{c:Evc}{b u s kn b' u' s' kn' :AV}(h2:ab env 2=.ptr p 0) (h3:ab env 3=.ptr q 0) (hp:mem[p]? =some (.cells true 0 (c.cells b u s kn))) (hq:mem[q]? =some (.cells true 0 (c.cells b' u' s' kn'))) (hg:(ops[80]?).bind (fun x=>x.dst)=some 85) (h1:ab env 85=.bool true):
  ∃env',dD (aM Tryz.prog) O 92 m0 ops lX ⟨env,mem,d⟩=some ⟨env',mem,d⟩∧ab env' 2=.ptr p 0∧ab env' 3=.ptr q 0∧ab env' 4=.bool true:=by
 have e5:=fun d=>I9 d
 simp only[Evc.cells] at hp hq;simp[lX,aG,Tryz.f110,h2,h3,hp,hq,hg,h1,e5]
theorem LR{O:Oracle}{m0:Nat}{env:Env}{mem:Mem}{d:Bool}{p q:Nat}{c:Evc}{b u s kn b' u' s' kn' :AV}(h2:ab env 2=.ptr p 0) (h3:ab env 3=.ptr q 0) (hp:mem[p]? =some (.cells true 0 (c.cells b u s kn))) (hq:mem[q]? =some (.cells true 0 (c.cells b' u' s' kn'))) (hO2:O (.fn 166) [b,b'] mem=some ⟨.bool true,none,[]⟩) (hO3:O (.fn 26) [u,u'] mem=some ⟨.bool true,none,[]⟩) (hO4:O (.fn 167) [s,s'] mem=some ⟨.bool true,none,[]⟩) (hO7:O (.fn 168) [kn,kn'] mem=some ⟨.bool true,none,[]⟩):
  ∃env',dD (aM Tryz.prog) O 92 m0 aG aG.toList ⟨env,mem,d⟩=some ⟨env',mem,d⟩∧ab env' 4=.bool true:=by
 have g1:(aG[5]?).bind (fun x=>x.dst)=some 10:=by kernel_rfl
 have g2:(aG[12]?).bind (fun x=>x.dst)=some 17:=by kernel_rfl
 have g3:(aG[21]?).bind (fun x=>x.dst)=some 26:=by kernel_rfl
 have g4:(aG[30]?).bind (fun x=>x.dst)=some 35:=by kernel_rfl
 have g5:(aG[39]?).bind (fun x=>x.dst)=some 44:=by kernel_rfl
 have g6:(aG[46]?).bind (fun x=>x.dst)=some 51:=by kernel_rfl
 have g7:(aG[55]?).bind (fun x=>x.dst)=some 60:=by kernel_rfl
 have g8:(aG[64]?).bind (fun x=>x.dst)=some 69:=by kernel_rfl
 have g9:(aG[73]?).bind (fun x=>x.dst)=some 78:=by kernel_rfl
 have g10:(aG[80]?).bind (fun x=>x.dst)=some 85:=by kernel_rfl
 obtain⟨e0,r0,h2_0,h3_0,b0⟩:=Jb (O:=O) (m0:=m0) (ops:=aG) (d:=d) h2 h3 hp hq;obtain⟨e1,r1,h2_1,h3_1,b1⟩:=Jc (O:=O) (m0:=m0) (ops:=aG) (d:=d) h2_0 h3_0 hp hq g1 b0;obtain⟨e2,r2,h2_2,h3_2,b2⟩:=Jd (O:=O) (m0:=m0) (ops:=aG) (d:=d) h2_1 h3_1 hp hq g2 b1 hO2;obtain⟨e3,r3,h2_3,h3_3,b3⟩:=Je (O:=O) (m0:=m0) (ops:=aG) (d:=d) h2_2 h3_2 hp hq g3 b2 hO3;obtain⟨e4,r4,h2_4,h3_4,b4⟩:=Jf (O:=O) (m0:=m0) (ops:=aG) (d:=d) h2_3 h3_3 hp hq g4 b3 hO4;obtain⟨e5,r5,h2_5,h3_5,b5⟩:=Jg (O:=O) (m0:=m0) (ops:=aG) (d:=d) h2_4 h3_4 hp hq g5 b4;obtain⟨e6,r6,h2_6,h3_6,b6⟩:=Jh (O:=O) (m0:=m0) (ops:=aG) (d:=d) h2_5 h3_5 hp hq g6 b5;obtain⟨e7,r7,h2_7,h3_7,b7⟩:=Ji (O:=O) (m0:=m0) (ops:=aG) (d:=d) h2_6 h3_6 hp hq g7 b6 hO7;obtain⟨e8,r8,h2_8,h3_8,b8⟩:=Jj (O:=O) (m0:=m0) (ops:=aG) (d:=d) h2_7 h3_7 hp hq g8 b7;obtain⟨e9,r9,h2_9,h3_9,b9⟩:=Jk (O:=O) (m0:=m0) (ops:=aG) (d:=d) h2_8 h3_8 hp hq g9 b8;obtain⟨e10,r10,h2_10,h3_10,b10⟩:=Ez (O:=O) (m0:=m0) (ops:=aG) (d:=d) h2_9 h3_9 hp hq g10 b9;exact⟨e10,by rw[Ey];exact eh r0 (eh r1 (eh r2 (eh r3 (eh r4 (eh r5 (eh r6 (eh r7 (eh r8 (eh r9 (r10)))))))))),b10⟩
set_option maxRecDepth 4000 in
theorem Ls{O:Oracle}(hOk:OracleOk Tryz.prog O) {m:Mem}{c:Evc}{b u s kn b' u' s' kn' :AV}(hO2:O (.fn 166) [b,b'] (m++[.cells true 0 (c.cells b u s kn),.cells true 0 (c.cells b' u' s' kn')])=some ⟨.bool true,none,[]⟩) (hO3:O (.fn 26) [u,u'] (m++[.cells true 0 (c.cells b u s kn),.cells true 0 (c.cells b' u' s' kn')])=some ⟨.bool true,none,[]⟩) (hO4:O (.fn 167) [s,s'] (m++[.cells true 0 (c.cells b u s kn),.cells true 0 (c.cells b' u' s' kn')])=some ⟨.bool true,none,[]⟩) (hO7:O (.fn 168) [kn,kn'] (m++[.cells true 0 (c.cells b u s kn),.cells true 0 (c.cells b' u' s' kn')])=some ⟨.bool true,none,[]⟩):
  ACallsTo Tryz.prog 110 [.agg (c.cells b u s kn),.agg (c.cells b' u' s' kn')] m (.bool true) m:=by
 have hG:aL Tryz.prog 110=some Tryz.f110:=by kernel_rfl
 obtain⟨ops,hops⟩:∃o,o=aG:=⟨_,rfl⟩
 obtain⟨F,hF⟩:=rB (p:=fun e (_:Bool)=>ab e 2=.ptr m.length 0∧ab e 3=.ptr (m.length+1) 0) (q:=fun env (_:Bool) env' =>dD (aM Tryz.prog) O 92 m.length ops ops.toList ⟨env,(m++[.cells true 0 (c.cells b u s kn),.cells true 0 (c.cells b' u' s' kn')]),false⟩=some ⟨env',(m++[.cells true 0 (c.cells b u s kn),.cells true 0 (c.cells b' u' s' kn')]),false⟩∧ab env' 4=.bool true) (fun env _ h=>by
  subst hops;have hp:((m++[.cells true 0 (c.cells b u s kn),.cells true 0 (c.cells b' u' s' kn')]))[m.length]? =some (.cells true 0 (c.cells b u s kn)):=by simp
  have hq:((m++[.cells true 0 (c.cells b u s kn),.cells true 0 (c.cells b' u' s' kn')]))[m.length+1]? =some (.cells true 0 (c.cells b' u' s' kn')):=by simp
  exact LR h.1 h.2 hp hq hO2 hO3 hO4 hO7)
 have hF1:=fun env h2 h3=>(hF env false ⟨h2,h3⟩).1
 have hF2:=fun env h2 h3=>(hF env false ⟨h2,h3⟩).2
 refine aZ (K:=1) (lv:=fun _=>[]) hOk ?_;have hb:Tryz.f110.body=some (.seq (.region 0 yc false) (.seq (.region 1 ops false) .ret)):=by rw[hops];kernel_rfl
 unfold aa;rw[hG];dsimp only;rw[hb];dsimp only;simp only[Evc.cells] at hF1 hF2 ⊢;simp[hF1,hF2,yc,Tryz.f110]
theorem gU{O:Oracle}(hOk:OracleOk Tryz.prog O) {m:Mem}{k t1 t2 t3 t4:Int}{nm x5 x6 x7 x8 x9 x10 x11 x12 x13 x14 x16 x17 x18 x19 x20 x21 x22 x23 x24 x29 x30 x31:List UInt8}{b u s kn:AV}(hO2:O (.fn 166) [b,b] (m++[.cells true 0 [.int .i64 k,.str nm,b,u,s,.str x5,.str x6,.str x7,.str x8,.str x9,.str x10,.str x11,.str x12,.str x13,.str x14,kn,.str x16,.str x17,.str x18,.str x19,.str x20,.str x21,.str x22,.str x23,.str x24,.int .i64 t1,.int .i64 t2,.int .i64 t3,.int .i64 t4,.str x29,.str x30,.str x31],.cells true 0 [.int .i64 k,.str nm,b,u,s,.str x5,.str x6,.str x7,.str x8,.str x9,.str x10,.str x11,.str x12,.str x13,.str x14,kn,.str x16,.str x17,.str x18,.str x19,.str x20,.str x21,.str x22,.str x23,.str x24,.int .i64 t1,.int .i64 t2,.int .i64 t3,.int .i64 t4,.str x29,.str x30,.str x31]])=some ⟨.bool true,none,[]⟩) (hO3:O (.fn 26) [u,u] (m++[.cells true 0 [.int .i64 k,.str nm,b,u,s,.str x5,.str x6,.str x7,.str x8,.str x9,.str x10,.str x11,.str x12,.str x13,.str x14,kn,.str x16,.str x17,.str x18,.str x19,.str x20,.str x21,.str x22,.str x23,.str x24,.int .i64 t1,.int .i64 t2,.int .i64 t3,.int .i64 t4,.str x29,.str x30,.str x31],.cells true 0 [.int .i64 k,.str nm,b,u,s,.str x5,.str x6,.str x7,.str x8,.str x9,.str x10,.str x11,.str x12,.str x13,.str x14,kn,.str x16,.str x17,.str x18,.str x19,.str x20,.str x21,.str x22,.str x23,.str x24,.int .i64 t1,.int .i64 t2,.int .i64 t3,.int .i64 t4,.str x29,.str x30,.str x31]])=some ⟨.bool true,none,[]⟩) (hO4:O (.fn 167) [s,s] (m++[.cells true 0 [.int .i64 k,.str nm,b,u,s,.str x5,.str x6,.str x7,.str x8,.str x9,.str x10,.str x11,.str x12,.str x13,.str x14,kn,.str x16,.str x17,.str x18,.str x19,.str x20,.str x21,.str x22,.str x23,.str x24,.int .i64 t1,.int .i64 t2,.int .i64 t3,.int .i64 t4,.str x29,.str x30,.str x31],.cells true 0 [.int .i64 k,.str nm,b,u,s,.str x5,.str x6,.str x7,.str x8,.str x9,.str x10,.str x11,.str x12,.str x13,.str x14,kn,.str x16,.str x17,.str x18,.str x19,.str x20,.str x21,.str x22,.str x23,.str x24,.int .i64 t1,.int .i64 t2,.int .i64 t3,.int .i64 t4,.str x29,.str x30,.str x31]])=some ⟨.bool true,none,[]⟩) (hO7:O (.fn 168) [kn,kn] (m++[.cells true 0 [.int .i64 k,.str nm,b,u,s,.str x5,.str x6,.str x7,.str x8,.str x9,.str x10,.str x11,.str x12,.str x13,.str x14,kn,.str x16,.str x17,.str x18,.str x19,.str x20,.str x21,.str x22,.str x23,.str x24,.int .i64 t1,.int .i64 t2,.int .i64 t3,.int .i64 t4,.str x29,.str x30,.str x31],.cells true 0 [.int .i64 k,.str nm,b,u,s,.str x5,.str x6,.str x7,.str x8,.str x9,.str x10,.str x11,.str x12,.str x13,.str x14,kn,.str x16,.str x17,.str x18,.str x19,.str x20,.str x21,.str x22,.str x23,.str x24,.int .i64 t1,.int .i64 t2,.int .i64 t3,.int .i64 t4,.str x29,.str x30,.str x31]])=some ⟨.bool true,none,[]⟩):
  ACallsTo Tryz.prog 110 [.agg [.int .i64 k,.str nm,b,u,s,.str x5,.str x6,.str x7,.str x8,.str x9,.str x10,.str x11,.str x12,.str x13,.str x14,kn,.str x16,.str x17,.str x18,.str x19,.str x20,.str x21,.str x22,.str x23,.str x24,.int .i64 t1,.int .i64 t2,.int .i64 t3,.int .i64 t4,.str x29,.str x30,.str x31],.agg [.int .i64 k,.str nm,b,u,s,.str x5,.str x6,.str x7,.str x8,.str x9,.str x10,.str x11,.str x12,.str x13,.str x14,kn,.str x16,.str x17,.str x18,.str x19,.str x20,.str x21,.str x22,.str x23,.str x24,.int .i64 t1,.int .i64 t2,.int .i64 t3,.int .i64 t4,.str x29,.str x30,.str x31]] m (.bool true) m:=
 Ls hOk (c:={ k:=k,nm:=nm,t1:=t1,t2:=t2,t3:=t3,t4:=t4,x5:=x5,x6:=x6,x7:=x7,x8:=x8,x9:=x9,x10:=x10,x11:=x11,x12:=x12,x13:=x13,x14:=x14,x16:=x16,x17:=x17,x18:=x18,x19:=x19,x20:=x20,x21:=x21,x22:=x22,x23:=x23,x24:=x24,x29:=x29,x30:=x30,x31:=x31 }) hO2 hO3 hO4 hO7
end Go.Proofs
