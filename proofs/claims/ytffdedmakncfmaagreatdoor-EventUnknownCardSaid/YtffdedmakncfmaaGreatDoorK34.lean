/- See K51. -/
import Derived.Test.YtffdedmakncfmaaGreatDoorK30
import Derived.Test.YtffdedmakncfmaaGreatDoorK33
set_option linter.all false
namespace Go.Proofs
open Go.Eng
section
variable (d:Nat)
theorem yf(x y:List UInt8):iH (aO Tryz.prog) (d+1) 9 (.str x) (.str y)=some (x==y):=by rw[iH];simp
theorem Eb(x y:Int):iH (aO Tryz.prog) (d+1) 3 (.int .i64 x) (.int .i64 y)=some (decide (x=y)):=by rw[iH];simp
theorem kB(a b c:List UInt8):iH (aO Tryz.prog) (d+2) 54 (.agg [.str a,.str b,.str c]) (.agg [.str a,.str b,.str c])=some true:=by
 have i:=iV d
 rw[iH]
 simp[MI,gD,TyI.isAgg,i]
theorem vo(a b c o:List UInt8):iH (aO Tryz.prog) (d+3) 56 (.agg [.str a,.str b,.str c,.str o]) (.agg [.str a,.str b,.str c,.str o])=some true:=by
 have i:=iV (d+1)
 have j:=kB d
 rw[iH]
 simp[MI,gD,TyI.isAgg,i,j]
theorem Ea(a b c o e f g:List UInt8):iH (aO Tryz.prog) (d+4) 58 (.agg [.str a,.str b,.str c,.str o,.str e,.str f,.str g]) (.agg [.str a,.str b,.str c,.str o,.str e,.str f,.str g])=some true:=by
 have j:=kB (d+1)
 have k:=vo d
 rw[iH]
 simp[MI,gD,TyI.isAgg,j,k]
theorem If(a b c o w u:List UInt8):iH (aO Tryz.prog) (d+4) 63 (.agg [.str a,.str b,.str c,.str o,.str w,.str u]) (.agg [.str a,.str b,.str c,.str o,.str w,.str u])=some true:=by
 have i:=iV (d+2)
 have i2:=yf (d+2)
 have k:=vo d
 rw[iH]
 simp[MI,gD,TyI.isAgg,i,i2,k]
theorem Ii(t u v w:Int):iH (aO Tryz.prog) (d+2) 64 (.agg [.int .i64 t,.int .i64 u,.int .i64 v,.int .i64 w]) (.agg [.int .i64 t,.int .i64 u,.int .i64 v,.int .i64 w])=some true:=by
 have r:List.range' 0 4=[0,1,2,3]:=rfl
 have i:=Eb d
 rw[iH]
 simp only[Cp,Co,r,Qv]
 simp[gD,TyI.isAgg,i]
theorem Ih(t u v w:Int) (a b c:List UInt8):iH (aO Tryz.prog) (d+3) 66 (.agg [.int .i64 t,.int .i64 u,.int .i64 v,.int .i64 w,.str a,.str b,.str c]) (.agg [.int .i64 t,.int .i64 u,.int .i64 v,.int .i64 w,.str a,.str b,.str c])=some true:=by
 have j:=kB (d+0)
 have k:=Ii d
 rw[iH]
 simp[MI,gD,TyI.isAgg,j,k]
end
end Go.Proofs
namespace Go.Proofs
open Go.Eng
def iI:List (List UInt8):=[[101,48],[101,49],[101,50],[101,51],[101,52],[101,53],[107,48],[107,49],[107,50],[107,51],[107,52],[107,53],[65,49],[65,50],[65,51],[66,49],[66,50],[66,51],[67,49],[67,50],[67,51],[68,49],[68,50],[68,51],[69,49],[69,50],[69,51],[70,49],[70,50],[70,51],[116],[122],[102,105,110,101],[110],[110,95,97],[110,95,98],[110,95,99],[110,95,114,111,99,107]]
theorem eW(nm:List UInt8) (h:nm∈iI) (M:Mem):ACallsTo Tryz.prog 132 [.str nm] M (.int .i64 0) M:=by
 refine aq (ak _) (lv:=ad) (K:=9) rfl rfl ?_ M
 simp only[iI,List.mem_cons,List.not_mem_nil,or_false] at h
 rcases h with h | h | h | h | h | h | h | h | h | h | h | h | h | h | h | h | h | h | h | h | h | h | h | h | h | h | h | h | h | h | h | h | h | h | h | h | h | h<;>(subst h;as_aux_lemma=>kernel_rfl)
def ui:List AV:=[158,159,160,161,162,163,164,165,73,166,167,168,169,170,171,172,173,174,175,176,177,178,179,180,181].map fun i=>.func i []
theorem Dk(M:Mem):ACallsTo Tryz.prog 110 [] M (.agg ui) M:=by
 refine aq (ak _) (lv:=ad) (K:=6) rfl rfl ?_ M
 as_aux_lemma=>kernel_rfl
theorem mD{T:TypeId→Option TyI}{O:Oracle}{N m0:Nat}{ops:Array Oper}:∀(a b:List Oper) (s:XS),cO T O N m0 ops (a++b) s=(cO T O N m0 ops a s).bind (cO T O N m0 ops b)
 | [],b,s=>rfl
 |o::a,b,s=>by
  rw[List.cons_append,cO,cO]
  split
  ·split
   ·split
    ·exact mD a b _
    ·rfl
   ·exact mD a b _
   ·rfl
  ·rfl
theorem dh{T:TypeId→Option TyI}{O:Oracle}{N m0:Nat}{ops:Array Oper}{a b:List Oper}{s s1:XS}{r:Option XS}(h:cO T O N m0 ops a s=some s1) (h2:cO T O N m0 ops b s1=r):cO T O N m0 ops (a++b) s=r:=by
 rw[mD,h];exact h2
noncomputable def aI:Array Oper:=match Tryz.f133.body with
 |some (.seq _ (.seq (.region _ ops _) _))=>ops
 |_=> #[]
noncomputable def np:List Oper:=(aI.toList.drop 0).take 6
noncomputable def nq:List Oper:=(aI.toList.drop 6).take 7
noncomputable def nr:List Oper:=(aI.toList.drop 13).take 9
noncomputable def nt:List Oper:=(aI.toList.drop 22).take 9
noncomputable def nv:List Oper:=(aI.toList.drop 31).take 9
noncomputable def nw:List Oper:=(aI.toList.drop 40).take 7
noncomputable def nK:List Oper:=(aI.toList.drop 47).take 9
noncomputable def nL:List Oper:=(aI.toList.drop 56).take 9
noncomputable def nM:List Oper:=(aI.toList.drop 65).take 9
noncomputable def nO:List Oper:=(aI.toList.drop 74).take 7
noncomputable def lx:List Oper:=(aI.toList.drop 81).take 7
theorem Ec:aI.toList=np++(nq++(nr++(nt++(nv++(nw++(nK++(nL++(nM++(nO++(lx)))))))))):=by kernel_rfl
structure Evc where
 k:Int
 nm:List UInt8
 B:List (List UInt8):=[]
 U:List (List UInt8):=[]
 S:List (List (List UInt8)):=[]
 K:List (List UInt8×List UInt8):=[]
 (t1 t2 t3 t4:Int:=0)
 (x5 x6 x7 x8 x9 x10 x11 x12 x13 x14 x16 x17 x18 x19 x20 x21 x22 x23 x24 x29 x30 x31:List UInt8:=[])
def Evc.cells(c:Evc) (b u s kn:AV):List AV:=[.int .i64 c.k,.str c.nm,b,u,s,.str c.x5,.str c.x6,.str c.x7,.str c.x8,.str c.x9,.str c.x10,.str c.x11,.str c.x12,.str c.x13,.str c.x14,kn,.str c.x16,.str c.x17,.str c.x18,.str c.x19,.str c.x20,.str c.x21,.str c.x22,.str c.x23,.str c.x24,.int .i64 c.t1,.int .i64 c.t2,.int .i64 c.t3,.int .i64 c.t4,.str c.x29,.str c.x30,.str c.x31]
noncomputable def ye:Array Oper:=match Tryz.f133.body with
 |some (.seq (.region _ ops _) _)=>ops
 |_=> #[]
set_option maxRecDepth 4000 in
theorem Ij{O:Oracle}{m0:Nat}{ops:Array Oper}{env:Env}{mem:Mem}{d:Bool}{p q:Nat}{c:Evc}{b u s kn b' u' s' kn' :AV}(h2:ab env 2=.ptr p 0) (h3:ab env 3=.ptr q 0) (hp:mem[p]? =some (.cells true 0 (c.cells b u s kn))) (hq:mem[q]? =some (.cells true 0 (c.cells b' u' s' kn'))):
  ∃env',cO (aO Tryz.prog) O 92 m0 ops np ⟨env,mem,d⟩=some ⟨env',mem,d⟩∧ab env' 2=.ptr p 0∧ab env' 3=.ptr q 0∧ab env' 10=.bool true:=by
 have e0:=fun d=>Eb d
 simp only[Evc.cells] at hp hq
 simp[np,aI,Tryz.f133,h2,h3,hp,hq]
set_option maxRecDepth 4000 in
theorem Ik{O:Oracle}{m0:Nat}{ops:Array Oper}{env:Env}{mem:Mem}{d:Bool}{p q:Nat}{c:Evc}{b u s kn b' u' s' kn' :AV}(h2:ab env 2=.ptr p 0) (h3:ab env 3=.ptr q 0) (hp:mem[p]? =some (.cells true 0 (c.cells b u s kn))) (hq:mem[q]? =some (.cells true 0 (c.cells b' u' s' kn'))) (hg:(ops[5]?).bind (fun x=>x.dst)=some 10) (h1:ab env 10=.bool true):
  ∃env',cO (aO Tryz.prog) O 92 m0 ops nq ⟨env,mem,d⟩=some ⟨env',mem,d⟩∧ab env' 2=.ptr p 0∧ab env' 3=.ptr q 0∧ab env' 17=.bool true:=by
 have e1:=fun d=>yf d
 simp only[Evc.cells] at hp hq
 simp[nq,aI,Tryz.f133,h2,h3,hp,hq,hg,h1]
set_option maxRecDepth 4000 in
theorem Il{O:Oracle}{m0:Nat}{ops:Array Oper}{env:Env}{mem:Mem}{d:Bool}{p q:Nat}{c:Evc}{b u s kn b' u' s' kn' :AV}(h2:ab env 2=.ptr p 0) (h3:ab env 3=.ptr q 0) (hp:mem[p]? =some (.cells true 0 (c.cells b u s kn))) (hq:mem[q]? =some (.cells true 0 (c.cells b' u' s' kn'))) (hg:(ops[12]?).bind (fun x=>x.dst)=some 17) (h1:ab env 17=.bool true) (hO:O (.fn 197) [b,b'] mem=some ⟨.bool true,none,[]⟩):
  ∃env',cO (aO Tryz.prog) O 92 m0 ops nr ⟨env,mem,d⟩=some ⟨env',mem,d⟩∧ab env' 2=.ptr p 0∧ab env' 3=.ptr q 0∧ab env' 26=.bool true:=by
 simp only[Evc.cells] at hp hq
 simp[nr,aI,Tryz.f133,h2,h3,hp,hq,hg,h1,hO]
set_option maxRecDepth 4000 in
theorem Im{O:Oracle}{m0:Nat}{ops:Array Oper}{env:Env}{mem:Mem}{d:Bool}{p q:Nat}{c:Evc}{b u s kn b' u' s' kn' :AV}(h2:ab env 2=.ptr p 0) (h3:ab env 3=.ptr q 0) (hp:mem[p]? =some (.cells true 0 (c.cells b u s kn))) (hq:mem[q]? =some (.cells true 0 (c.cells b' u' s' kn'))) (hg:(ops[21]?).bind (fun x=>x.dst)=some 26) (h1:ab env 26=.bool true) (hO:O (.fn 198) [u,u'] mem=some ⟨.bool true,none,[]⟩):
  ∃env',cO (aO Tryz.prog) O 92 m0 ops nt ⟨env,mem,d⟩=some ⟨env',mem,d⟩∧ab env' 2=.ptr p 0∧ab env' 3=.ptr q 0∧ab env' 35=.bool true:=by
 simp only[Evc.cells] at hp hq
 simp[nt,aI,Tryz.f133,h2,h3,hp,hq,hg,h1,hO]
set_option maxRecDepth 4000 in
theorem Io{O:Oracle}{m0:Nat}{ops:Array Oper}{env:Env}{mem:Mem}{d:Bool}{p q:Nat}{c:Evc}{b u s kn b' u' s' kn' :AV}(h2:ab env 2=.ptr p 0) (h3:ab env 3=.ptr q 0) (hp:mem[p]? =some (.cells true 0 (c.cells b u s kn))) (hq:mem[q]? =some (.cells true 0 (c.cells b' u' s' kn'))) (hg:(ops[30]?).bind (fun x=>x.dst)=some 35) (h1:ab env 35=.bool true) (hO:O (.fn 199) [s,s'] mem=some ⟨.bool true,none,[]⟩):
  ∃env',cO (aO Tryz.prog) O 92 m0 ops nv ⟨env,mem,d⟩=some ⟨env',mem,d⟩∧ab env' 2=.ptr p 0∧ab env' 3=.ptr q 0∧ab env' 44=.bool true:=by
 simp only[Evc.cells] at hp hq
 simp[nv,aI,Tryz.f133,h2,h3,hp,hq,hg,h1,hO]
set_option maxRecDepth 4000 in
theorem Ip{O:Oracle}{m0:Nat}{ops:Array Oper}{env:Env}{mem:Mem}{d:Bool}{p q:Nat}{c:Evc}{b u s kn b' u' s' kn' :AV}(h2:ab env 2=.ptr p 0) (h3:ab env 3=.ptr q 0) (hp:mem[p]? =some (.cells true 0 (c.cells b u s kn))) (hq:mem[q]? =some (.cells true 0 (c.cells b' u' s' kn'))) (hg:(ops[39]?).bind (fun x=>x.dst)=some 44) (h1:ab env 44=.bool true):
  ∃env',cO (aO Tryz.prog) O 92 m0 ops nw ⟨env,mem,d⟩=some ⟨env',mem,d⟩∧ab env' 2=.ptr p 0∧ab env' 3=.ptr q 0∧ab env' 51=.bool true:=by
 have e2:=fun d=>Ea d
 simp only[Evc.cells] at hp hq
 simp[nw,aI,Tryz.f133,h2,h3,hp,hq,hg,h1,e2]
set_option maxRecDepth 4000 in
theorem Iq{O:Oracle}{m0:Nat}{ops:Array Oper}{env:Env}{mem:Mem}{d:Bool}{p q:Nat}{c:Evc}{b u s kn b' u' s' kn' :AV}(h2:ab env 2=.ptr p 0) (h3:ab env 3=.ptr q 0) (hp:mem[p]? =some (.cells true 0 (c.cells b u s kn))) (hq:mem[q]? =some (.cells true 0 (c.cells b' u' s' kn'))) (hg:(ops[46]?).bind (fun x=>x.dst)=some 51) (h1:ab env 51=.bool true):
  ∃env',cO (aO Tryz.prog) O 92 m0 ops nK ⟨env,mem,d⟩=some ⟨env',mem,d⟩∧ab env' 2=.ptr p 0∧ab env' 3=.ptr q 0∧ab env' 60=.bool true:=by
 have e3:=fun d=>kB d
 simp only[Evc.cells] at hp hq
 simp[nK,aI,Tryz.f133,h2,h3,hp,hq,hg,h1,e3]
set_option maxRecDepth 4000 in
theorem Ir{O:Oracle}{m0:Nat}{ops:Array Oper}{env:Env}{mem:Mem}{d:Bool}{p q:Nat}{c:Evc}{b u s kn b' u' s' kn' :AV}(h2:ab env 2=.ptr p 0) (h3:ab env 3=.ptr q 0) (hp:mem[p]? =some (.cells true 0 (c.cells b u s kn))) (hq:mem[q]? =some (.cells true 0 (c.cells b' u' s' kn'))) (hg:(ops[55]?).bind (fun x=>x.dst)=some 60) (h1:ab env 60=.bool true) (hO:O (.fn 200) [kn,kn'] mem=some ⟨.bool true,none,[]⟩):
  ∃env',cO (aO Tryz.prog) O 92 m0 ops nL ⟨env,mem,d⟩=some ⟨env',mem,d⟩∧ab env' 2=.ptr p 0∧ab env' 3=.ptr q 0∧ab env' 69=.bool true:=by
 simp only[Evc.cells] at hp hq
 simp[nL,aI,Tryz.f133,h2,h3,hp,hq,hg,h1,hO]
set_option maxRecDepth 4000 in
theorem Is{O:Oracle}{m0:Nat}{ops:Array Oper}{env:Env}{mem:Mem}{d:Bool}{p q:Nat}{c:Evc}{b u s kn b' u' s' kn' :AV}(h2:ab env 2=.ptr p 0) (h3:ab env 3=.ptr q 0) (hp:mem[p]? =some (.cells true 0 (c.cells b u s kn))) (hq:mem[q]? =some (.cells true 0 (c.cells b' u' s' kn'))) (hg:(ops[64]?).bind (fun x=>x.dst)=some 69) (h1:ab env 69=.bool true):
  ∃env',cO (aO Tryz.prog) O 92 m0 ops nM ⟨env,mem,d⟩=some ⟨env',mem,d⟩∧ab env' 2=.ptr p 0∧ab env' 3=.ptr q 0∧ab env' 78=.bool true:=by
 have e3:=fun d=>kB d
 simp only[Evc.cells] at hp hq
 simp[nM,aI,Tryz.f133,h2,h3,hp,hq,hg,h1,e3]
set_option maxRecDepth 4000 in
theorem It{O:Oracle}{m0:Nat}{ops:Array Oper}{env:Env}{mem:Mem}{d:Bool}{p q:Nat}{c:Evc}{b u s kn b' u' s' kn' :AV}(h2:ab env 2=.ptr p 0) (h3:ab env 3=.ptr q 0) (hp:mem[p]? =some (.cells true 0 (c.cells b u s kn))) (hq:mem[q]? =some (.cells true 0 (c.cells b' u' s' kn'))) (hg:(ops[73]?).bind (fun x=>x.dst)=some 78) (h1:ab env 78=.bool true):
  ∃env',cO (aO Tryz.prog) O 92 m0 ops nO ⟨env,mem,d⟩=some ⟨env',mem,d⟩∧ab env' 2=.ptr p 0∧ab env' 3=.ptr q 0∧ab env' 85=.bool true:=by
 have e4:=fun d=>If d
 simp only[Evc.cells] at hp hq
 simp[nO,aI,Tryz.f133,h2,h3,hp,hq,hg,h1,e4]
set_option maxRecDepth 4000 in
theorem Ee{O:Oracle}{m0:Nat}{ops:Array Oper}{env:Env}{mem:Mem}{d:Bool}{p q:Nat}{c:Evc}{b u s kn b' u' s' kn' :AV}(h2:ab env 2=.ptr p 0) (h3:ab env 3=.ptr q 0) (hp:mem[p]? =some (.cells true 0 (c.cells b u s kn))) (hq:mem[q]? =some (.cells true 0 (c.cells b' u' s' kn'))) (hg:(ops[80]?).bind (fun x=>x.dst)=some 85) (h1:ab env 85=.bool true):
  ∃env',cO (aO Tryz.prog) O 92 m0 ops lx ⟨env,mem,d⟩=some ⟨env',mem,d⟩∧ab env' 2=.ptr p 0∧ab env' 3=.ptr q 0∧ab env' 4=.bool true:=by
 have e5:=fun d=>Ih d
 simp only[Evc.cells] at hp hq
 simp[lx,aI,Tryz.f133,h2,h3,hp,hq,hg,h1,e5]
theorem Lc{O:Oracle}{m0:Nat}{env:Env}{mem:Mem}{d:Bool}{p q:Nat}{c:Evc}{b u s kn b' u' s' kn' :AV}(h2:ab env 2=.ptr p 0) (h3:ab env 3=.ptr q 0) (hp:mem[p]? =some (.cells true 0 (c.cells b u s kn))) (hq:mem[q]? =some (.cells true 0 (c.cells b' u' s' kn'))) (hO2:O (.fn 197) [b,b'] mem=some ⟨.bool true,none,[]⟩) (hO3:O (.fn 198) [u,u'] mem=some ⟨.bool true,none,[]⟩) (hO4:O (.fn 199) [s,s'] mem=some ⟨.bool true,none,[]⟩) (hO7:O (.fn 200) [kn,kn'] mem=some ⟨.bool true,none,[]⟩):
  ∃env',cO (aO Tryz.prog) O 92 m0 aI aI.toList ⟨env,mem,d⟩=some ⟨env',mem,d⟩∧ab env' 4=.bool true:=by
 have g1:(aI[5]?).bind (fun x=>x.dst)=some 10:=by kernel_rfl
 have g2:(aI[12]?).bind (fun x=>x.dst)=some 17:=by kernel_rfl
 have g3:(aI[21]?).bind (fun x=>x.dst)=some 26:=by kernel_rfl
 have g4:(aI[30]?).bind (fun x=>x.dst)=some 35:=by kernel_rfl
 have g5:(aI[39]?).bind (fun x=>x.dst)=some 44:=by kernel_rfl
 have g6:(aI[46]?).bind (fun x=>x.dst)=some 51:=by kernel_rfl
 have g7:(aI[55]?).bind (fun x=>x.dst)=some 60:=by kernel_rfl
 have g8:(aI[64]?).bind (fun x=>x.dst)=some 69:=by kernel_rfl
 have g9:(aI[73]?).bind (fun x=>x.dst)=some 78:=by kernel_rfl
 have g10:(aI[80]?).bind (fun x=>x.dst)=some 85:=by kernel_rfl
 obtain⟨e0,r0,h2_0,h3_0,b0⟩:=Ij (O:=O) (m0:=m0) (ops:=aI) (d:=d) h2 h3 hp hq
 obtain⟨e1,r1,h2_1,h3_1,b1⟩:=Ik (O:=O) (m0:=m0) (ops:=aI) (d:=d) h2_0 h3_0 hp hq g1 b0
 obtain⟨e2,r2,h2_2,h3_2,b2⟩:=Il (O:=O) (m0:=m0) (ops:=aI) (d:=d) h2_1 h3_1 hp hq g2 b1 hO2
 obtain⟨e3,r3,h2_3,h3_3,b3⟩:=Im (O:=O) (m0:=m0) (ops:=aI) (d:=d) h2_2 h3_2 hp hq g3 b2 hO3
 obtain⟨e4,r4,h2_4,h3_4,b4⟩:=Io (O:=O) (m0:=m0) (ops:=aI) (d:=d) h2_3 h3_3 hp hq g4 b3 hO4
 obtain⟨e5,r5,h2_5,h3_5,b5⟩:=Ip (O:=O) (m0:=m0) (ops:=aI) (d:=d) h2_4 h3_4 hp hq g5 b4
 obtain⟨e6,r6,h2_6,h3_6,b6⟩:=Iq (O:=O) (m0:=m0) (ops:=aI) (d:=d) h2_5 h3_5 hp hq g6 b5
 obtain⟨e7,r7,h2_7,h3_7,b7⟩:=Ir (O:=O) (m0:=m0) (ops:=aI) (d:=d) h2_6 h3_6 hp hq g7 b6 hO7
 obtain⟨e8,r8,h2_8,h3_8,b8⟩:=Is (O:=O) (m0:=m0) (ops:=aI) (d:=d) h2_7 h3_7 hp hq g8 b7
 obtain⟨e9,r9,h2_9,h3_9,b9⟩:=It (O:=O) (m0:=m0) (ops:=aI) (d:=d) h2_8 h3_8 hp hq g9 b8
 obtain⟨e10,r10,h2_10,h3_10,b10⟩:=Ee (O:=O) (m0:=m0) (ops:=aI) (d:=d) h2_9 h3_9 hp hq g10 b9
 exact⟨e10,by rw[Ec];exact dh r0 (dh r1 (dh r2 (dh r3 (dh r4 (dh r5 (dh r6 (dh r7 (dh r8 (dh r9 (r10)))))))))),b10⟩
set_option maxRecDepth 4000 in
theorem KH{O:Oracle}(hOk:OracleOk Tryz.prog O) {m:Mem}{c:Evc}{b u s kn b' u' s' kn' :AV}(hO2:O (.fn 197) [b,b'] (m++[.cells true 0 (c.cells b u s kn),.cells true 0 (c.cells b' u' s' kn')])=some ⟨.bool true,none,[]⟩) (hO3:O (.fn 198) [u,u'] (m++[.cells true 0 (c.cells b u s kn),.cells true 0 (c.cells b' u' s' kn')])=some ⟨.bool true,none,[]⟩) (hO4:O (.fn 199) [s,s'] (m++[.cells true 0 (c.cells b u s kn),.cells true 0 (c.cells b' u' s' kn')])=some ⟨.bool true,none,[]⟩) (hO7:O (.fn 200) [kn,kn'] (m++[.cells true 0 (c.cells b u s kn),.cells true 0 (c.cells b' u' s' kn')])=some ⟨.bool true,none,[]⟩):
  ACallsTo Tryz.prog 133 [.agg (c.cells b u s kn),.agg (c.cells b' u' s' kn')] m (.bool true) m:=by
 have hG:aN Tryz.prog 133=some Tryz.f133:=by kernel_rfl
 obtain⟨ops,hops⟩:∃o,o=aI:=⟨_,rfl⟩
 obtain⟨F,hF⟩:=pd (p:=fun e (_:Bool)=>ab e 2=.ptr m.length 0∧ab e 3=.ptr (m.length+1) 0) (q:=fun env (_:Bool) env' =>cO (aO Tryz.prog) O 92 m.length ops ops.toList ⟨env,(m++[.cells true 0 (c.cells b u s kn),.cells true 0 (c.cells b' u' s' kn')]),false⟩=some ⟨env',(m++[.cells true 0 (c.cells b u s kn),.cells true 0 (c.cells b' u' s' kn')]),false⟩∧ab env' 4=.bool true) (fun env _ h=>by
  subst hops
  have hp:((m++[.cells true 0 (c.cells b u s kn),.cells true 0 (c.cells b' u' s' kn')]))[m.length]? =some (.cells true 0 (c.cells b u s kn)):=by simp
  have hq:((m++[.cells true 0 (c.cells b u s kn),.cells true 0 (c.cells b' u' s' kn')]))[m.length+1]? =some (.cells true 0 (c.cells b' u' s' kn')):=by simp
  exact Lc h.1 h.2 hp hq hO2 hO3 hO4 hO7)
 have hF1:=fun env h2 h3=>(hF env false ⟨h2,h3⟩).1
 have hF2:=fun env h2 h3=>(hF env false ⟨h2,h3⟩).2
 have h:aa (aO Tryz.prog) (fun _=>[]) (aN Tryz.prog) O 1 133 [.agg (c.cells b u s kn),.agg (c.cells b' u' s' kn')] m=some ⟨.bool true,none,[]⟩:=by
  have hb:Tryz.f133.body=some (.seq (.region 0 ye false) (.seq (.region 1 ops false) .ret)):=by rw[hops];kernel_rfl
  unfold aa
  rw[hG]
  dsimp only
  rw[hb]
  dsimp only
  simp only[Evc.cells] at hF1 hF2 ⊢
  simp[hF1,hF2,ye,Tryz.f133]
 have:=(af ae (aw _) hOk (ax _) h).1
 simpa [CallRes.mem] using this
end Go.Proofs
