/- See N58. -/
import Derived.Test.YtmhkeaphiadacaaGreatDoorN28
import Derived.Test.YtmhkeaphiadacaaGreatDoorN30
import Derived.Test.YtmhkeaphiadacaaGreatDoorN35
set_option linter.all false
namespace Go.Proofs
open Go.Eng
section
variable (d:Nat)
theorem n9(x y:List UInt8):iT (az Tryz.prog) (d+1) 9 (.str x) (.str y)=some (x==y):=by rw[iT];simp
theorem rB(x y:Int):iT (az Tryz.prog) (d+1) 3 (.int .i64 x) (.int .i64 y)=some (decide (x=y)):=by rw[iT];simp
theorem gH(a b c:List UInt8):iT (az Tryz.prog) (d+2) 51 (.agg [.str a,.str b,.str c]) (.agg [.str a,.str b,.str c])=some true:=by
 have i:=ge d
 rw[iT]
 simp[LF,gv,TyI.isAgg,i]
theorem uC(a b c o:List UInt8):iT (az Tryz.prog) (d+3) 53 (.agg [.str a,.str b,.str c,.str o]) (.agg [.str a,.str b,.str c,.str o])=some true:=by
 have i:=ge (d+1)
 have j:=gH d
 rw[iT]
 simp[LF,gv,TyI.isAgg,i,j]
theorem uA(a b c o e f g:List UInt8):iT (az Tryz.prog) (d+4) 55 (.agg [.str a,.str b,.str c,.str o,.str e,.str f,.str g]) (.agg [.str a,.str b,.str c,.str o,.str e,.str f,.str g])=some true:=by
 have j:=gH (d+1)
 have k:=uC d
 rw[iT]
 simp[LF,gv,TyI.isAgg,j,k]
theorem xz(a b c o w u:List UInt8):iT (az Tryz.prog) (d+4) 60 (.agg [.str a,.str b,.str c,.str o,.str w,.str u]) (.agg [.str a,.str b,.str c,.str o,.str w,.str u])=some true:=by
 have i:=ge (d+2)
 have i2:=n9 (d+2)
 have k:=uC d
 rw[iT]
 simp[LF,gv,TyI.isAgg,i,i2,k]
theorem Ir(t u v w:Int):iT (az Tryz.prog) (d+2) 61 (.agg [.int .i64 t,.int .i64 u,.int .i64 v,.int .i64 w]) (.agg [.int .i64 t,.int .i64 u,.int .i64 v,.int .i64 w])=some true:=by
 have r:List.range' 0 4=[0,1,2,3]:=rfl
 have i:=rB d
 rw[iT]
 simp only[JQ,B6,r,PQ]
 simp[gv,TyI.isAgg,i]
theorem xB(t u v w:Int) (a b c:List UInt8):iT (az Tryz.prog) (d+3) 63 (.agg [.int .i64 t,.int .i64 u,.int .i64 v,.int .i64 w,.str a,.str b,.str c]) (.agg [.int .i64 t,.int .i64 u,.int .i64 v,.int .i64 w,.str a,.str b,.str c])=some true:=by
 have j:=gH (d+0)
 have k:=Ir d
 rw[iT]
 simp[LF,gv,TyI.isAgg,j,k]
end
theorem CW(M:Mem):ACallsTo Tryz.prog 82 [.nilslice,.nilslice] M (.bool true) M:=by
 have h0:∀M,ACallsTo Tryz.prog 113 [.nilslice,.nilslice] M (.bool true) M:=fun M=>by
  have hG:aI Tryz.prog 113=some Tryz.f113:=by kernel_rfl
  refine aw (af _) (lv:=fun _=>[13]) (K:=3) rfl rfl ?_ M
  simp[ab,hG,Tryz.f113,aC,dS]
 have hO:OracleOk Tryz.prog (ao fun f args=>match f,args with
   |113,[.nilslice,.nilslice]=>some (.bool true)
   |_,_=>none):=bN fun f args v h mem=>by
  split at h
  ·cases h;exact h0 mem
  ·cases h
 have hG:aI Tryz.prog 82=some Tryz.f82:=by kernel_rfl
 refine aw hO (lv:=fun _=>[13]) (K:=3) rfl rfl ?_ M
 simp[ab,hG,Tryz.f82,ao]
theorem De(M:Mem):ACallsTo Tryz.prog 32 [.nilslice,.nilslice] M (.bool true) M:=by
 have hG:aI Tryz.prog 32=some Tryz.f32:=by kernel_rfl
 refine aw (af _) (lv:=fun _=>[13]) (K:=3) rfl rfl ?_ M
 simp[ab,hG,Tryz.f32,aC,dS]
theorem CZ(M:Mem):ACallsTo Tryz.prog 84 [.nilslice,.nilslice] M (.bool true) M:=by
 have hG:aI Tryz.prog 84=some Tryz.f84:=by kernel_rfl
 refine aw (af _) (lv:=fun _=>[13]) (K:=3) rfl rfl ?_ M
 simp[ab,hG,Tryz.f84,aC,dS]
theorem Ia(M:Mem):ACallsTo Tryz.prog 83 [.nilslice,.nilslice] M (.bool true) M:=by
 have h0:∀M,ACallsTo Tryz.prog 114 [.nilslice,.nilslice,.func 82 []] M (.bool true) M:=fun M=>by
  have hG:aI Tryz.prog 114=some Tryz.f114:=by kernel_rfl
  refine aw (af _) (lv:=fun _=>[17]) (K:=3) rfl rfl ?_ M
  simp[ab,hG,Tryz.f114,aC,dS]
 have hO:OracleOk Tryz.prog (ao fun f args=>match f,args with
   |114,[.nilslice,.nilslice,.func 82 []]=>some (.bool true)
   |_,_=>none):=bN fun f args v h mem=>by
  split at h
  ·cases h;exact h0 mem
  ·cases h
 have hG:aI Tryz.prog 83=some Tryz.f83:=by kernel_rfl
 refine aw hO (lv:=fun _=>[]) (K:=3) rfl rfl ?_ M
 simp[ab,hG,Tryz.f83,ao]
end Go.Proofs
namespace Go.Proofs
open Go.Eng
def bE:List (List UInt8):=[[101,48],[101,49],[101,50],[101,51],[101,52],[101,53],[107,48],[107,49],[107,50],[107,51],[107,52],[107,53],[65,49],[65,50],[65,51],[66,49],[66,50],[66,51],[67,49],[67,50],[67,51],[68,49],[68,50],[68,51],[69,49],[69,50],[69,51],[70,49],[70,50],[70,51]]
theorem cz(nm:List UInt8) (h:nm∈bE) (M:Mem):ACallsTo Tryz.prog 80 [.str nm] M (.int .i64 0) M:=by
 refine aw (af _) (lv:=ad) (K:=6) rfl rfl ?_ M
 simp only[bE,List.mem_cons,List.not_mem_nil,or_false] at h
 rcases h with h | h | h | h | h | h | h | h | h | h | h | h | h | h | h | h | h | h | h | h | h | h | h | h | h | h | h | h | h | h<;>(subst h;as_aux_lemma=>kernel_rfl)
theorem dc{i:Nat}(h:i<6):bj i∈bE:=by
 have:i=0∨i=1∨i=2∨i=3∨i=4∨i=5:=by omega
 rcases this with rfl | rfl | rfl | rfl | rfl | rfl<;>decide
theorem uM{i:Nat}(h:i<6):fw i∈bE:=by
 have:i=0∨i=1∨i=2∨i=3∨i=4∨i=5:=by omega
 rcases this with rfl | rfl | rfl | rfl | rfl | rfl<;>decide
theorem fT{i J:Nat}(h:i<6) (hJ:J<3):∀u∈aY i J,u∈bE:=by
 have hi:i=0∨i=1∨i=2∨i=3∨i=4∨i=5:=by omega
 have hj:J=0∨J=1∨J=2:=by omega
 rcases hi with rfl | rfl | rfl | rfl | rfl | rfl<;>rcases hj with rfl | rfl | rfl<;>decide
def lA:List AV:=(List.range 25).map fun i=>.func (149+i) []
theorem CV(M:Mem):ACallsTo Tryz.prog 112 [] M (.agg lA) M:=by
 refine aw (af _) (lv:=ad) (K:=6) rfl rfl ?_ M
 as_aux_lemma=>kernel_rfl
theorem nn{T:TypeId→Option TyI}{O:Oracle}{N m0:Nat}{ops:Array Oper}:∀(a b:List Oper) (s:XS),bt T O N m0 ops (a++b) s=(bt T O N m0 ops a s).bind (bt T O N m0 ops b)
 | [],b,s=>rfl
 |o::a,b,s=>by
  rw[List.cons_append,bt,bt]
  split
  ·split
   ·split
    ·exact nn a b _
    ·rfl
   ·exact nn a b _
   ·rfl
  ·rfl
theorem aZ{T:TypeId→Option TyI}{O:Oracle}{N m0:Nat}{ops:Array Oper}{a b:List Oper}{s s1:XS}{r:Option XS}(h:bt T O N m0 ops a s=some s1) (h2:bt T O N m0 ops b s1=r):bt T O N m0 ops (a++b) s=r:=by
 rw[nn,h];exact h2
noncomputable def ah:Array Oper:=match Tryz.f49.body with
 |some (.seq _ (.seq (.region _ ops _) _))=>ops
 |_=> #[]
noncomputable def ij:List Oper:=(ah.toList.drop 0).take 6
noncomputable def ik:List Oper:=(ah.toList.drop 6).take 7
noncomputable def il:List Oper:=(ah.toList.drop 13).take 9
noncomputable def im:List Oper:=(ah.toList.drop 22).take 9
noncomputable def io:List Oper:=(ah.toList.drop 31).take 9
noncomputable def ip:List Oper:=(ah.toList.drop 40).take 7
noncomputable def iq:List Oper:=(ah.toList.drop 47).take 9
noncomputable def ir:List Oper:=(ah.toList.drop 56).take 9
noncomputable def iu:List Oper:=(ah.toList.drop 65).take 9
noncomputable def iv:List Oper:=(ah.toList.drop 74).take 7
noncomputable def gp:List Oper:=(ah.toList.drop 81).take 7
theorem uB:ah.toList=ij++(ik++(il++(im++(io++(ip++(iq++(ir++(iu++(iv++(gp)))))))))):=by kernel_rfl
set_option maxRecDepth 4000 in
theorem Ih{O:Oracle}{m0:Nat}{ops:Array Oper}{env:Env}{mem:Mem}{d:Bool}{p q:Nat}{k t1 t2 t3 t4:Int}{nm x5 x6 x7 x8 x9 x10 x11 x12 x13 x14 x16 x17 x18 x19 x20 x21 x22 x23 x24 x29 x30 x31:List UInt8}{b u s kn:AV}(h2:ac env 2=.ptr p 0) (h3:ac env 3=.ptr q 0) (hp:mem[p]? =some (.cells true 0 [.int .i64 k,.str nm,b,u,s,.str x5,.str x6,.str x7,.str x8,.str x9,.str x10,.str x11,.str x12,.str x13,.str x14,kn,.str x16,.str x17,.str x18,.str x19,.str x20,.str x21,.str x22,.str x23,.str x24,.int .i64 t1,.int .i64 t2,.int .i64 t3,.int .i64 t4,.str x29,.str x30,.str x31])) (hq:mem[q]? =some (.cells true 0 [.int .i64 k,.str nm,b,u,s,.str x5,.str x6,.str x7,.str x8,.str x9,.str x10,.str x11,.str x12,.str x13,.str x14,kn,.str x16,.str x17,.str x18,.str x19,.str x20,.str x21,.str x22,.str x23,.str x24,.int .i64 t1,.int .i64 t2,.int .i64 t3,.int .i64 t4,.str x29,.str x30,.str x31])):
  ∃env',bt (az Tryz.prog) O 92 m0 ops ij ⟨env,mem,d⟩=some ⟨env',mem,d⟩∧ac env' 2=.ptr p 0∧ac env' 3=.ptr q 0∧ac env' 10=.bool true:=by
 have e0:=fun d=>rB d
 simp[ij,ah,Tryz.f49,h2,h3,hp,hq,e0]
set_option maxRecDepth 4000 in
theorem Ii{O:Oracle}{m0:Nat}{ops:Array Oper}{env:Env}{mem:Mem}{d:Bool}{p q:Nat}{k t1 t2 t3 t4:Int}{nm x5 x6 x7 x8 x9 x10 x11 x12 x13 x14 x16 x17 x18 x19 x20 x21 x22 x23 x24 x29 x30 x31:List UInt8}{b u s kn:AV}(h2:ac env 2=.ptr p 0) (h3:ac env 3=.ptr q 0) (hp:mem[p]? =some (.cells true 0 [.int .i64 k,.str nm,b,u,s,.str x5,.str x6,.str x7,.str x8,.str x9,.str x10,.str x11,.str x12,.str x13,.str x14,kn,.str x16,.str x17,.str x18,.str x19,.str x20,.str x21,.str x22,.str x23,.str x24,.int .i64 t1,.int .i64 t2,.int .i64 t3,.int .i64 t4,.str x29,.str x30,.str x31])) (hq:mem[q]? =some (.cells true 0 [.int .i64 k,.str nm,b,u,s,.str x5,.str x6,.str x7,.str x8,.str x9,.str x10,.str x11,.str x12,.str x13,.str x14,kn,.str x16,.str x17,.str x18,.str x19,.str x20,.str x21,.str x22,.str x23,.str x24,.int .i64 t1,.int .i64 t2,.int .i64 t3,.int .i64 t4,.str x29,.str x30,.str x31])) (hg:(ops[5]?).bind (fun x=>x.dst)=some 10) (h1:ac env 10=.bool true):
  ∃env',bt (az Tryz.prog) O 92 m0 ops ik ⟨env,mem,d⟩=some ⟨env',mem,d⟩∧ac env' 2=.ptr p 0∧ac env' 3=.ptr q 0∧ac env' 17=.bool true:=by
 have e1:=fun d=>n9 d
 simp[ik,ah,Tryz.f49,h2,h3,hp,hq,hg,h1,e1]
set_option maxRecDepth 4000 in
theorem Ij{O:Oracle}{m0:Nat}{ops:Array Oper}{env:Env}{mem:Mem}{d:Bool}{p q:Nat}{k t1 t2 t3 t4:Int}{nm x5 x6 x7 x8 x9 x10 x11 x12 x13 x14 x16 x17 x18 x19 x20 x21 x22 x23 x24 x29 x30 x31:List UInt8}{b u s kn:AV}(h2:ac env 2=.ptr p 0) (h3:ac env 3=.ptr q 0) (hp:mem[p]? =some (.cells true 0 [.int .i64 k,.str nm,b,u,s,.str x5,.str x6,.str x7,.str x8,.str x9,.str x10,.str x11,.str x12,.str x13,.str x14,kn,.str x16,.str x17,.str x18,.str x19,.str x20,.str x21,.str x22,.str x23,.str x24,.int .i64 t1,.int .i64 t2,.int .i64 t3,.int .i64 t4,.str x29,.str x30,.str x31])) (hq:mem[q]? =some (.cells true 0 [.int .i64 k,.str nm,b,u,s,.str x5,.str x6,.str x7,.str x8,.str x9,.str x10,.str x11,.str x12,.str x13,.str x14,kn,.str x16,.str x17,.str x18,.str x19,.str x20,.str x21,.str x22,.str x23,.str x24,.int .i64 t1,.int .i64 t2,.int .i64 t3,.int .i64 t4,.str x29,.str x30,.str x31])) (hg:(ops[12]?).bind (fun x=>x.dst)=some 17) (h1:ac env 17=.bool true) (hO:O (.fn 82) [b,b] mem=some ⟨.bool true,none,[]⟩):
  ∃env',bt (az Tryz.prog) O 92 m0 ops il ⟨env,mem,d⟩=some ⟨env',mem,d⟩∧ac env' 2=.ptr p 0∧ac env' 3=.ptr q 0∧ac env' 26=.bool true:=by
 simp[il,ah,Tryz.f49,h2,h3,hp,hq,hg,h1,hO]
set_option maxRecDepth 4000 in
theorem Ik{O:Oracle}{m0:Nat}{ops:Array Oper}{env:Env}{mem:Mem}{d:Bool}{p q:Nat}{k t1 t2 t3 t4:Int}{nm x5 x6 x7 x8 x9 x10 x11 x12 x13 x14 x16 x17 x18 x19 x20 x21 x22 x23 x24 x29 x30 x31:List UInt8}{b u s kn:AV}(h2:ac env 2=.ptr p 0) (h3:ac env 3=.ptr q 0) (hp:mem[p]? =some (.cells true 0 [.int .i64 k,.str nm,b,u,s,.str x5,.str x6,.str x7,.str x8,.str x9,.str x10,.str x11,.str x12,.str x13,.str x14,kn,.str x16,.str x17,.str x18,.str x19,.str x20,.str x21,.str x22,.str x23,.str x24,.int .i64 t1,.int .i64 t2,.int .i64 t3,.int .i64 t4,.str x29,.str x30,.str x31])) (hq:mem[q]? =some (.cells true 0 [.int .i64 k,.str nm,b,u,s,.str x5,.str x6,.str x7,.str x8,.str x9,.str x10,.str x11,.str x12,.str x13,.str x14,kn,.str x16,.str x17,.str x18,.str x19,.str x20,.str x21,.str x22,.str x23,.str x24,.int .i64 t1,.int .i64 t2,.int .i64 t3,.int .i64 t4,.str x29,.str x30,.str x31])) (hg:(ops[21]?).bind (fun x=>x.dst)=some 26) (h1:ac env 26=.bool true) (hO:O (.fn 32) [u,u] mem=some ⟨.bool true,none,[]⟩):
  ∃env',bt (az Tryz.prog) O 92 m0 ops im ⟨env,mem,d⟩=some ⟨env',mem,d⟩∧ac env' 2=.ptr p 0∧ac env' 3=.ptr q 0∧ac env' 35=.bool true:=by
 simp[im,ah,Tryz.f49,h2,h3,hp,hq,hg,h1,hO]
set_option maxRecDepth 4000 in
theorem Il{O:Oracle}{m0:Nat}{ops:Array Oper}{env:Env}{mem:Mem}{d:Bool}{p q:Nat}{k t1 t2 t3 t4:Int}{nm x5 x6 x7 x8 x9 x10 x11 x12 x13 x14 x16 x17 x18 x19 x20 x21 x22 x23 x24 x29 x30 x31:List UInt8}{b u s kn:AV}(h2:ac env 2=.ptr p 0) (h3:ac env 3=.ptr q 0) (hp:mem[p]? =some (.cells true 0 [.int .i64 k,.str nm,b,u,s,.str x5,.str x6,.str x7,.str x8,.str x9,.str x10,.str x11,.str x12,.str x13,.str x14,kn,.str x16,.str x17,.str x18,.str x19,.str x20,.str x21,.str x22,.str x23,.str x24,.int .i64 t1,.int .i64 t2,.int .i64 t3,.int .i64 t4,.str x29,.str x30,.str x31])) (hq:mem[q]? =some (.cells true 0 [.int .i64 k,.str nm,b,u,s,.str x5,.str x6,.str x7,.str x8,.str x9,.str x10,.str x11,.str x12,.str x13,.str x14,kn,.str x16,.str x17,.str x18,.str x19,.str x20,.str x21,.str x22,.str x23,.str x24,.int .i64 t1,.int .i64 t2,.int .i64 t3,.int .i64 t4,.str x29,.str x30,.str x31])) (hg:(ops[30]?).bind (fun x=>x.dst)=some 35) (h1:ac env 35=.bool true) (hO:O (.fn 83) [s,s] mem=some ⟨.bool true,none,[]⟩):
  ∃env',bt (az Tryz.prog) O 92 m0 ops io ⟨env,mem,d⟩=some ⟨env',mem,d⟩∧ac env' 2=.ptr p 0∧ac env' 3=.ptr q 0∧ac env' 44=.bool true:=by
 simp[io,ah,Tryz.f49,h2,h3,hp,hq,hg,h1,hO]
set_option maxRecDepth 4000 in
theorem Im{O:Oracle}{m0:Nat}{ops:Array Oper}{env:Env}{mem:Mem}{d:Bool}{p q:Nat}{k t1 t2 t3 t4:Int}{nm x5 x6 x7 x8 x9 x10 x11 x12 x13 x14 x16 x17 x18 x19 x20 x21 x22 x23 x24 x29 x30 x31:List UInt8}{b u s kn:AV}(h2:ac env 2=.ptr p 0) (h3:ac env 3=.ptr q 0) (hp:mem[p]? =some (.cells true 0 [.int .i64 k,.str nm,b,u,s,.str x5,.str x6,.str x7,.str x8,.str x9,.str x10,.str x11,.str x12,.str x13,.str x14,kn,.str x16,.str x17,.str x18,.str x19,.str x20,.str x21,.str x22,.str x23,.str x24,.int .i64 t1,.int .i64 t2,.int .i64 t3,.int .i64 t4,.str x29,.str x30,.str x31])) (hq:mem[q]? =some (.cells true 0 [.int .i64 k,.str nm,b,u,s,.str x5,.str x6,.str x7,.str x8,.str x9,.str x10,.str x11,.str x12,.str x13,.str x14,kn,.str x16,.str x17,.str x18,.str x19,.str x20,.str x21,.str x22,.str x23,.str x24,.int .i64 t1,.int .i64 t2,.int .i64 t3,.int .i64 t4,.str x29,.str x30,.str x31])) (hg:(ops[39]?).bind (fun x=>x.dst)=some 44) (h1:ac env 44=.bool true):
  ∃env',bt (az Tryz.prog) O 92 m0 ops ip ⟨env,mem,d⟩=some ⟨env',mem,d⟩∧ac env' 2=.ptr p 0∧ac env' 3=.ptr q 0∧ac env' 51=.bool true:=by
 have e2:=fun d=>uA d
 simp[ip,ah,Tryz.f49,h2,h3,hp,hq,hg,h1,e2]
set_option maxRecDepth 4000 in
theorem In{O:Oracle}{m0:Nat}{ops:Array Oper}{env:Env}{mem:Mem}{d:Bool}{p q:Nat}{k t1 t2 t3 t4:Int}{nm x5 x6 x7 x8 x9 x10 x11 x12 x13 x14 x16 x17 x18 x19 x20 x21 x22 x23 x24 x29 x30 x31:List UInt8}{b u s kn:AV}(h2:ac env 2=.ptr p 0) (h3:ac env 3=.ptr q 0) (hp:mem[p]? =some (.cells true 0 [.int .i64 k,.str nm,b,u,s,.str x5,.str x6,.str x7,.str x8,.str x9,.str x10,.str x11,.str x12,.str x13,.str x14,kn,.str x16,.str x17,.str x18,.str x19,.str x20,.str x21,.str x22,.str x23,.str x24,.int .i64 t1,.int .i64 t2,.int .i64 t3,.int .i64 t4,.str x29,.str x30,.str x31])) (hq:mem[q]? =some (.cells true 0 [.int .i64 k,.str nm,b,u,s,.str x5,.str x6,.str x7,.str x8,.str x9,.str x10,.str x11,.str x12,.str x13,.str x14,kn,.str x16,.str x17,.str x18,.str x19,.str x20,.str x21,.str x22,.str x23,.str x24,.int .i64 t1,.int .i64 t2,.int .i64 t3,.int .i64 t4,.str x29,.str x30,.str x31])) (hg:(ops[46]?).bind (fun x=>x.dst)=some 51) (h1:ac env 51=.bool true):
  ∃env',bt (az Tryz.prog) O 92 m0 ops iq ⟨env,mem,d⟩=some ⟨env',mem,d⟩∧ac env' 2=.ptr p 0∧ac env' 3=.ptr q 0∧ac env' 60=.bool true:=by
 have e3:=fun d=>gH d
 simp[iq,ah,Tryz.f49,h2,h3,hp,hq,hg,h1,e3]
set_option maxRecDepth 4000 in
theorem Io{O:Oracle}{m0:Nat}{ops:Array Oper}{env:Env}{mem:Mem}{d:Bool}{p q:Nat}{k t1 t2 t3 t4:Int}{nm x5 x6 x7 x8 x9 x10 x11 x12 x13 x14 x16 x17 x18 x19 x20 x21 x22 x23 x24 x29 x30 x31:List UInt8}{b u s kn:AV}(h2:ac env 2=.ptr p 0) (h3:ac env 3=.ptr q 0) (hp:mem[p]? =some (.cells true 0 [.int .i64 k,.str nm,b,u,s,.str x5,.str x6,.str x7,.str x8,.str x9,.str x10,.str x11,.str x12,.str x13,.str x14,kn,.str x16,.str x17,.str x18,.str x19,.str x20,.str x21,.str x22,.str x23,.str x24,.int .i64 t1,.int .i64 t2,.int .i64 t3,.int .i64 t4,.str x29,.str x30,.str x31])) (hq:mem[q]? =some (.cells true 0 [.int .i64 k,.str nm,b,u,s,.str x5,.str x6,.str x7,.str x8,.str x9,.str x10,.str x11,.str x12,.str x13,.str x14,kn,.str x16,.str x17,.str x18,.str x19,.str x20,.str x21,.str x22,.str x23,.str x24,.int .i64 t1,.int .i64 t2,.int .i64 t3,.int .i64 t4,.str x29,.str x30,.str x31])) (hg:(ops[55]?).bind (fun x=>x.dst)=some 60) (h1:ac env 60=.bool true) (hO:O (.fn 84) [kn,kn] mem=some ⟨.bool true,none,[]⟩):
  ∃env',bt (az Tryz.prog) O 92 m0 ops ir ⟨env,mem,d⟩=some ⟨env',mem,d⟩∧ac env' 2=.ptr p 0∧ac env' 3=.ptr q 0∧ac env' 69=.bool true:=by
 simp[ir,ah,Tryz.f49,h2,h3,hp,hq,hg,h1,hO]
set_option maxRecDepth 4000 in
theorem Ip{O:Oracle}{m0:Nat}{ops:Array Oper}{env:Env}{mem:Mem}{d:Bool}{p q:Nat}{k t1 t2 t3 t4:Int}{nm x5 x6 x7 x8 x9 x10 x11 x12 x13 x14 x16 x17 x18 x19 x20 x21 x22 x23 x24 x29 x30 x31:List UInt8}{b u s kn:AV}(h2:ac env 2=.ptr p 0) (h3:ac env 3=.ptr q 0) (hp:mem[p]? =some (.cells true 0 [.int .i64 k,.str nm,b,u,s,.str x5,.str x6,.str x7,.str x8,.str x9,.str x10,.str x11,.str x12,.str x13,.str x14,kn,.str x16,.str x17,.str x18,.str x19,.str x20,.str x21,.str x22,.str x23,.str x24,.int .i64 t1,.int .i64 t2,.int .i64 t3,.int .i64 t4,.str x29,.str x30,.str x31])) (hq:mem[q]? =some (.cells true 0 [.int .i64 k,.str nm,b,u,s,.str x5,.str x6,.str x7,.str x8,.str x9,.str x10,.str x11,.str x12,.str x13,.str x14,kn,.str x16,.str x17,.str x18,.str x19,.str x20,.str x21,.str x22,.str x23,.str x24,.int .i64 t1,.int .i64 t2,.int .i64 t3,.int .i64 t4,.str x29,.str x30,.str x31])) (hg:(ops[64]?).bind (fun x=>x.dst)=some 69) (h1:ac env 69=.bool true):
  ∃env',bt (az Tryz.prog) O 92 m0 ops iu ⟨env,mem,d⟩=some ⟨env',mem,d⟩∧ac env' 2=.ptr p 0∧ac env' 3=.ptr q 0∧ac env' 78=.bool true:=by
 have e3:=fun d=>gH d
 simp[iu,ah,Tryz.f49,h2,h3,hp,hq,hg,h1,e3]
set_option maxRecDepth 4000 in
theorem Iq{O:Oracle}{m0:Nat}{ops:Array Oper}{env:Env}{mem:Mem}{d:Bool}{p q:Nat}{k t1 t2 t3 t4:Int}{nm x5 x6 x7 x8 x9 x10 x11 x12 x13 x14 x16 x17 x18 x19 x20 x21 x22 x23 x24 x29 x30 x31:List UInt8}{b u s kn:AV}(h2:ac env 2=.ptr p 0) (h3:ac env 3=.ptr q 0) (hp:mem[p]? =some (.cells true 0 [.int .i64 k,.str nm,b,u,s,.str x5,.str x6,.str x7,.str x8,.str x9,.str x10,.str x11,.str x12,.str x13,.str x14,kn,.str x16,.str x17,.str x18,.str x19,.str x20,.str x21,.str x22,.str x23,.str x24,.int .i64 t1,.int .i64 t2,.int .i64 t3,.int .i64 t4,.str x29,.str x30,.str x31])) (hq:mem[q]? =some (.cells true 0 [.int .i64 k,.str nm,b,u,s,.str x5,.str x6,.str x7,.str x8,.str x9,.str x10,.str x11,.str x12,.str x13,.str x14,kn,.str x16,.str x17,.str x18,.str x19,.str x20,.str x21,.str x22,.str x23,.str x24,.int .i64 t1,.int .i64 t2,.int .i64 t3,.int .i64 t4,.str x29,.str x30,.str x31])) (hg:(ops[73]?).bind (fun x=>x.dst)=some 78) (h1:ac env 78=.bool true):
  ∃env',bt (az Tryz.prog) O 92 m0 ops iv ⟨env,mem,d⟩=some ⟨env',mem,d⟩∧ac env' 2=.ptr p 0∧ac env' 3=.ptr q 0∧ac env' 85=.bool true:=by
 have e4:=fun d=>xz d
 simp[iv,ah,Tryz.f49,h2,h3,hp,hq,hg,h1,e4]
set_option maxRecDepth 4000 in
theorem Dq{O:Oracle}{m0:Nat}{ops:Array Oper}{env:Env}{mem:Mem}{d:Bool}{p q:Nat}{k t1 t2 t3 t4:Int}{nm x5 x6 x7 x8 x9 x10 x11 x12 x13 x14 x16 x17 x18 x19 x20 x21 x22 x23 x24 x29 x30 x31:List UInt8}{b u s kn:AV}(h2:ac env 2=.ptr p 0) (h3:ac env 3=.ptr q 0) (hp:mem[p]? =some (.cells true 0 [.int .i64 k,.str nm,b,u,s,.str x5,.str x6,.str x7,.str x8,.str x9,.str x10,.str x11,.str x12,.str x13,.str x14,kn,.str x16,.str x17,.str x18,.str x19,.str x20,.str x21,.str x22,.str x23,.str x24,.int .i64 t1,.int .i64 t2,.int .i64 t3,.int .i64 t4,.str x29,.str x30,.str x31])) (hq:mem[q]? =some (.cells true 0 [.int .i64 k,.str nm,b,u,s,.str x5,.str x6,.str x7,.str x8,.str x9,.str x10,.str x11,.str x12,.str x13,.str x14,kn,.str x16,.str x17,.str x18,.str x19,.str x20,.str x21,.str x22,.str x23,.str x24,.int .i64 t1,.int .i64 t2,.int .i64 t3,.int .i64 t4,.str x29,.str x30,.str x31])) (hg:(ops[80]?).bind (fun x=>x.dst)=some 85) (h1:ac env 85=.bool true):
  ∃env',bt (az Tryz.prog) O 92 m0 ops gp ⟨env,mem,d⟩=some ⟨env',mem,d⟩∧ac env' 2=.ptr p 0∧ac env' 3=.ptr q 0∧ac env' 4=.bool true:=by
 have e5:=fun d=>xB d
 simp[gp,ah,Tryz.f49,h2,h3,hp,hq,hg,h1,e5]
theorem KO{O:Oracle}{m0:Nat}{env:Env}{mem:Mem}{d:Bool}{p q:Nat}{k t1 t2 t3 t4:Int}{nm x5 x6 x7 x8 x9 x10 x11 x12 x13 x14 x16 x17 x18 x19 x20 x21 x22 x23 x24 x29 x30 x31:List UInt8}{b u s kn:AV}(h2:ac env 2=.ptr p 0) (h3:ac env 3=.ptr q 0) (hp:mem[p]? =some (.cells true 0 [.int .i64 k,.str nm,b,u,s,.str x5,.str x6,.str x7,.str x8,.str x9,.str x10,.str x11,.str x12,.str x13,.str x14,kn,.str x16,.str x17,.str x18,.str x19,.str x20,.str x21,.str x22,.str x23,.str x24,.int .i64 t1,.int .i64 t2,.int .i64 t3,.int .i64 t4,.str x29,.str x30,.str x31])) (hq:mem[q]? =some (.cells true 0 [.int .i64 k,.str nm,b,u,s,.str x5,.str x6,.str x7,.str x8,.str x9,.str x10,.str x11,.str x12,.str x13,.str x14,kn,.str x16,.str x17,.str x18,.str x19,.str x20,.str x21,.str x22,.str x23,.str x24,.int .i64 t1,.int .i64 t2,.int .i64 t3,.int .i64 t4,.str x29,.str x30,.str x31])) (hO2:O (.fn 82) [b,b] mem=some ⟨.bool true,none,[]⟩) (hO3:O (.fn 32) [u,u] mem=some ⟨.bool true,none,[]⟩) (hO4:O (.fn 83) [s,s] mem=some ⟨.bool true,none,[]⟩) (hO7:O (.fn 84) [kn,kn] mem=some ⟨.bool true,none,[]⟩):
  ∃env',bt (az Tryz.prog) O 92 m0 ah ah.toList ⟨env,mem,d⟩=some ⟨env',mem,d⟩∧ac env' 4=.bool true:=by
 have g1:(ah[5]?).bind (fun x=>x.dst)=some 10:=by kernel_rfl
 have g2:(ah[12]?).bind (fun x=>x.dst)=some 17:=by kernel_rfl
 have g3:(ah[21]?).bind (fun x=>x.dst)=some 26:=by kernel_rfl
 have g4:(ah[30]?).bind (fun x=>x.dst)=some 35:=by kernel_rfl
 have g5:(ah[39]?).bind (fun x=>x.dst)=some 44:=by kernel_rfl
 have g6:(ah[46]?).bind (fun x=>x.dst)=some 51:=by kernel_rfl
 have g7:(ah[55]?).bind (fun x=>x.dst)=some 60:=by kernel_rfl
 have g8:(ah[64]?).bind (fun x=>x.dst)=some 69:=by kernel_rfl
 have g9:(ah[73]?).bind (fun x=>x.dst)=some 78:=by kernel_rfl
 have g10:(ah[80]?).bind (fun x=>x.dst)=some 85:=by kernel_rfl
 obtain⟨e0,r0,h2_0,h3_0,b0⟩:=Ih (O:=O) (m0:=m0) (ops:=ah) (d:=d) h2 h3 hp hq
 obtain⟨e1,r1,h2_1,h3_1,b1⟩:=Ii (O:=O) (m0:=m0) (ops:=ah) (d:=d) h2_0 h3_0 hp hq g1 b0
 obtain⟨e2,r2,h2_2,h3_2,b2⟩:=Ij (O:=O) (m0:=m0) (ops:=ah) (d:=d) h2_1 h3_1 hp hq g2 b1 hO2
 obtain⟨e3,r3,h2_3,h3_3,b3⟩:=Ik (O:=O) (m0:=m0) (ops:=ah) (d:=d) h2_2 h3_2 hp hq g3 b2 hO3
 obtain⟨e4,r4,h2_4,h3_4,b4⟩:=Il (O:=O) (m0:=m0) (ops:=ah) (d:=d) h2_3 h3_3 hp hq g4 b3 hO4
 obtain⟨e5,r5,h2_5,h3_5,b5⟩:=Im (O:=O) (m0:=m0) (ops:=ah) (d:=d) h2_4 h3_4 hp hq g5 b4
 obtain⟨e6,r6,h2_6,h3_6,b6⟩:=In (O:=O) (m0:=m0) (ops:=ah) (d:=d) h2_5 h3_5 hp hq g6 b5
 obtain⟨e7,r7,h2_7,h3_7,b7⟩:=Io (O:=O) (m0:=m0) (ops:=ah) (d:=d) h2_6 h3_6 hp hq g7 b6 hO7
 obtain⟨e8,r8,h2_8,h3_8,b8⟩:=Ip (O:=O) (m0:=m0) (ops:=ah) (d:=d) h2_7 h3_7 hp hq g8 b7
 obtain⟨e9,r9,h2_9,h3_9,b9⟩:=Iq (O:=O) (m0:=m0) (ops:=ah) (d:=d) h2_8 h3_8 hp hq g9 b8
 obtain⟨e10,r10,h2_10,h3_10,b10⟩:=Dq (O:=O) (m0:=m0) (ops:=ah) (d:=d) h2_9 h3_9 hp hq g10 b9
 exact⟨e10,by rw[uB];exact aZ r0 (aZ r1 (aZ r2 (aZ r3 (aZ r4 (aZ r5 (aZ r6 (aZ r7 (aZ r8 (aZ r9 (r10)))))))))),b10⟩
noncomputable def mc:Array Oper:=match Tryz.f49.body with
 |some (.seq (.region _ ops _) _)=>ops
 |_=> #[]
set_option maxRecDepth 4000 in
theorem gD{O:Oracle}(hOk:OracleOk Tryz.prog O) {m:Mem}{k t1 t2 t3 t4:Int}{nm x5 x6 x7 x8 x9 x10 x11 x12 x13 x14 x16 x17 x18 x19 x20 x21 x22 x23 x24 x29 x30 x31:List UInt8}{b u s kn:AV}(hO2:O (.fn 82) [b,b] (m++[.cells true 0 [.int .i64 k,.str nm,b,u,s,.str x5,.str x6,.str x7,.str x8,.str x9,.str x10,.str x11,.str x12,.str x13,.str x14,kn,.str x16,.str x17,.str x18,.str x19,.str x20,.str x21,.str x22,.str x23,.str x24,.int .i64 t1,.int .i64 t2,.int .i64 t3,.int .i64 t4,.str x29,.str x30,.str x31],.cells true 0 [.int .i64 k,.str nm,b,u,s,.str x5,.str x6,.str x7,.str x8,.str x9,.str x10,.str x11,.str x12,.str x13,.str x14,kn,.str x16,.str x17,.str x18,.str x19,.str x20,.str x21,.str x22,.str x23,.str x24,.int .i64 t1,.int .i64 t2,.int .i64 t3,.int .i64 t4,.str x29,.str x30,.str x31]])=some ⟨.bool true,none,[]⟩) (hO3:O (.fn 32) [u,u] (m++[.cells true 0 [.int .i64 k,.str nm,b,u,s,.str x5,.str x6,.str x7,.str x8,.str x9,.str x10,.str x11,.str x12,.str x13,.str x14,kn,.str x16,.str x17,.str x18,.str x19,.str x20,.str x21,.str x22,.str x23,.str x24,.int .i64 t1,.int .i64 t2,.int .i64 t3,.int .i64 t4,.str x29,.str x30,.str x31],.cells true 0 [.int .i64 k,.str nm,b,u,s,.str x5,.str x6,.str x7,.str x8,.str x9,.str x10,.str x11,.str x12,.str x13,.str x14,kn,.str x16,.str x17,.str x18,.str x19,.str x20,.str x21,.str x22,.str x23,.str x24,.int .i64 t1,.int .i64 t2,.int .i64 t3,.int .i64 t4,.str x29,.str x30,.str x31]])=some ⟨.bool true,none,[]⟩) (hO4:O (.fn 83) [s,s] (m++[.cells true 0 [.int .i64 k,.str nm,b,u,s,.str x5,.str x6,.str x7,.str x8,.str x9,.str x10,.str x11,.str x12,.str x13,.str x14,kn,.str x16,.str x17,.str x18,.str x19,.str x20,.str x21,.str x22,.str x23,.str x24,.int .i64 t1,.int .i64 t2,.int .i64 t3,.int .i64 t4,.str x29,.str x30,.str x31],.cells true 0 [.int .i64 k,.str nm,b,u,s,.str x5,.str x6,.str x7,.str x8,.str x9,.str x10,.str x11,.str x12,.str x13,.str x14,kn,.str x16,.str x17,.str x18,.str x19,.str x20,.str x21,.str x22,.str x23,.str x24,.int .i64 t1,.int .i64 t2,.int .i64 t3,.int .i64 t4,.str x29,.str x30,.str x31]])=some ⟨.bool true,none,[]⟩) (hO7:O (.fn 84) [kn,kn] (m++[.cells true 0 [.int .i64 k,.str nm,b,u,s,.str x5,.str x6,.str x7,.str x8,.str x9,.str x10,.str x11,.str x12,.str x13,.str x14,kn,.str x16,.str x17,.str x18,.str x19,.str x20,.str x21,.str x22,.str x23,.str x24,.int .i64 t1,.int .i64 t2,.int .i64 t3,.int .i64 t4,.str x29,.str x30,.str x31],.cells true 0 [.int .i64 k,.str nm,b,u,s,.str x5,.str x6,.str x7,.str x8,.str x9,.str x10,.str x11,.str x12,.str x13,.str x14,kn,.str x16,.str x17,.str x18,.str x19,.str x20,.str x21,.str x22,.str x23,.str x24,.int .i64 t1,.int .i64 t2,.int .i64 t3,.int .i64 t4,.str x29,.str x30,.str x31]])=some ⟨.bool true,none,[]⟩):
  ACallsTo Tryz.prog 49 [.agg [.int .i64 k,.str nm,b,u,s,.str x5,.str x6,.str x7,.str x8,.str x9,.str x10,.str x11,.str x12,.str x13,.str x14,kn,.str x16,.str x17,.str x18,.str x19,.str x20,.str x21,.str x22,.str x23,.str x24,.int .i64 t1,.int .i64 t2,.int .i64 t3,.int .i64 t4,.str x29,.str x30,.str x31],.agg [.int .i64 k,.str nm,b,u,s,.str x5,.str x6,.str x7,.str x8,.str x9,.str x10,.str x11,.str x12,.str x13,.str x14,kn,.str x16,.str x17,.str x18,.str x19,.str x20,.str x21,.str x22,.str x23,.str x24,.int .i64 t1,.int .i64 t2,.int .i64 t3,.int .i64 t4,.str x29,.str x30,.str x31]] m (.bool true) m:=by
 have hG:aI Tryz.prog 49=some Tryz.f49:=by kernel_rfl
 obtain⟨ops,hops⟩:∃o,o=ah:=⟨_,rfl⟩
 obtain⟨F,hF⟩:=kX (p:=fun e (_:Bool)=>ac e 2=.ptr m.length 0∧ac e 3=.ptr (m.length+1) 0) (q:=fun env (_:Bool) env' =>bt (az Tryz.prog) O 92 m.length ops ops.toList ⟨env,(m++[.cells true 0 [.int .i64 k,.str nm,b,u,s,.str x5,.str x6,.str x7,.str x8,.str x9,.str x10,.str x11,.str x12,.str x13,.str x14,kn,.str x16,.str x17,.str x18,.str x19,.str x20,.str x21,.str x22,.str x23,.str x24,.int .i64 t1,.int .i64 t2,.int .i64 t3,.int .i64 t4,.str x29,.str x30,.str x31],.cells true 0 [.int .i64 k,.str nm,b,u,s,.str x5,.str x6,.str x7,.str x8,.str x9,.str x10,.str x11,.str x12,.str x13,.str x14,kn,.str x16,.str x17,.str x18,.str x19,.str x20,.str x21,.str x22,.str x23,.str x24,.int .i64 t1,.int .i64 t2,.int .i64 t3,.int .i64 t4,.str x29,.str x30,.str x31]]),false⟩=some ⟨env',(m++[.cells true 0 [.int .i64 k,.str nm,b,u,s,.str x5,.str x6,.str x7,.str x8,.str x9,.str x10,.str x11,.str x12,.str x13,.str x14,kn,.str x16,.str x17,.str x18,.str x19,.str x20,.str x21,.str x22,.str x23,.str x24,.int .i64 t1,.int .i64 t2,.int .i64 t3,.int .i64 t4,.str x29,.str x30,.str x31],.cells true 0 [.int .i64 k,.str nm,b,u,s,.str x5,.str x6,.str x7,.str x8,.str x9,.str x10,.str x11,.str x12,.str x13,.str x14,kn,.str x16,.str x17,.str x18,.str x19,.str x20,.str x21,.str x22,.str x23,.str x24,.int .i64 t1,.int .i64 t2,.int .i64 t3,.int .i64 t4,.str x29,.str x30,.str x31]]),false⟩∧ac env' 4=.bool true) (fun env _ h=>by
  subst hops
  have hp:((m++[.cells true 0 [.int .i64 k,.str nm,b,u,s,.str x5,.str x6,.str x7,.str x8,.str x9,.str x10,.str x11,.str x12,.str x13,.str x14,kn,.str x16,.str x17,.str x18,.str x19,.str x20,.str x21,.str x22,.str x23,.str x24,.int .i64 t1,.int .i64 t2,.int .i64 t3,.int .i64 t4,.str x29,.str x30,.str x31],.cells true 0 [.int .i64 k,.str nm,b,u,s,.str x5,.str x6,.str x7,.str x8,.str x9,.str x10,.str x11,.str x12,.str x13,.str x14,kn,.str x16,.str x17,.str x18,.str x19,.str x20,.str x21,.str x22,.str x23,.str x24,.int .i64 t1,.int .i64 t2,.int .i64 t3,.int .i64 t4,.str x29,.str x30,.str x31]]))[m.length]? =some (.cells true 0 [.int .i64 k,.str nm,b,u,s,.str x5,.str x6,.str x7,.str x8,.str x9,.str x10,.str x11,.str x12,.str x13,.str x14,kn,.str x16,.str x17,.str x18,.str x19,.str x20,.str x21,.str x22,.str x23,.str x24,.int .i64 t1,.int .i64 t2,.int .i64 t3,.int .i64 t4,.str x29,.str x30,.str x31]):=by simp
  have hq:((m++[.cells true 0 [.int .i64 k,.str nm,b,u,s,.str x5,.str x6,.str x7,.str x8,.str x9,.str x10,.str x11,.str x12,.str x13,.str x14,kn,.str x16,.str x17,.str x18,.str x19,.str x20,.str x21,.str x22,.str x23,.str x24,.int .i64 t1,.int .i64 t2,.int .i64 t3,.int .i64 t4,.str x29,.str x30,.str x31],.cells true 0 [.int .i64 k,.str nm,b,u,s,.str x5,.str x6,.str x7,.str x8,.str x9,.str x10,.str x11,.str x12,.str x13,.str x14,kn,.str x16,.str x17,.str x18,.str x19,.str x20,.str x21,.str x22,.str x23,.str x24,.int .i64 t1,.int .i64 t2,.int .i64 t3,.int .i64 t4,.str x29,.str x30,.str x31]]))[m.length+1]? =some (.cells true 0 [.int .i64 k,.str nm,b,u,s,.str x5,.str x6,.str x7,.str x8,.str x9,.str x10,.str x11,.str x12,.str x13,.str x14,kn,.str x16,.str x17,.str x18,.str x19,.str x20,.str x21,.str x22,.str x23,.str x24,.int .i64 t1,.int .i64 t2,.int .i64 t3,.int .i64 t4,.str x29,.str x30,.str x31]):=by simp
  exact KO h.1 h.2 hp hq hO2 hO3 hO4 hO7)
 have hF1:=fun env h2 h3=>(hF env false ⟨h2,h3⟩).1
 have hF2:=fun env h2 h3=>(hF env false ⟨h2,h3⟩).2
 have h:ab (az Tryz.prog) (fun _=>[]) (aI Tryz.prog) O 1 49 [.agg [.int .i64 k,.str nm,b,u,s,.str x5,.str x6,.str x7,.str x8,.str x9,.str x10,.str x11,.str x12,.str x13,.str x14,kn,.str x16,.str x17,.str x18,.str x19,.str x20,.str x21,.str x22,.str x23,.str x24,.int .i64 t1,.int .i64 t2,.int .i64 t3,.int .i64 t4,.str x29,.str x30,.str x31],.agg [.int .i64 k,.str nm,b,u,s,.str x5,.str x6,.str x7,.str x8,.str x9,.str x10,.str x11,.str x12,.str x13,.str x14,kn,.str x16,.str x17,.str x18,.str x19,.str x20,.str x21,.str x22,.str x23,.str x24,.int .i64 t1,.int .i64 t2,.int .i64 t3,.int .i64 t4,.str x29,.str x30,.str x31]] m=some ⟨.bool true,none,[]⟩:=by
  have hb:Tryz.f49.body=some (.seq (.region 0 mc false) (.seq (.region 1 ops false) .ret)):=by rw[hops];kernel_rfl
  unfold ab
  rw[hG]
  dsimp only
  rw[hb]
  dsimp only
  simp[hF1,hF2,mc,Tryz.f49]
 have:=(ae aa (ai _) hOk (aj _) h).1
 simpa [CallRes.mem] using this
structure Evc where
 k:Int
 nm:List UInt8
 B:List (List UInt8):=[]
 U:List (List UInt8):=[]
 S:List (List (List UInt8)):=[]
 K:List (List UInt8×List UInt8):=[]
 (t1 t2 t3 t4:Int:=0)
 (x5 x6 x7 x8 x9 x10 x11 x12 x13 x14 x16 x17 x18 x19 x20 x21 x22 x23 x24 x29 x30 x31:List UInt8:=[])
def Evc.cells(c:Evc) (b u s kn:AV):List AV:=[.int .i64 c.k,.str c.nm,b,u,s,.str c.x5,.str c.x6,.str c.x7,.str c.x8,.str c.x9,.str c.x10,.str c.x11,.str c.x12,.str c.x13,.str c.x14,kn,.str c.x16,.str c.x17,.str c.x18,.str c.x19,.str c.x20,.str c.x21,.str c.x22,.str c.x23,.str c.x24,.int .i64 c.t1,.int .i64 c.t2,.int .i64 c.t3,.int .i64 c.t4,.str c.x29,.str c.x30,.str c.x31]
set_option maxRecDepth 4000 in
theorem Is{O:Oracle}{m0:Nat}{ops:Array Oper}{env:Env}{mem:Mem}{d:Bool}{p q:Nat}{c:Evc}{b u s kn b' u' s' kn' :AV}(h2:ac env 2=.ptr p 0) (h3:ac env 3=.ptr q 0) (hp:mem[p]? =some (.cells true 0 (c.cells b u s kn))) (hq:mem[q]? =some (.cells true 0 (c.cells b' u' s' kn'))):
  ∃env',bt (az Tryz.prog) O 92 m0 ops ij ⟨env,mem,d⟩=some ⟨env',mem,d⟩∧ac env' 2=.ptr p 0∧ac env' 3=.ptr q 0∧ac env' 10=.bool true:=by
 have e0:=fun d=>rB d
 simp only[Evc.cells] at hp hq
 simp[ij,ah,Tryz.f49,h2,h3,hp,hq,e0]
set_option maxRecDepth 4000 in
theorem It{O:Oracle}{m0:Nat}{ops:Array Oper}{env:Env}{mem:Mem}{d:Bool}{p q:Nat}{c:Evc}{b u s kn b' u' s' kn' :AV}(h2:ac env 2=.ptr p 0) (h3:ac env 3=.ptr q 0) (hp:mem[p]? =some (.cells true 0 (c.cells b u s kn))) (hq:mem[q]? =some (.cells true 0 (c.cells b' u' s' kn'))) (hg:(ops[5]?).bind (fun x=>x.dst)=some 10) (h1:ac env 10=.bool true):
  ∃env',bt (az Tryz.prog) O 92 m0 ops ik ⟨env,mem,d⟩=some ⟨env',mem,d⟩∧ac env' 2=.ptr p 0∧ac env' 3=.ptr q 0∧ac env' 17=.bool true:=by
 have e1:=fun d=>n9 d
 simp only[Evc.cells] at hp hq
 simp[ik,ah,Tryz.f49,h2,h3,hp,hq,hg,h1,e1]
set_option maxRecDepth 4000 in
theorem Iu{O:Oracle}{m0:Nat}{ops:Array Oper}{env:Env}{mem:Mem}{d:Bool}{p q:Nat}{c:Evc}{b u s kn b' u' s' kn' :AV}(h2:ac env 2=.ptr p 0) (h3:ac env 3=.ptr q 0) (hp:mem[p]? =some (.cells true 0 (c.cells b u s kn))) (hq:mem[q]? =some (.cells true 0 (c.cells b' u' s' kn'))) (hg:(ops[12]?).bind (fun x=>x.dst)=some 17) (h1:ac env 17=.bool true) (hO:O (.fn 82) [b,b'] mem=some ⟨.bool true,none,[]⟩):
  ∃env',bt (az Tryz.prog) O 92 m0 ops il ⟨env,mem,d⟩=some ⟨env',mem,d⟩∧ac env' 2=.ptr p 0∧ac env' 3=.ptr q 0∧ac env' 26=.bool true:=by
 simp only[Evc.cells] at hp hq
 simp[il,ah,Tryz.f49,h2,h3,hp,hq,hg,h1,hO]
set_option maxRecDepth 4000 in
theorem Iv{O:Oracle}{m0:Nat}{ops:Array Oper}{env:Env}{mem:Mem}{d:Bool}{p q:Nat}{c:Evc}{b u s kn b' u' s' kn' :AV}(h2:ac env 2=.ptr p 0) (h3:ac env 3=.ptr q 0) (hp:mem[p]? =some (.cells true 0 (c.cells b u s kn))) (hq:mem[q]? =some (.cells true 0 (c.cells b' u' s' kn'))) (hg:(ops[21]?).bind (fun x=>x.dst)=some 26) (h1:ac env 26=.bool true) (hO:O (.fn 32) [u,u'] mem=some ⟨.bool true,none,[]⟩):
  ∃env',bt (az Tryz.prog) O 92 m0 ops im ⟨env,mem,d⟩=some ⟨env',mem,d⟩∧ac env' 2=.ptr p 0∧ac env' 3=.ptr q 0∧ac env' 35=.bool true:=by
 simp only[Evc.cells] at hp hq
 simp[im,ah,Tryz.f49,h2,h3,hp,hq,hg,h1,hO]
set_option maxRecDepth 4000 in
theorem Iw{O:Oracle}{m0:Nat}{ops:Array Oper}{env:Env}{mem:Mem}{d:Bool}{p q:Nat}{c:Evc}{b u s kn b' u' s' kn' :AV}(h2:ac env 2=.ptr p 0) (h3:ac env 3=.ptr q 0) (hp:mem[p]? =some (.cells true 0 (c.cells b u s kn))) (hq:mem[q]? =some (.cells true 0 (c.cells b' u' s' kn'))) (hg:(ops[30]?).bind (fun x=>x.dst)=some 35) (h1:ac env 35=.bool true) (hO:O (.fn 83) [s,s'] mem=some ⟨.bool true,none,[]⟩):
  ∃env',bt (az Tryz.prog) O 92 m0 ops io ⟨env,mem,d⟩=some ⟨env',mem,d⟩∧ac env' 2=.ptr p 0∧ac env' 3=.ptr q 0∧ac env' 44=.bool true:=by
 simp only[Evc.cells] at hp hq
 simp[io,ah,Tryz.f49,h2,h3,hp,hq,hg,h1,hO]
set_option maxRecDepth 4000 in
theorem Ix{O:Oracle}{m0:Nat}{ops:Array Oper}{env:Env}{mem:Mem}{d:Bool}{p q:Nat}{c:Evc}{b u s kn b' u' s' kn' :AV}(h2:ac env 2=.ptr p 0) (h3:ac env 3=.ptr q 0) (hp:mem[p]? =some (.cells true 0 (c.cells b u s kn))) (hq:mem[q]? =some (.cells true 0 (c.cells b' u' s' kn'))) (hg:(ops[39]?).bind (fun x=>x.dst)=some 44) (h1:ac env 44=.bool true):
  ∃env',bt (az Tryz.prog) O 92 m0 ops ip ⟨env,mem,d⟩=some ⟨env',mem,d⟩∧ac env' 2=.ptr p 0∧ac env' 3=.ptr q 0∧ac env' 51=.bool true:=by
 have e2:=fun d=>uA d
 simp only[Evc.cells] at hp hq
 simp[ip,ah,Tryz.f49,h2,h3,hp,hq,hg,h1,e2]
set_option maxRecDepth 4000 in
theorem Iy{O:Oracle}{m0:Nat}{ops:Array Oper}{env:Env}{mem:Mem}{d:Bool}{p q:Nat}{c:Evc}{b u s kn b' u' s' kn' :AV}(h2:ac env 2=.ptr p 0) (h3:ac env 3=.ptr q 0) (hp:mem[p]? =some (.cells true 0 (c.cells b u s kn))) (hq:mem[q]? =some (.cells true 0 (c.cells b' u' s' kn'))) (hg:(ops[46]?).bind (fun x=>x.dst)=some 51) (h1:ac env 51=.bool true):
  ∃env',bt (az Tryz.prog) O 92 m0 ops iq ⟨env,mem,d⟩=some ⟨env',mem,d⟩∧ac env' 2=.ptr p 0∧ac env' 3=.ptr q 0∧ac env' 60=.bool true:=by
 have e3:=fun d=>gH d
 simp only[Evc.cells] at hp hq
 simp[iq,ah,Tryz.f49,h2,h3,hp,hq,hg,h1,e3]
set_option maxRecDepth 4000 in
theorem Iz{O:Oracle}{m0:Nat}{ops:Array Oper}{env:Env}{mem:Mem}{d:Bool}{p q:Nat}{c:Evc}{b u s kn b' u' s' kn' :AV}(h2:ac env 2=.ptr p 0) (h3:ac env 3=.ptr q 0) (hp:mem[p]? =some (.cells true 0 (c.cells b u s kn))) (hq:mem[q]? =some (.cells true 0 (c.cells b' u' s' kn'))) (hg:(ops[55]?).bind (fun x=>x.dst)=some 60) (h1:ac env 60=.bool true) (hO:O (.fn 84) [kn,kn'] mem=some ⟨.bool true,none,[]⟩):
  ∃env',bt (az Tryz.prog) O 92 m0 ops ir ⟨env,mem,d⟩=some ⟨env',mem,d⟩∧ac env' 2=.ptr p 0∧ac env' 3=.ptr q 0∧ac env' 69=.bool true:=by
 simp only[Evc.cells] at hp hq
 simp[ir,ah,Tryz.f49,h2,h3,hp,hq,hg,h1,hO]
set_option maxRecDepth 4000 in
theorem IA{O:Oracle}{m0:Nat}{ops:Array Oper}{env:Env}{mem:Mem}{d:Bool}{p q:Nat}{c:Evc}{b u s kn b' u' s' kn' :AV}(h2:ac env 2=.ptr p 0) (h3:ac env 3=.ptr q 0) (hp:mem[p]? =some (.cells true 0 (c.cells b u s kn))) (hq:mem[q]? =some (.cells true 0 (c.cells b' u' s' kn'))) (hg:(ops[64]?).bind (fun x=>x.dst)=some 69) (h1:ac env 69=.bool true):
  ∃env',bt (az Tryz.prog) O 92 m0 ops iu ⟨env,mem,d⟩=some ⟨env',mem,d⟩∧ac env' 2=.ptr p 0∧ac env' 3=.ptr q 0∧ac env' 78=.bool true:=by
 have e3:=fun d=>gH d
 simp only[Evc.cells] at hp hq
 simp[iu,ah,Tryz.f49,h2,h3,hp,hq,hg,h1,e3]
set_option maxRecDepth 4000 in
theorem IB{O:Oracle}{m0:Nat}{ops:Array Oper}{env:Env}{mem:Mem}{d:Bool}{p q:Nat}{c:Evc}{b u s kn b' u' s' kn' :AV}(h2:ac env 2=.ptr p 0) (h3:ac env 3=.ptr q 0) (hp:mem[p]? =some (.cells true 0 (c.cells b u s kn))) (hq:mem[q]? =some (.cells true 0 (c.cells b' u' s' kn'))) (hg:(ops[73]?).bind (fun x=>x.dst)=some 78) (h1:ac env 78=.bool true):
  ∃env',bt (az Tryz.prog) O 92 m0 ops iv ⟨env,mem,d⟩=some ⟨env',mem,d⟩∧ac env' 2=.ptr p 0∧ac env' 3=.ptr q 0∧ac env' 85=.bool true:=by
 have e4:=fun d=>xz d
 simp only[Evc.cells] at hp hq
 simp[iv,ah,Tryz.f49,h2,h3,hp,hq,hg,h1,e4]
set_option maxRecDepth 4000 in
theorem Dr{O:Oracle}{m0:Nat}{ops:Array Oper}{env:Env}{mem:Mem}{d:Bool}{p q:Nat}{c:Evc}{b u s kn b' u' s' kn' :AV}(h2:ac env 2=.ptr p 0) (h3:ac env 3=.ptr q 0) (hp:mem[p]? =some (.cells true 0 (c.cells b u s kn))) (hq:mem[q]? =some (.cells true 0 (c.cells b' u' s' kn'))) (hg:(ops[80]?).bind (fun x=>x.dst)=some 85) (h1:ac env 85=.bool true):
  ∃env',bt (az Tryz.prog) O 92 m0 ops gp ⟨env,mem,d⟩=some ⟨env',mem,d⟩∧ac env' 2=.ptr p 0∧ac env' 3=.ptr q 0∧ac env' 4=.bool true:=by
 have e5:=fun d=>xB d
 simp only[Evc.cells] at hp hq
 simp[gp,ah,Tryz.f49,h2,h3,hp,hq,hg,h1,e5]
theorem KQ{O:Oracle}{m0:Nat}{env:Env}{mem:Mem}{d:Bool}{p q:Nat}{c:Evc}{b u s kn b' u' s' kn' :AV}(h2:ac env 2=.ptr p 0) (h3:ac env 3=.ptr q 0) (hp:mem[p]? =some (.cells true 0 (c.cells b u s kn))) (hq:mem[q]? =some (.cells true 0 (c.cells b' u' s' kn'))) (hO2:O (.fn 82) [b,b'] mem=some ⟨.bool true,none,[]⟩) (hO3:O (.fn 32) [u,u'] mem=some ⟨.bool true,none,[]⟩) (hO4:O (.fn 83) [s,s'] mem=some ⟨.bool true,none,[]⟩) (hO7:O (.fn 84) [kn,kn'] mem=some ⟨.bool true,none,[]⟩):
  ∃env',bt (az Tryz.prog) O 92 m0 ah ah.toList ⟨env,mem,d⟩=some ⟨env',mem,d⟩∧ac env' 4=.bool true:=by
 have g1:(ah[5]?).bind (fun x=>x.dst)=some 10:=by kernel_rfl
 have g2:(ah[12]?).bind (fun x=>x.dst)=some 17:=by kernel_rfl
 have g3:(ah[21]?).bind (fun x=>x.dst)=some 26:=by kernel_rfl
 have g4:(ah[30]?).bind (fun x=>x.dst)=some 35:=by kernel_rfl
 have g5:(ah[39]?).bind (fun x=>x.dst)=some 44:=by kernel_rfl
 have g6:(ah[46]?).bind (fun x=>x.dst)=some 51:=by kernel_rfl
 have g7:(ah[55]?).bind (fun x=>x.dst)=some 60:=by kernel_rfl
 have g8:(ah[64]?).bind (fun x=>x.dst)=some 69:=by kernel_rfl
 have g9:(ah[73]?).bind (fun x=>x.dst)=some 78:=by kernel_rfl
 have g10:(ah[80]?).bind (fun x=>x.dst)=some 85:=by kernel_rfl
 obtain⟨e0,r0,h2_0,h3_0,b0⟩:=Is (O:=O) (m0:=m0) (ops:=ah) (d:=d) h2 h3 hp hq
 obtain⟨e1,r1,h2_1,h3_1,b1⟩:=It (O:=O) (m0:=m0) (ops:=ah) (d:=d) h2_0 h3_0 hp hq g1 b0
 obtain⟨e2,r2,h2_2,h3_2,b2⟩:=Iu (O:=O) (m0:=m0) (ops:=ah) (d:=d) h2_1 h3_1 hp hq g2 b1 hO2
 obtain⟨e3,r3,h2_3,h3_3,b3⟩:=Iv (O:=O) (m0:=m0) (ops:=ah) (d:=d) h2_2 h3_2 hp hq g3 b2 hO3
 obtain⟨e4,r4,h2_4,h3_4,b4⟩:=Iw (O:=O) (m0:=m0) (ops:=ah) (d:=d) h2_3 h3_3 hp hq g4 b3 hO4
 obtain⟨e5,r5,h2_5,h3_5,b5⟩:=Ix (O:=O) (m0:=m0) (ops:=ah) (d:=d) h2_4 h3_4 hp hq g5 b4
 obtain⟨e6,r6,h2_6,h3_6,b6⟩:=Iy (O:=O) (m0:=m0) (ops:=ah) (d:=d) h2_5 h3_5 hp hq g6 b5
 obtain⟨e7,r7,h2_7,h3_7,b7⟩:=Iz (O:=O) (m0:=m0) (ops:=ah) (d:=d) h2_6 h3_6 hp hq g7 b6 hO7
 obtain⟨e8,r8,h2_8,h3_8,b8⟩:=IA (O:=O) (m0:=m0) (ops:=ah) (d:=d) h2_7 h3_7 hp hq g8 b7
 obtain⟨e9,r9,h2_9,h3_9,b9⟩:=IB (O:=O) (m0:=m0) (ops:=ah) (d:=d) h2_8 h3_8 hp hq g9 b8
 obtain⟨e10,r10,h2_10,h3_10,b10⟩:=Dr (O:=O) (m0:=m0) (ops:=ah) (d:=d) h2_9 h3_9 hp hq g10 b9
 exact⟨e10,by rw[uB];exact aZ r0 (aZ r1 (aZ r2 (aZ r3 (aZ r4 (aZ r5 (aZ r6 (aZ r7 (aZ r8 (aZ r9 (r10)))))))))),b10⟩
set_option maxRecDepth 4000 in
theorem Kv{O:Oracle}(hOk:OracleOk Tryz.prog O) {m:Mem}{c:Evc}{b u s kn b' u' s' kn' :AV}(hO2:O (.fn 82) [b,b'] (m++[.cells true 0 (c.cells b u s kn),.cells true 0 (c.cells b' u' s' kn')])=some ⟨.bool true,none,[]⟩) (hO3:O (.fn 32) [u,u'] (m++[.cells true 0 (c.cells b u s kn),.cells true 0 (c.cells b' u' s' kn')])=some ⟨.bool true,none,[]⟩) (hO4:O (.fn 83) [s,s'] (m++[.cells true 0 (c.cells b u s kn),.cells true 0 (c.cells b' u' s' kn')])=some ⟨.bool true,none,[]⟩) (hO7:O (.fn 84) [kn,kn'] (m++[.cells true 0 (c.cells b u s kn),.cells true 0 (c.cells b' u' s' kn')])=some ⟨.bool true,none,[]⟩):
  ACallsTo Tryz.prog 49 [.agg (c.cells b u s kn),.agg (c.cells b' u' s' kn')] m (.bool true) m:=by
 have hG:aI Tryz.prog 49=some Tryz.f49:=by kernel_rfl
 obtain⟨ops,hops⟩:∃o,o=ah:=⟨_,rfl⟩
 obtain⟨F,hF⟩:=kX (p:=fun e (_:Bool)=>ac e 2=.ptr m.length 0∧ac e 3=.ptr (m.length+1) 0) (q:=fun env (_:Bool) env' =>bt (az Tryz.prog) O 92 m.length ops ops.toList ⟨env,(m++[.cells true 0 (c.cells b u s kn),.cells true 0 (c.cells b' u' s' kn')]),false⟩=some ⟨env',(m++[.cells true 0 (c.cells b u s kn),.cells true 0 (c.cells b' u' s' kn')]),false⟩∧ac env' 4=.bool true) (fun env _ h=>by
  subst hops
  have hp:((m++[.cells true 0 (c.cells b u s kn),.cells true 0 (c.cells b' u' s' kn')]))[m.length]? =some (.cells true 0 (c.cells b u s kn)):=by simp
  have hq:((m++[.cells true 0 (c.cells b u s kn),.cells true 0 (c.cells b' u' s' kn')]))[m.length+1]? =some (.cells true 0 (c.cells b' u' s' kn')):=by simp
  exact KQ h.1 h.2 hp hq hO2 hO3 hO4 hO7)
 have hF1:=fun env h2 h3=>(hF env false ⟨h2,h3⟩).1
 have hF2:=fun env h2 h3=>(hF env false ⟨h2,h3⟩).2
 have h:ab (az Tryz.prog) (fun _=>[]) (aI Tryz.prog) O 1 49 [.agg (c.cells b u s kn),.agg (c.cells b' u' s' kn')] m=some ⟨.bool true,none,[]⟩:=by
  have hb:Tryz.f49.body=some (.seq (.region 0 mc false) (.seq (.region 1 ops false) .ret)):=by rw[hops];kernel_rfl
  unfold ab
  rw[hG]
  dsimp only
  rw[hb]
  dsimp only
  simp only[Evc.cells] at hF1 hF2 ⊢
  simp[hF1,hF2,mc,Tryz.f49]
 have:=(ae aa (ai _) hOk (aj _) h).1
 simpa [CallRes.mem] using this
end Go.Proofs
