/- See M58. -/
import Derived.Test.YtmhkeaphiadacaaGreatDoorM28
import Derived.Test.YtmhkeaphiadacaaGreatDoorM30
import Derived.Test.YtmhkeaphiadacaaGreatDoorM35
set_option linter.all false
namespace Go.Proofs
open Go.Eng
section
variable (d:Nat)
theorem oJ(x y:List UInt8):iD (aA Tryz.prog) (d+1) 9 (.str x) (.str y)=some (x==y):=by rw[iD];simp
theorem rV(x y:Int):iD (aA Tryz.prog) (d+1) 3 (.int .i64 x) (.int .i64 y)=some (decide (x=y)):=by rw[iD];simp
theorem gK(a b c:List UInt8):iD (aA Tryz.prog) (d+2) 51 (.agg [.str a,.str b,.str c]) (.agg [.str a,.str b,.str c])=some true:=by
 have i:=gj d
 rw[iD]
 simp[Li,gu,TyI.isAgg,i]
theorem tU(a b c o:List UInt8):iD (aA Tryz.prog) (d+3) 53 (.agg [.str a,.str b,.str c,.str o]) (.agg [.str a,.str b,.str c,.str o])=some true:=by
 have i:=gj (d+1)
 have j:=gK d
 rw[iD]
 simp[Li,gu,TyI.isAgg,i,j]
theorem tY(a b c o e f g:List UInt8):iD (aA Tryz.prog) (d+4) 55 (.agg [.str a,.str b,.str c,.str o,.str e,.str f,.str g]) (.agg [.str a,.str b,.str c,.str o,.str e,.str f,.str g])=some true:=by
 have j:=gK (d+1)
 have k:=tU d
 rw[iD]
 simp[Li,gu,TyI.isAgg,j,k]
theorem yy(a b c o w u:List UInt8):iD (aA Tryz.prog) (d+4) 60 (.agg [.str a,.str b,.str c,.str o,.str w,.str u]) (.agg [.str a,.str b,.str c,.str o,.str w,.str u])=some true:=by
 have i:=gj (d+2)
 have i2:=oJ (d+2)
 have k:=tU d
 rw[iD]
 simp[Li,gu,TyI.isAgg,i,i2,k]
theorem I4(t u v w:Int):iD (aA Tryz.prog) (d+2) 61 (.agg [.int .i64 t,.int .i64 u,.int .i64 v,.int .i64 w]) (.agg [.int .i64 t,.int .i64 u,.int .i64 v,.int .i64 w])=some true:=by
 have r:List.range' 0 4=[0,1,2,3]:=rfl
 have i:=rV d
 rw[iD]
 simp only[Jt,BB,r,Pr]
 simp[gu,TyI.isAgg,i]
theorem wD(t u v w:Int) (a b c:List UInt8):iD (aA Tryz.prog) (d+3) 63 (.agg [.int .i64 t,.int .i64 u,.int .i64 v,.int .i64 w,.str a,.str b,.str c]) (.agg [.int .i64 t,.int .i64 u,.int .i64 v,.int .i64 w,.str a,.str b,.str c])=some true:=by
 have j:=gK (d+0)
 have k:=I4 d
 rw[iD]
 simp[Li,gu,TyI.isAgg,j,k]
end
theorem Ea(M:Mem):ACallsTo Tryz.prog 82 [.nilslice,.nilslice] M (.bool true) M:=by
 have h0:∀M,ACallsTo Tryz.prog 113 [.nilslice,.nilslice] M (.bool true) M:=fun M=>by
  have hG:aF Tryz.prog 113=some Tryz.f113:=by kernel_rfl
  refine aq (af _) (lv:=fun _=>[13]) (K:=3) rfl rfl ?_ M
  simp[ad,hG,Tryz.f113,ay,dN]
 have hO:OracleOk Tryz.prog (ao fun f args=>match f,args with
   |113,[.nilslice,.nilslice]=>some (.bool true)
   |_,_=>none):=bI fun f args v h mem=>by
  split at h
  ·cases h;exact h0 mem
  ·cases h
 have hG:aF Tryz.prog 82=some Tryz.f82:=by kernel_rfl
 refine aq hO (lv:=fun _=>[13]) (K:=3) rfl rfl ?_ M
 simp[ad,hG,Tryz.f82,ao]
theorem E6(M:Mem):ACallsTo Tryz.prog 32 [.nilslice,.nilslice] M (.bool true) M:=by
 have hG:aF Tryz.prog 32=some Tryz.f32:=by kernel_rfl
 refine aq (af _) (lv:=fun _=>[13]) (K:=3) rfl rfl ?_ M
 simp[ad,hG,Tryz.f32,ay,dN]
theorem DH(M:Mem):ACallsTo Tryz.prog 84 [.nilslice,.nilslice] M (.bool true) M:=by
 have hG:aF Tryz.prog 84=some Tryz.f84:=by kernel_rfl
 refine aq (af _) (lv:=fun _=>[13]) (K:=3) rfl rfl ?_ M
 simp[ad,hG,Tryz.f84,ay,dN]
theorem HR(M:Mem):ACallsTo Tryz.prog 83 [.nilslice,.nilslice] M (.bool true) M:=by
 have h0:∀M,ACallsTo Tryz.prog 114 [.nilslice,.nilslice,.func 82 []] M (.bool true) M:=fun M=>by
  have hG:aF Tryz.prog 114=some Tryz.f114:=by kernel_rfl
  refine aq (af _) (lv:=fun _=>[17]) (K:=3) rfl rfl ?_ M
  simp[ad,hG,Tryz.f114,ay,dN]
 have hO:OracleOk Tryz.prog (ao fun f args=>match f,args with
   |114,[.nilslice,.nilslice,.func 82 []]=>some (.bool true)
   |_,_=>none):=bI fun f args v h mem=>by
  split at h
  ·cases h;exact h0 mem
  ·cases h
 have hG:aF Tryz.prog 83=some Tryz.f83:=by kernel_rfl
 refine aq hO (lv:=fun _=>[]) (K:=3) rfl rfl ?_ M
 simp[ad,hG,Tryz.f83,ao]
end Go.Proofs
namespace Go.Proofs
open Go.Eng
def bu:List (List UInt8):=[[101,48],[101,49],[101,50],[101,51],[101,52],[101,53],[107,48],[107,49],[107,50],[107,51],[107,52],[107,53],[65,49],[65,50],[65,51],[66,49],[66,50],[66,51],[67,49],[67,50],[67,51],[68,49],[68,50],[68,51],[69,49],[69,50],[69,51],[70,49],[70,50],[70,51]]
theorem cw(nm:List UInt8) (h:nm∈bu) (M:Mem):ACallsTo Tryz.prog 80 [.str nm] M (.int .i64 0) M:=by
 refine aq (af _) (lv:=ab) (K:=6) rfl rfl ?_ M
 simp only[bu,List.mem_cons,List.not_mem_nil,or_false] at h
 rcases h with h | h | h | h | h | h | h | h | h | h | h | h | h | h | h | h | h | h | h | h | h | h | h | h | h | h | h | h | h | h<;>(subst h;as_aux_lemma=>kernel_rfl)
theorem cS{i:Nat}(h:i<6):ba i∈bu:=by
 have:i=0∨i=1∨i=2∨i=3∨i=4∨i=5:=by omega
 rcases this with rfl | rfl | rfl | rfl | rfl | rfl<;>decide
theorem uh{i:Nat}(h:i<6):fv i∈bu:=by
 have:i=0∨i=1∨i=2∨i=3∨i=4∨i=5:=by omega
 rcases this with rfl | rfl | rfl | rfl | rfl | rfl<;>decide
theorem fQ{i J:Nat}(h:i<6) (hJ:J<3):∀u∈aU i J,u∈bu:=by
 have hi:i=0∨i=1∨i=2∨i=3∨i=4∨i=5:=by omega
 have hj:J=0∨J=1∨J=2:=by omega
 rcases hi with rfl | rfl | rfl | rfl | rfl | rfl<;>rcases hj with rfl | rfl | rfl<;>decide
def lg:List AV:=(List.range 25).map fun i=>.func (149+i) []
theorem DM(M:Mem):ACallsTo Tryz.prog 112 [] M (.agg lg) M:=by
 refine aq (af _) (lv:=ab) (K:=6) rfl rfl ?_ M
 as_aux_lemma=>kernel_rfl
theorem mU{T:TypeId→Option TyI}{O:Oracle}{N m0:Nat}{ops:Array Oper}:∀(a b:List Oper) (s:XS),bE T O N m0 ops (a++b) s=(bE T O N m0 ops a s).bind (bE T O N m0 ops b)
 | [],b,s=>rfl
 |o::a,b,s=>by
  rw[List.cons_append,bE,bE]
  split
  ·split
   ·split
    ·exact mU a b _
    ·rfl
   ·exact mU a b _
   ·rfl
  ·rfl
theorem be{T:TypeId→Option TyI}{O:Oracle}{N m0:Nat}{ops:Array Oper}{a b:List Oper}{s s1:XS}{r:Option XS}(h:bE T O N m0 ops a s=some s1) (h2:bE T O N m0 ops b s1=r):bE T O N m0 ops (a++b) s=r:=by
 rw[mU,h];exact h2
noncomputable def ah:Array Oper:=match Tryz.f49.body with
 |some (.seq _ (.seq (.region _ ops _) _))=>ops
 |_=> #[]
noncomputable def ii:List Oper:=(ah.toList.drop 0).take 6
noncomputable def ig:List Oper:=(ah.toList.drop 6).take 7
noncomputable def iw:List Oper:=(ah.toList.drop 13).take 9
noncomputable def iv:List Oper:=(ah.toList.drop 22).take 9
noncomputable def iu:List Oper:=(ah.toList.drop 31).take 9
noncomputable def gU:List Oper:=(ah.toList.drop 40).take 7
noncomputable def im:List Oper:=(ah.toList.drop 47).take 9
noncomputable def gX:List Oper:=(ah.toList.drop 56).take 9
noncomputable def il:List Oper:=(ah.toList.drop 65).take 9
noncomputable def ij:List Oper:=(ah.toList.drop 74).take 7
noncomputable def gp:List Oper:=(ah.toList.drop 81).take 7
theorem uj:ah.toList=ii++(ig++(iw++(iv++(iu++(gU++(im++(gX++(il++(ij++(gp)))))))))):=by kernel_rfl
set_option maxRecDepth 4000 in
theorem IK{O:Oracle}{m0:Nat}{ops:Array Oper}{env:Env}{mem:Mem}{d:Bool}{p q:Nat}{k t1 t2 t3 t4:Int}{nm x5 x6 x7 x8 x9 x10 x11 x12 x13 x14 x16 x17 x18 x19 x20 x21 x22 x23 x24 x29 x30 x31:List UInt8}{b u s kn:AV}(h2:ac env 2=.ptr p 0) (h3:ac env 3=.ptr q 0) (hp:mem[p]? =some (.cells true 0 [.int .i64 k,.str nm,b,u,s,.str x5,.str x6,.str x7,.str x8,.str x9,.str x10,.str x11,.str x12,.str x13,.str x14,kn,.str x16,.str x17,.str x18,.str x19,.str x20,.str x21,.str x22,.str x23,.str x24,.int .i64 t1,.int .i64 t2,.int .i64 t3,.int .i64 t4,.str x29,.str x30,.str x31])) (hq:mem[q]? =some (.cells true 0 [.int .i64 k,.str nm,b,u,s,.str x5,.str x6,.str x7,.str x8,.str x9,.str x10,.str x11,.str x12,.str x13,.str x14,kn,.str x16,.str x17,.str x18,.str x19,.str x20,.str x21,.str x22,.str x23,.str x24,.int .i64 t1,.int .i64 t2,.int .i64 t3,.int .i64 t4,.str x29,.str x30,.str x31])):
  ∃env',bE (aA Tryz.prog) O 92 m0 ops ii ⟨env,mem,d⟩=some ⟨env',mem,d⟩∧ac env' 2=.ptr p 0∧ac env' 3=.ptr q 0∧ac env' 10=.bool true:=by
 have e0:=fun d=>rV d
 simp[ii,ah,Tryz.f49,h2,h3,hp,hq,e0]
set_option maxRecDepth 4000 in
theorem HG{O:Oracle}{m0:Nat}{ops:Array Oper}{env:Env}{mem:Mem}{d:Bool}{p q:Nat}{k t1 t2 t3 t4:Int}{nm x5 x6 x7 x8 x9 x10 x11 x12 x13 x14 x16 x17 x18 x19 x20 x21 x22 x23 x24 x29 x30 x31:List UInt8}{b u s kn:AV}(h2:ac env 2=.ptr p 0) (h3:ac env 3=.ptr q 0) (hp:mem[p]? =some (.cells true 0 [.int .i64 k,.str nm,b,u,s,.str x5,.str x6,.str x7,.str x8,.str x9,.str x10,.str x11,.str x12,.str x13,.str x14,kn,.str x16,.str x17,.str x18,.str x19,.str x20,.str x21,.str x22,.str x23,.str x24,.int .i64 t1,.int .i64 t2,.int .i64 t3,.int .i64 t4,.str x29,.str x30,.str x31])) (hq:mem[q]? =some (.cells true 0 [.int .i64 k,.str nm,b,u,s,.str x5,.str x6,.str x7,.str x8,.str x9,.str x10,.str x11,.str x12,.str x13,.str x14,kn,.str x16,.str x17,.str x18,.str x19,.str x20,.str x21,.str x22,.str x23,.str x24,.int .i64 t1,.int .i64 t2,.int .i64 t3,.int .i64 t4,.str x29,.str x30,.str x31])) (hg:(ops[5]?).bind (fun x=>x.dst)=some 10) (h1:ac env 10=.bool true):
  ∃env',bE (aA Tryz.prog) O 92 m0 ops ig ⟨env,mem,d⟩=some ⟨env',mem,d⟩∧ac env' 2=.ptr p 0∧ac env' 3=.ptr q 0∧ac env' 17=.bool true:=by
 have e1:=fun d=>oJ d
 simp[ig,ah,Tryz.f49,h2,h3,hp,hq,hg,h1,e1]
set_option maxRecDepth 4000 in
theorem HM{O:Oracle}{m0:Nat}{ops:Array Oper}{env:Env}{mem:Mem}{d:Bool}{p q:Nat}{k t1 t2 t3 t4:Int}{nm x5 x6 x7 x8 x9 x10 x11 x12 x13 x14 x16 x17 x18 x19 x20 x21 x22 x23 x24 x29 x30 x31:List UInt8}{b u s kn:AV}(h2:ac env 2=.ptr p 0) (h3:ac env 3=.ptr q 0) (hp:mem[p]? =some (.cells true 0 [.int .i64 k,.str nm,b,u,s,.str x5,.str x6,.str x7,.str x8,.str x9,.str x10,.str x11,.str x12,.str x13,.str x14,kn,.str x16,.str x17,.str x18,.str x19,.str x20,.str x21,.str x22,.str x23,.str x24,.int .i64 t1,.int .i64 t2,.int .i64 t3,.int .i64 t4,.str x29,.str x30,.str x31])) (hq:mem[q]? =some (.cells true 0 [.int .i64 k,.str nm,b,u,s,.str x5,.str x6,.str x7,.str x8,.str x9,.str x10,.str x11,.str x12,.str x13,.str x14,kn,.str x16,.str x17,.str x18,.str x19,.str x20,.str x21,.str x22,.str x23,.str x24,.int .i64 t1,.int .i64 t2,.int .i64 t3,.int .i64 t4,.str x29,.str x30,.str x31])) (hg:(ops[12]?).bind (fun x=>x.dst)=some 17) (h1:ac env 17=.bool true) (hO:O (.fn 82) [b,b] mem=some ⟨.bool true,none,[]⟩):
  ∃env',bE (aA Tryz.prog) O 92 m0 ops iw ⟨env,mem,d⟩=some ⟨env',mem,d⟩∧ac env' 2=.ptr p 0∧ac env' 3=.ptr q 0∧ac env' 26=.bool true:=by
 simp[iw,ah,Tryz.f49,h2,h3,hp,hq,hg,h1,hO]
set_option maxRecDepth 4000 in
theorem Hj{O:Oracle}{m0:Nat}{ops:Array Oper}{env:Env}{mem:Mem}{d:Bool}{p q:Nat}{k t1 t2 t3 t4:Int}{nm x5 x6 x7 x8 x9 x10 x11 x12 x13 x14 x16 x17 x18 x19 x20 x21 x22 x23 x24 x29 x30 x31:List UInt8}{b u s kn:AV}(h2:ac env 2=.ptr p 0) (h3:ac env 3=.ptr q 0) (hp:mem[p]? =some (.cells true 0 [.int .i64 k,.str nm,b,u,s,.str x5,.str x6,.str x7,.str x8,.str x9,.str x10,.str x11,.str x12,.str x13,.str x14,kn,.str x16,.str x17,.str x18,.str x19,.str x20,.str x21,.str x22,.str x23,.str x24,.int .i64 t1,.int .i64 t2,.int .i64 t3,.int .i64 t4,.str x29,.str x30,.str x31])) (hq:mem[q]? =some (.cells true 0 [.int .i64 k,.str nm,b,u,s,.str x5,.str x6,.str x7,.str x8,.str x9,.str x10,.str x11,.str x12,.str x13,.str x14,kn,.str x16,.str x17,.str x18,.str x19,.str x20,.str x21,.str x22,.str x23,.str x24,.int .i64 t1,.int .i64 t2,.int .i64 t3,.int .i64 t4,.str x29,.str x30,.str x31])) (hg:(ops[21]?).bind (fun x=>x.dst)=some 26) (h1:ac env 26=.bool true) (hO:O (.fn 32) [u,u] mem=some ⟨.bool true,none,[]⟩):
  ∃env',bE (aA Tryz.prog) O 92 m0 ops iv ⟨env,mem,d⟩=some ⟨env',mem,d⟩∧ac env' 2=.ptr p 0∧ac env' 3=.ptr q 0∧ac env' 35=.bool true:=by
 simp[iv,ah,Tryz.f49,h2,h3,hp,hq,hg,h1,hO]
set_option maxRecDepth 4000 in
theorem IU{O:Oracle}{m0:Nat}{ops:Array Oper}{env:Env}{mem:Mem}{d:Bool}{p q:Nat}{k t1 t2 t3 t4:Int}{nm x5 x6 x7 x8 x9 x10 x11 x12 x13 x14 x16 x17 x18 x19 x20 x21 x22 x23 x24 x29 x30 x31:List UInt8}{b u s kn:AV}(h2:ac env 2=.ptr p 0) (h3:ac env 3=.ptr q 0) (hp:mem[p]? =some (.cells true 0 [.int .i64 k,.str nm,b,u,s,.str x5,.str x6,.str x7,.str x8,.str x9,.str x10,.str x11,.str x12,.str x13,.str x14,kn,.str x16,.str x17,.str x18,.str x19,.str x20,.str x21,.str x22,.str x23,.str x24,.int .i64 t1,.int .i64 t2,.int .i64 t3,.int .i64 t4,.str x29,.str x30,.str x31])) (hq:mem[q]? =some (.cells true 0 [.int .i64 k,.str nm,b,u,s,.str x5,.str x6,.str x7,.str x8,.str x9,.str x10,.str x11,.str x12,.str x13,.str x14,kn,.str x16,.str x17,.str x18,.str x19,.str x20,.str x21,.str x22,.str x23,.str x24,.int .i64 t1,.int .i64 t2,.int .i64 t3,.int .i64 t4,.str x29,.str x30,.str x31])) (hg:(ops[30]?).bind (fun x=>x.dst)=some 35) (h1:ac env 35=.bool true) (hO:O (.fn 83) [s,s] mem=some ⟨.bool true,none,[]⟩):
  ∃env',bE (aA Tryz.prog) O 92 m0 ops iu ⟨env,mem,d⟩=some ⟨env',mem,d⟩∧ac env' 2=.ptr p 0∧ac env' 3=.ptr q 0∧ac env' 44=.bool true:=by
 simp[iu,ah,Tryz.f49,h2,h3,hp,hq,hg,h1,hO]
set_option maxRecDepth 4000 in
theorem Hu{O:Oracle}{m0:Nat}{ops:Array Oper}{env:Env}{mem:Mem}{d:Bool}{p q:Nat}{k t1 t2 t3 t4:Int}{nm x5 x6 x7 x8 x9 x10 x11 x12 x13 x14 x16 x17 x18 x19 x20 x21 x22 x23 x24 x29 x30 x31:List UInt8}{b u s kn:AV}(h2:ac env 2=.ptr p 0) (h3:ac env 3=.ptr q 0) (hp:mem[p]? =some (.cells true 0 [.int .i64 k,.str nm,b,u,s,.str x5,.str x6,.str x7,.str x8,.str x9,.str x10,.str x11,.str x12,.str x13,.str x14,kn,.str x16,.str x17,.str x18,.str x19,.str x20,.str x21,.str x22,.str x23,.str x24,.int .i64 t1,.int .i64 t2,.int .i64 t3,.int .i64 t4,.str x29,.str x30,.str x31])) (hq:mem[q]? =some (.cells true 0 [.int .i64 k,.str nm,b,u,s,.str x5,.str x6,.str x7,.str x8,.str x9,.str x10,.str x11,.str x12,.str x13,.str x14,kn,.str x16,.str x17,.str x18,.str x19,.str x20,.str x21,.str x22,.str x23,.str x24,.int .i64 t1,.int .i64 t2,.int .i64 t3,.int .i64 t4,.str x29,.str x30,.str x31])) (hg:(ops[39]?).bind (fun x=>x.dst)=some 44) (h1:ac env 44=.bool true):
  ∃env',bE (aA Tryz.prog) O 92 m0 ops gU ⟨env,mem,d⟩=some ⟨env',mem,d⟩∧ac env' 2=.ptr p 0∧ac env' 3=.ptr q 0∧ac env' 51=.bool true:=by
 have e2:=fun d=>tY d
 simp[gU,ah,Tryz.f49,h2,h3,hp,hq,hg,h1,e2]
set_option maxRecDepth 4000 in
theorem HY{O:Oracle}{m0:Nat}{ops:Array Oper}{env:Env}{mem:Mem}{d:Bool}{p q:Nat}{k t1 t2 t3 t4:Int}{nm x5 x6 x7 x8 x9 x10 x11 x12 x13 x14 x16 x17 x18 x19 x20 x21 x22 x23 x24 x29 x30 x31:List UInt8}{b u s kn:AV}(h2:ac env 2=.ptr p 0) (h3:ac env 3=.ptr q 0) (hp:mem[p]? =some (.cells true 0 [.int .i64 k,.str nm,b,u,s,.str x5,.str x6,.str x7,.str x8,.str x9,.str x10,.str x11,.str x12,.str x13,.str x14,kn,.str x16,.str x17,.str x18,.str x19,.str x20,.str x21,.str x22,.str x23,.str x24,.int .i64 t1,.int .i64 t2,.int .i64 t3,.int .i64 t4,.str x29,.str x30,.str x31])) (hq:mem[q]? =some (.cells true 0 [.int .i64 k,.str nm,b,u,s,.str x5,.str x6,.str x7,.str x8,.str x9,.str x10,.str x11,.str x12,.str x13,.str x14,kn,.str x16,.str x17,.str x18,.str x19,.str x20,.str x21,.str x22,.str x23,.str x24,.int .i64 t1,.int .i64 t2,.int .i64 t3,.int .i64 t4,.str x29,.str x30,.str x31])) (hg:(ops[46]?).bind (fun x=>x.dst)=some 51) (h1:ac env 51=.bool true):
  ∃env',bE (aA Tryz.prog) O 92 m0 ops im ⟨env,mem,d⟩=some ⟨env',mem,d⟩∧ac env' 2=.ptr p 0∧ac env' 3=.ptr q 0∧ac env' 60=.bool true:=by
 have e3:=fun d=>gK d
 simp[im,ah,Tryz.f49,h2,h3,hp,hq,hg,h1,e3]
set_option maxRecDepth 4000 in
theorem Hz{O:Oracle}{m0:Nat}{ops:Array Oper}{env:Env}{mem:Mem}{d:Bool}{p q:Nat}{k t1 t2 t3 t4:Int}{nm x5 x6 x7 x8 x9 x10 x11 x12 x13 x14 x16 x17 x18 x19 x20 x21 x22 x23 x24 x29 x30 x31:List UInt8}{b u s kn:AV}(h2:ac env 2=.ptr p 0) (h3:ac env 3=.ptr q 0) (hp:mem[p]? =some (.cells true 0 [.int .i64 k,.str nm,b,u,s,.str x5,.str x6,.str x7,.str x8,.str x9,.str x10,.str x11,.str x12,.str x13,.str x14,kn,.str x16,.str x17,.str x18,.str x19,.str x20,.str x21,.str x22,.str x23,.str x24,.int .i64 t1,.int .i64 t2,.int .i64 t3,.int .i64 t4,.str x29,.str x30,.str x31])) (hq:mem[q]? =some (.cells true 0 [.int .i64 k,.str nm,b,u,s,.str x5,.str x6,.str x7,.str x8,.str x9,.str x10,.str x11,.str x12,.str x13,.str x14,kn,.str x16,.str x17,.str x18,.str x19,.str x20,.str x21,.str x22,.str x23,.str x24,.int .i64 t1,.int .i64 t2,.int .i64 t3,.int .i64 t4,.str x29,.str x30,.str x31])) (hg:(ops[55]?).bind (fun x=>x.dst)=some 60) (h1:ac env 60=.bool true) (hO:O (.fn 84) [kn,kn] mem=some ⟨.bool true,none,[]⟩):
  ∃env',bE (aA Tryz.prog) O 92 m0 ops gX ⟨env,mem,d⟩=some ⟨env',mem,d⟩∧ac env' 2=.ptr p 0∧ac env' 3=.ptr q 0∧ac env' 69=.bool true:=by
 simp[gX,ah,Tryz.f49,h2,h3,hp,hq,hg,h1,hO]
set_option maxRecDepth 4000 in
theorem HI{O:Oracle}{m0:Nat}{ops:Array Oper}{env:Env}{mem:Mem}{d:Bool}{p q:Nat}{k t1 t2 t3 t4:Int}{nm x5 x6 x7 x8 x9 x10 x11 x12 x13 x14 x16 x17 x18 x19 x20 x21 x22 x23 x24 x29 x30 x31:List UInt8}{b u s kn:AV}(h2:ac env 2=.ptr p 0) (h3:ac env 3=.ptr q 0) (hp:mem[p]? =some (.cells true 0 [.int .i64 k,.str nm,b,u,s,.str x5,.str x6,.str x7,.str x8,.str x9,.str x10,.str x11,.str x12,.str x13,.str x14,kn,.str x16,.str x17,.str x18,.str x19,.str x20,.str x21,.str x22,.str x23,.str x24,.int .i64 t1,.int .i64 t2,.int .i64 t3,.int .i64 t4,.str x29,.str x30,.str x31])) (hq:mem[q]? =some (.cells true 0 [.int .i64 k,.str nm,b,u,s,.str x5,.str x6,.str x7,.str x8,.str x9,.str x10,.str x11,.str x12,.str x13,.str x14,kn,.str x16,.str x17,.str x18,.str x19,.str x20,.str x21,.str x22,.str x23,.str x24,.int .i64 t1,.int .i64 t2,.int .i64 t3,.int .i64 t4,.str x29,.str x30,.str x31])) (hg:(ops[64]?).bind (fun x=>x.dst)=some 69) (h1:ac env 69=.bool true):
  ∃env',bE (aA Tryz.prog) O 92 m0 ops il ⟨env,mem,d⟩=some ⟨env',mem,d⟩∧ac env' 2=.ptr p 0∧ac env' 3=.ptr q 0∧ac env' 78=.bool true:=by
 have e3:=fun d=>gK d
 simp[il,ah,Tryz.f49,h2,h3,hp,hq,hg,h1,e3]
set_option maxRecDepth 4000 in
theorem HP{O:Oracle}{m0:Nat}{ops:Array Oper}{env:Env}{mem:Mem}{d:Bool}{p q:Nat}{k t1 t2 t3 t4:Int}{nm x5 x6 x7 x8 x9 x10 x11 x12 x13 x14 x16 x17 x18 x19 x20 x21 x22 x23 x24 x29 x30 x31:List UInt8}{b u s kn:AV}(h2:ac env 2=.ptr p 0) (h3:ac env 3=.ptr q 0) (hp:mem[p]? =some (.cells true 0 [.int .i64 k,.str nm,b,u,s,.str x5,.str x6,.str x7,.str x8,.str x9,.str x10,.str x11,.str x12,.str x13,.str x14,kn,.str x16,.str x17,.str x18,.str x19,.str x20,.str x21,.str x22,.str x23,.str x24,.int .i64 t1,.int .i64 t2,.int .i64 t3,.int .i64 t4,.str x29,.str x30,.str x31])) (hq:mem[q]? =some (.cells true 0 [.int .i64 k,.str nm,b,u,s,.str x5,.str x6,.str x7,.str x8,.str x9,.str x10,.str x11,.str x12,.str x13,.str x14,kn,.str x16,.str x17,.str x18,.str x19,.str x20,.str x21,.str x22,.str x23,.str x24,.int .i64 t1,.int .i64 t2,.int .i64 t3,.int .i64 t4,.str x29,.str x30,.str x31])) (hg:(ops[73]?).bind (fun x=>x.dst)=some 78) (h1:ac env 78=.bool true):
  ∃env',bE (aA Tryz.prog) O 92 m0 ops ij ⟨env,mem,d⟩=some ⟨env',mem,d⟩∧ac env' 2=.ptr p 0∧ac env' 3=.ptr q 0∧ac env' 85=.bool true:=by
 have e4:=fun d=>yy d
 simp[ij,ah,Tryz.f49,h2,h3,hp,hq,hg,h1,e4]
set_option maxRecDepth 4000 in
theorem DU{O:Oracle}{m0:Nat}{ops:Array Oper}{env:Env}{mem:Mem}{d:Bool}{p q:Nat}{k t1 t2 t3 t4:Int}{nm x5 x6 x7 x8 x9 x10 x11 x12 x13 x14 x16 x17 x18 x19 x20 x21 x22 x23 x24 x29 x30 x31:List UInt8}{b u s kn:AV}(h2:ac env 2=.ptr p 0) (h3:ac env 3=.ptr q 0) (hp:mem[p]? =some (.cells true 0 [.int .i64 k,.str nm,b,u,s,.str x5,.str x6,.str x7,.str x8,.str x9,.str x10,.str x11,.str x12,.str x13,.str x14,kn,.str x16,.str x17,.str x18,.str x19,.str x20,.str x21,.str x22,.str x23,.str x24,.int .i64 t1,.int .i64 t2,.int .i64 t3,.int .i64 t4,.str x29,.str x30,.str x31])) (hq:mem[q]? =some (.cells true 0 [.int .i64 k,.str nm,b,u,s,.str x5,.str x6,.str x7,.str x8,.str x9,.str x10,.str x11,.str x12,.str x13,.str x14,kn,.str x16,.str x17,.str x18,.str x19,.str x20,.str x21,.str x22,.str x23,.str x24,.int .i64 t1,.int .i64 t2,.int .i64 t3,.int .i64 t4,.str x29,.str x30,.str x31])) (hg:(ops[80]?).bind (fun x=>x.dst)=some 85) (h1:ac env 85=.bool true):
  ∃env',bE (aA Tryz.prog) O 92 m0 ops gp ⟨env,mem,d⟩=some ⟨env',mem,d⟩∧ac env' 2=.ptr p 0∧ac env' 3=.ptr q 0∧ac env' 4=.bool true:=by
 have e5:=fun d=>wD d
 simp[gp,ah,Tryz.f49,h2,h3,hp,hq,hg,h1,e5]
theorem JZ{O:Oracle}{m0:Nat}{env:Env}{mem:Mem}{d:Bool}{p q:Nat}{k t1 t2 t3 t4:Int}{nm x5 x6 x7 x8 x9 x10 x11 x12 x13 x14 x16 x17 x18 x19 x20 x21 x22 x23 x24 x29 x30 x31:List UInt8}{b u s kn:AV}(h2:ac env 2=.ptr p 0) (h3:ac env 3=.ptr q 0) (hp:mem[p]? =some (.cells true 0 [.int .i64 k,.str nm,b,u,s,.str x5,.str x6,.str x7,.str x8,.str x9,.str x10,.str x11,.str x12,.str x13,.str x14,kn,.str x16,.str x17,.str x18,.str x19,.str x20,.str x21,.str x22,.str x23,.str x24,.int .i64 t1,.int .i64 t2,.int .i64 t3,.int .i64 t4,.str x29,.str x30,.str x31])) (hq:mem[q]? =some (.cells true 0 [.int .i64 k,.str nm,b,u,s,.str x5,.str x6,.str x7,.str x8,.str x9,.str x10,.str x11,.str x12,.str x13,.str x14,kn,.str x16,.str x17,.str x18,.str x19,.str x20,.str x21,.str x22,.str x23,.str x24,.int .i64 t1,.int .i64 t2,.int .i64 t3,.int .i64 t4,.str x29,.str x30,.str x31])) (hO2:O (.fn 82) [b,b] mem=some ⟨.bool true,none,[]⟩) (hO3:O (.fn 32) [u,u] mem=some ⟨.bool true,none,[]⟩) (hO4:O (.fn 83) [s,s] mem=some ⟨.bool true,none,[]⟩) (hO7:O (.fn 84) [kn,kn] mem=some ⟨.bool true,none,[]⟩):
  ∃env',bE (aA Tryz.prog) O 92 m0 ah ah.toList ⟨env,mem,d⟩=some ⟨env',mem,d⟩∧ac env' 4=.bool true:=by
 have g1:(ah[5]?).bind (fun x=>x.dst)=some 10:=by kernel_rfl
 have g2:(ah[12]?).bind (fun x=>x.dst)=some 17:=by kernel_rfl
 have g3:(ah[21]?).bind (fun x=>x.dst)=some 26:=by kernel_rfl
 have g4:(ah[30]?).bind (fun x=>x.dst)=some 35:=by kernel_rfl
 have g5:(ah[39]?).bind (fun x=>x.dst)=some 44:=by kernel_rfl
 have g6:(ah[46]?).bind (fun x=>x.dst)=some 51:=by kernel_rfl
 have g7:(ah[55]?).bind (fun x=>x.dst)=some 60:=by kernel_rfl
 have g8:(ah[64]?).bind (fun x=>x.dst)=some 69:=by kernel_rfl
 have g9:(ah[73]?).bind (fun x=>x.dst)=some 78:=by kernel_rfl
 have g10:(ah[80]?).bind (fun x=>x.dst)=some 85:=by kernel_rfl
 obtain⟨e0,r0,h2_0,h3_0,b0⟩:=IK (O:=O) (m0:=m0) (ops:=ah) (d:=d) h2 h3 hp hq
 obtain⟨e1,r1,h2_1,h3_1,b1⟩:=HG (O:=O) (m0:=m0) (ops:=ah) (d:=d) h2_0 h3_0 hp hq g1 b0
 obtain⟨e2,r2,h2_2,h3_2,b2⟩:=HM (O:=O) (m0:=m0) (ops:=ah) (d:=d) h2_1 h3_1 hp hq g2 b1 hO2
 obtain⟨e3,r3,h2_3,h3_3,b3⟩:=Hj (O:=O) (m0:=m0) (ops:=ah) (d:=d) h2_2 h3_2 hp hq g3 b2 hO3
 obtain⟨e4,r4,h2_4,h3_4,b4⟩:=IU (O:=O) (m0:=m0) (ops:=ah) (d:=d) h2_3 h3_3 hp hq g4 b3 hO4
 obtain⟨e5,r5,h2_5,h3_5,b5⟩:=Hu (O:=O) (m0:=m0) (ops:=ah) (d:=d) h2_4 h3_4 hp hq g5 b4
 obtain⟨e6,r6,h2_6,h3_6,b6⟩:=HY (O:=O) (m0:=m0) (ops:=ah) (d:=d) h2_5 h3_5 hp hq g6 b5
 obtain⟨e7,r7,h2_7,h3_7,b7⟩:=Hz (O:=O) (m0:=m0) (ops:=ah) (d:=d) h2_6 h3_6 hp hq g7 b6 hO7
 obtain⟨e8,r8,h2_8,h3_8,b8⟩:=HI (O:=O) (m0:=m0) (ops:=ah) (d:=d) h2_7 h3_7 hp hq g8 b7
 obtain⟨e9,r9,h2_9,h3_9,b9⟩:=HP (O:=O) (m0:=m0) (ops:=ah) (d:=d) h2_8 h3_8 hp hq g9 b8
 obtain⟨e10,r10,h2_10,h3_10,b10⟩:=DU (O:=O) (m0:=m0) (ops:=ah) (d:=d) h2_9 h3_9 hp hq g10 b9
 exact⟨e10,by rw[uj];exact be r0 (be r1 (be r2 (be r3 (be r4 (be r5 (be r6 (be r7 (be r8 (be r9 (r10)))))))))),b10⟩
noncomputable def mo:Array Oper:=match Tryz.f49.body with
 |some (.seq (.region _ ops _) _)=>ops
 |_=> #[]
set_option maxRecDepth 4000 in
theorem gD{O:Oracle}(hOk:OracleOk Tryz.prog O) {m:Mem}{k t1 t2 t3 t4:Int}{nm x5 x6 x7 x8 x9 x10 x11 x12 x13 x14 x16 x17 x18 x19 x20 x21 x22 x23 x24 x29 x30 x31:List UInt8}{b u s kn:AV}(hO2:O (.fn 82) [b,b] (m++[.cells true 0 [.int .i64 k,.str nm,b,u,s,.str x5,.str x6,.str x7,.str x8,.str x9,.str x10,.str x11,.str x12,.str x13,.str x14,kn,.str x16,.str x17,.str x18,.str x19,.str x20,.str x21,.str x22,.str x23,.str x24,.int .i64 t1,.int .i64 t2,.int .i64 t3,.int .i64 t4,.str x29,.str x30,.str x31],.cells true 0 [.int .i64 k,.str nm,b,u,s,.str x5,.str x6,.str x7,.str x8,.str x9,.str x10,.str x11,.str x12,.str x13,.str x14,kn,.str x16,.str x17,.str x18,.str x19,.str x20,.str x21,.str x22,.str x23,.str x24,.int .i64 t1,.int .i64 t2,.int .i64 t3,.int .i64 t4,.str x29,.str x30,.str x31]])=some ⟨.bool true,none,[]⟩) (hO3:O (.fn 32) [u,u] (m++[.cells true 0 [.int .i64 k,.str nm,b,u,s,.str x5,.str x6,.str x7,.str x8,.str x9,.str x10,.str x11,.str x12,.str x13,.str x14,kn,.str x16,.str x17,.str x18,.str x19,.str x20,.str x21,.str x22,.str x23,.str x24,.int .i64 t1,.int .i64 t2,.int .i64 t3,.int .i64 t4,.str x29,.str x30,.str x31],.cells true 0 [.int .i64 k,.str nm,b,u,s,.str x5,.str x6,.str x7,.str x8,.str x9,.str x10,.str x11,.str x12,.str x13,.str x14,kn,.str x16,.str x17,.str x18,.str x19,.str x20,.str x21,.str x22,.str x23,.str x24,.int .i64 t1,.int .i64 t2,.int .i64 t3,.int .i64 t4,.str x29,.str x30,.str x31]])=some ⟨.bool true,none,[]⟩) (hO4:O (.fn 83) [s,s] (m++[.cells true 0 [.int .i64 k,.str nm,b,u,s,.str x5,.str x6,.str x7,.str x8,.str x9,.str x10,.str x11,.str x12,.str x13,.str x14,kn,.str x16,.str x17,.str x18,.str x19,.str x20,.str x21,.str x22,.str x23,.str x24,.int .i64 t1,.int .i64 t2,.int .i64 t3,.int .i64 t4,.str x29,.str x30,.str x31],.cells true 0 [.int .i64 k,.str nm,b,u,s,.str x5,.str x6,.str x7,.str x8,.str x9,.str x10,.str x11,.str x12,.str x13,.str x14,kn,.str x16,.str x17,.str x18,.str x19,.str x20,.str x21,.str x22,.str x23,.str x24,.int .i64 t1,.int .i64 t2,.int .i64 t3,.int .i64 t4,.str x29,.str x30,.str x31]])=some ⟨.bool true,none,[]⟩) (hO7:O (.fn 84) [kn,kn] (m++[.cells true 0 [.int .i64 k,.str nm,b,u,s,.str x5,.str x6,.str x7,.str x8,.str x9,.str x10,.str x11,.str x12,.str x13,.str x14,kn,.str x16,.str x17,.str x18,.str x19,.str x20,.str x21,.str x22,.str x23,.str x24,.int .i64 t1,.int .i64 t2,.int .i64 t3,.int .i64 t4,.str x29,.str x30,.str x31],.cells true 0 [.int .i64 k,.str nm,b,u,s,.str x5,.str x6,.str x7,.str x8,.str x9,.str x10,.str x11,.str x12,.str x13,.str x14,kn,.str x16,.str x17,.str x18,.str x19,.str x20,.str x21,.str x22,.str x23,.str x24,.int .i64 t1,.int .i64 t2,.int .i64 t3,.int .i64 t4,.str x29,.str x30,.str x31]])=some ⟨.bool true,none,[]⟩):
  ACallsTo Tryz.prog 49 [.agg [.int .i64 k,.str nm,b,u,s,.str x5,.str x6,.str x7,.str x8,.str x9,.str x10,.str x11,.str x12,.str x13,.str x14,kn,.str x16,.str x17,.str x18,.str x19,.str x20,.str x21,.str x22,.str x23,.str x24,.int .i64 t1,.int .i64 t2,.int .i64 t3,.int .i64 t4,.str x29,.str x30,.str x31],.agg [.int .i64 k,.str nm,b,u,s,.str x5,.str x6,.str x7,.str x8,.str x9,.str x10,.str x11,.str x12,.str x13,.str x14,kn,.str x16,.str x17,.str x18,.str x19,.str x20,.str x21,.str x22,.str x23,.str x24,.int .i64 t1,.int .i64 t2,.int .i64 t3,.int .i64 t4,.str x29,.str x30,.str x31]] m (.bool true) m:=by
 have hG:aF Tryz.prog 49=some Tryz.f49:=by kernel_rfl
 obtain⟨ops,hops⟩:∃o,o=ah:=⟨_,rfl⟩
 obtain⟨F,hF⟩:=me (p:=fun e (_:Bool)=>ac e 2=.ptr m.length 0∧ac e 3=.ptr (m.length+1) 0) (q:=fun env (_:Bool) env' =>bE (aA Tryz.prog) O 92 m.length ops ops.toList ⟨env,(m++[.cells true 0 [.int .i64 k,.str nm,b,u,s,.str x5,.str x6,.str x7,.str x8,.str x9,.str x10,.str x11,.str x12,.str x13,.str x14,kn,.str x16,.str x17,.str x18,.str x19,.str x20,.str x21,.str x22,.str x23,.str x24,.int .i64 t1,.int .i64 t2,.int .i64 t3,.int .i64 t4,.str x29,.str x30,.str x31],.cells true 0 [.int .i64 k,.str nm,b,u,s,.str x5,.str x6,.str x7,.str x8,.str x9,.str x10,.str x11,.str x12,.str x13,.str x14,kn,.str x16,.str x17,.str x18,.str x19,.str x20,.str x21,.str x22,.str x23,.str x24,.int .i64 t1,.int .i64 t2,.int .i64 t3,.int .i64 t4,.str x29,.str x30,.str x31]]),false⟩=some ⟨env',(m++[.cells true 0 [.int .i64 k,.str nm,b,u,s,.str x5,.str x6,.str x7,.str x8,.str x9,.str x10,.str x11,.str x12,.str x13,.str x14,kn,.str x16,.str x17,.str x18,.str x19,.str x20,.str x21,.str x22,.str x23,.str x24,.int .i64 t1,.int .i64 t2,.int .i64 t3,.int .i64 t4,.str x29,.str x30,.str x31],.cells true 0 [.int .i64 k,.str nm,b,u,s,.str x5,.str x6,.str x7,.str x8,.str x9,.str x10,.str x11,.str x12,.str x13,.str x14,kn,.str x16,.str x17,.str x18,.str x19,.str x20,.str x21,.str x22,.str x23,.str x24,.int .i64 t1,.int .i64 t2,.int .i64 t3,.int .i64 t4,.str x29,.str x30,.str x31]]),false⟩∧ac env' 4=.bool true) (fun env _ h=>by
  subst hops
  have hp:((m++[.cells true 0 [.int .i64 k,.str nm,b,u,s,.str x5,.str x6,.str x7,.str x8,.str x9,.str x10,.str x11,.str x12,.str x13,.str x14,kn,.str x16,.str x17,.str x18,.str x19,.str x20,.str x21,.str x22,.str x23,.str x24,.int .i64 t1,.int .i64 t2,.int .i64 t3,.int .i64 t4,.str x29,.str x30,.str x31],.cells true 0 [.int .i64 k,.str nm,b,u,s,.str x5,.str x6,.str x7,.str x8,.str x9,.str x10,.str x11,.str x12,.str x13,.str x14,kn,.str x16,.str x17,.str x18,.str x19,.str x20,.str x21,.str x22,.str x23,.str x24,.int .i64 t1,.int .i64 t2,.int .i64 t3,.int .i64 t4,.str x29,.str x30,.str x31]]))[m.length]? =some (.cells true 0 [.int .i64 k,.str nm,b,u,s,.str x5,.str x6,.str x7,.str x8,.str x9,.str x10,.str x11,.str x12,.str x13,.str x14,kn,.str x16,.str x17,.str x18,.str x19,.str x20,.str x21,.str x22,.str x23,.str x24,.int .i64 t1,.int .i64 t2,.int .i64 t3,.int .i64 t4,.str x29,.str x30,.str x31]):=by simp
  have hq:((m++[.cells true 0 [.int .i64 k,.str nm,b,u,s,.str x5,.str x6,.str x7,.str x8,.str x9,.str x10,.str x11,.str x12,.str x13,.str x14,kn,.str x16,.str x17,.str x18,.str x19,.str x20,.str x21,.str x22,.str x23,.str x24,.int .i64 t1,.int .i64 t2,.int .i64 t3,.int .i64 t4,.str x29,.str x30,.str x31],.cells true 0 [.int .i64 k,.str nm,b,u,s,.str x5,.str x6,.str x7,.str x8,.str x9,.str x10,.str x11,.str x12,.str x13,.str x14,kn,.str x16,.str x17,.str x18,.str x19,.str x20,.str x21,.str x22,.str x23,.str x24,.int .i64 t1,.int .i64 t2,.int .i64 t3,.int .i64 t4,.str x29,.str x30,.str x31]]))[m.length+1]? =some (.cells true 0 [.int .i64 k,.str nm,b,u,s,.str x5,.str x6,.str x7,.str x8,.str x9,.str x10,.str x11,.str x12,.str x13,.str x14,kn,.str x16,.str x17,.str x18,.str x19,.str x20,.str x21,.str x22,.str x23,.str x24,.int .i64 t1,.int .i64 t2,.int .i64 t3,.int .i64 t4,.str x29,.str x30,.str x31]):=by simp
  exact JZ h.1 h.2 hp hq hO2 hO3 hO4 hO7)
 have hF1:=fun env h2 h3=>(hF env false ⟨h2,h3⟩).1
 have hF2:=fun env h2 h3=>(hF env false ⟨h2,h3⟩).2
 have h:ad (aA Tryz.prog) (fun _=>[]) (aF Tryz.prog) O 1 49 [.agg [.int .i64 k,.str nm,b,u,s,.str x5,.str x6,.str x7,.str x8,.str x9,.str x10,.str x11,.str x12,.str x13,.str x14,kn,.str x16,.str x17,.str x18,.str x19,.str x20,.str x21,.str x22,.str x23,.str x24,.int .i64 t1,.int .i64 t2,.int .i64 t3,.int .i64 t4,.str x29,.str x30,.str x31],.agg [.int .i64 k,.str nm,b,u,s,.str x5,.str x6,.str x7,.str x8,.str x9,.str x10,.str x11,.str x12,.str x13,.str x14,kn,.str x16,.str x17,.str x18,.str x19,.str x20,.str x21,.str x22,.str x23,.str x24,.int .i64 t1,.int .i64 t2,.int .i64 t3,.int .i64 t4,.str x29,.str x30,.str x31]] m=some ⟨.bool true,none,[]⟩:=by
  have hb:Tryz.f49.body=some (.seq (.region 0 mo false) (.seq (.region 1 ops false) .ret)):=by rw[hops];kernel_rfl
  unfold ad
  rw[hG]
  dsimp only
  rw[hb]
  dsimp only
  simp[hF1,hF2,mo,Tryz.f49]
 have:=(ae aa (aj _) hOk (al _) h).1
 simpa [CallRes.mem] using this
structure Evc where
 k:Int
 nm:List UInt8
 B:List (List UInt8):=[]
 U:List (List UInt8):=[]
 S:List (List (List UInt8)):=[]
 K:List (List UInt8×List UInt8):=[]
 (t1 t2 t3 t4:Int:=0)
 (x5 x6 x7 x8 x9 x10 x11 x12 x13 x14 x16 x17 x18 x19 x20 x21 x22 x23 x24 x29 x30 x31:List UInt8:=[])
def Evc.cells(c:Evc) (b u s kn:AV):List AV:=[.int .i64 c.k,.str c.nm,b,u,s,.str c.x5,.str c.x6,.str c.x7,.str c.x8,.str c.x9,.str c.x10,.str c.x11,.str c.x12,.str c.x13,.str c.x14,kn,.str c.x16,.str c.x17,.str c.x18,.str c.x19,.str c.x20,.str c.x21,.str c.x22,.str c.x23,.str c.x24,.int .i64 c.t1,.int .i64 c.t2,.int .i64 c.t3,.int .i64 c.t4,.str c.x29,.str c.x30,.str c.x31]
set_option maxRecDepth 4000 in
theorem IH{O:Oracle}{m0:Nat}{ops:Array Oper}{env:Env}{mem:Mem}{d:Bool}{p q:Nat}{c:Evc}{b u s kn b' u' s' kn' :AV}(h2:ac env 2=.ptr p 0) (h3:ac env 3=.ptr q 0) (hp:mem[p]? =some (.cells true 0 (c.cells b u s kn))) (hq:mem[q]? =some (.cells true 0 (c.cells b' u' s' kn'))):
  ∃env',bE (aA Tryz.prog) O 92 m0 ops ii ⟨env,mem,d⟩=some ⟨env',mem,d⟩∧ac env' 2=.ptr p 0∧ac env' 3=.ptr q 0∧ac env' 10=.bool true:=by
 have e0:=fun d=>rV d
 simp only[Evc.cells] at hp hq
 simp[ii,ah,Tryz.f49,h2,h3,hp,hq,e0]
set_option maxRecDepth 4000 in
theorem Hf{O:Oracle}{m0:Nat}{ops:Array Oper}{env:Env}{mem:Mem}{d:Bool}{p q:Nat}{c:Evc}{b u s kn b' u' s' kn' :AV}(h2:ac env 2=.ptr p 0) (h3:ac env 3=.ptr q 0) (hp:mem[p]? =some (.cells true 0 (c.cells b u s kn))) (hq:mem[q]? =some (.cells true 0 (c.cells b' u' s' kn'))) (hg:(ops[5]?).bind (fun x=>x.dst)=some 10) (h1:ac env 10=.bool true):
  ∃env',bE (aA Tryz.prog) O 92 m0 ops ig ⟨env,mem,d⟩=some ⟨env',mem,d⟩∧ac env' 2=.ptr p 0∧ac env' 3=.ptr q 0∧ac env' 17=.bool true:=by
 have e1:=fun d=>oJ d
 simp only[Evc.cells] at hp hq
 simp[ig,ah,Tryz.f49,h2,h3,hp,hq,hg,h1,e1]
set_option maxRecDepth 4000 in
theorem Hg{O:Oracle}{m0:Nat}{ops:Array Oper}{env:Env}{mem:Mem}{d:Bool}{p q:Nat}{c:Evc}{b u s kn b' u' s' kn' :AV}(h2:ac env 2=.ptr p 0) (h3:ac env 3=.ptr q 0) (hp:mem[p]? =some (.cells true 0 (c.cells b u s kn))) (hq:mem[q]? =some (.cells true 0 (c.cells b' u' s' kn'))) (hg:(ops[12]?).bind (fun x=>x.dst)=some 17) (h1:ac env 17=.bool true) (hO:O (.fn 82) [b,b'] mem=some ⟨.bool true,none,[]⟩):
  ∃env',bE (aA Tryz.prog) O 92 m0 ops iw ⟨env,mem,d⟩=some ⟨env',mem,d⟩∧ac env' 2=.ptr p 0∧ac env' 3=.ptr q 0∧ac env' 26=.bool true:=by
 simp only[Evc.cells] at hp hq
 simp[iw,ah,Tryz.f49,h2,h3,hp,hq,hg,h1,hO]
set_option maxRecDepth 4000 in
theorem Hx{O:Oracle}{m0:Nat}{ops:Array Oper}{env:Env}{mem:Mem}{d:Bool}{p q:Nat}{c:Evc}{b u s kn b' u' s' kn' :AV}(h2:ac env 2=.ptr p 0) (h3:ac env 3=.ptr q 0) (hp:mem[p]? =some (.cells true 0 (c.cells b u s kn))) (hq:mem[q]? =some (.cells true 0 (c.cells b' u' s' kn'))) (hg:(ops[21]?).bind (fun x=>x.dst)=some 26) (h1:ac env 26=.bool true) (hO:O (.fn 32) [u,u'] mem=some ⟨.bool true,none,[]⟩):
  ∃env',bE (aA Tryz.prog) O 92 m0 ops iv ⟨env,mem,d⟩=some ⟨env',mem,d⟩∧ac env' 2=.ptr p 0∧ac env' 3=.ptr q 0∧ac env' 35=.bool true:=by
 simp only[Evc.cells] at hp hq
 simp[iv,ah,Tryz.f49,h2,h3,hp,hq,hg,h1,hO]
set_option maxRecDepth 4000 in
theorem It{O:Oracle}{m0:Nat}{ops:Array Oper}{env:Env}{mem:Mem}{d:Bool}{p q:Nat}{c:Evc}{b u s kn b' u' s' kn' :AV}(h2:ac env 2=.ptr p 0) (h3:ac env 3=.ptr q 0) (hp:mem[p]? =some (.cells true 0 (c.cells b u s kn))) (hq:mem[q]? =some (.cells true 0 (c.cells b' u' s' kn'))) (hg:(ops[30]?).bind (fun x=>x.dst)=some 35) (h1:ac env 35=.bool true) (hO:O (.fn 83) [s,s'] mem=some ⟨.bool true,none,[]⟩):
  ∃env',bE (aA Tryz.prog) O 92 m0 ops iu ⟨env,mem,d⟩=some ⟨env',mem,d⟩∧ac env' 2=.ptr p 0∧ac env' 3=.ptr q 0∧ac env' 44=.bool true:=by
 simp only[Evc.cells] at hp hq
 simp[iu,ah,Tryz.f49,h2,h3,hp,hq,hg,h1,hO]
set_option maxRecDepth 4000 in
theorem H7{O:Oracle}{m0:Nat}{ops:Array Oper}{env:Env}{mem:Mem}{d:Bool}{p q:Nat}{c:Evc}{b u s kn b' u' s' kn' :AV}(h2:ac env 2=.ptr p 0) (h3:ac env 3=.ptr q 0) (hp:mem[p]? =some (.cells true 0 (c.cells b u s kn))) (hq:mem[q]? =some (.cells true 0 (c.cells b' u' s' kn'))) (hg:(ops[39]?).bind (fun x=>x.dst)=some 44) (h1:ac env 44=.bool true):
  ∃env',bE (aA Tryz.prog) O 92 m0 ops gU ⟨env,mem,d⟩=some ⟨env',mem,d⟩∧ac env' 2=.ptr p 0∧ac env' 3=.ptr q 0∧ac env' 51=.bool true:=by
 have e2:=fun d=>tY d
 simp only[Evc.cells] at hp hq
 simp[gU,ah,Tryz.f49,h2,h3,hp,hq,hg,h1,e2]
set_option maxRecDepth 4000 in
theorem IB{O:Oracle}{m0:Nat}{ops:Array Oper}{env:Env}{mem:Mem}{d:Bool}{p q:Nat}{c:Evc}{b u s kn b' u' s' kn' :AV}(h2:ac env 2=.ptr p 0) (h3:ac env 3=.ptr q 0) (hp:mem[p]? =some (.cells true 0 (c.cells b u s kn))) (hq:mem[q]? =some (.cells true 0 (c.cells b' u' s' kn'))) (hg:(ops[46]?).bind (fun x=>x.dst)=some 51) (h1:ac env 51=.bool true):
  ∃env',bE (aA Tryz.prog) O 92 m0 ops im ⟨env,mem,d⟩=some ⟨env',mem,d⟩∧ac env' 2=.ptr p 0∧ac env' 3=.ptr q 0∧ac env' 60=.bool true:=by
 have e3:=fun d=>gK d
 simp only[Evc.cells] at hp hq
 simp[im,ah,Tryz.f49,h2,h3,hp,hq,hg,h1,e3]
set_option maxRecDepth 4000 in
theorem Ix{O:Oracle}{m0:Nat}{ops:Array Oper}{env:Env}{mem:Mem}{d:Bool}{p q:Nat}{c:Evc}{b u s kn b' u' s' kn' :AV}(h2:ac env 2=.ptr p 0) (h3:ac env 3=.ptr q 0) (hp:mem[p]? =some (.cells true 0 (c.cells b u s kn))) (hq:mem[q]? =some (.cells true 0 (c.cells b' u' s' kn'))) (hg:(ops[55]?).bind (fun x=>x.dst)=some 60) (h1:ac env 60=.bool true) (hO:O (.fn 84) [kn,kn'] mem=some ⟨.bool true,none,[]⟩):
  ∃env',bE (aA Tryz.prog) O 92 m0 ops gX ⟨env,mem,d⟩=some ⟨env',mem,d⟩∧ac env' 2=.ptr p 0∧ac env' 3=.ptr q 0∧ac env' 69=.bool true:=by
 simp only[Evc.cells] at hp hq
 simp[gX,ah,Tryz.f49,h2,h3,hp,hq,hg,h1,hO]
set_option maxRecDepth 4000 in
theorem I3{O:Oracle}{m0:Nat}{ops:Array Oper}{env:Env}{mem:Mem}{d:Bool}{p q:Nat}{c:Evc}{b u s kn b' u' s' kn' :AV}(h2:ac env 2=.ptr p 0) (h3:ac env 3=.ptr q 0) (hp:mem[p]? =some (.cells true 0 (c.cells b u s kn))) (hq:mem[q]? =some (.cells true 0 (c.cells b' u' s' kn'))) (hg:(ops[64]?).bind (fun x=>x.dst)=some 69) (h1:ac env 69=.bool true):
  ∃env',bE (aA Tryz.prog) O 92 m0 ops il ⟨env,mem,d⟩=some ⟨env',mem,d⟩∧ac env' 2=.ptr p 0∧ac env' 3=.ptr q 0∧ac env' 78=.bool true:=by
 have e3:=fun d=>gK d
 simp only[Evc.cells] at hp hq
 simp[il,ah,Tryz.f49,h2,h3,hp,hq,hg,h1,e3]
set_option maxRecDepth 4000 in
theorem Hq{O:Oracle}{m0:Nat}{ops:Array Oper}{env:Env}{mem:Mem}{d:Bool}{p q:Nat}{c:Evc}{b u s kn b' u' s' kn' :AV}(h2:ac env 2=.ptr p 0) (h3:ac env 3=.ptr q 0) (hp:mem[p]? =some (.cells true 0 (c.cells b u s kn))) (hq:mem[q]? =some (.cells true 0 (c.cells b' u' s' kn'))) (hg:(ops[73]?).bind (fun x=>x.dst)=some 78) (h1:ac env 78=.bool true):
  ∃env',bE (aA Tryz.prog) O 92 m0 ops ij ⟨env,mem,d⟩=some ⟨env',mem,d⟩∧ac env' 2=.ptr p 0∧ac env' 3=.ptr q 0∧ac env' 85=.bool true:=by
 have e4:=fun d=>yy d
 simp only[Evc.cells] at hp hq
 simp[ij,ah,Tryz.f49,h2,h3,hp,hq,hg,h1,e4]
set_option maxRecDepth 4000 in
theorem G4{O:Oracle}{m0:Nat}{ops:Array Oper}{env:Env}{mem:Mem}{d:Bool}{p q:Nat}{c:Evc}{b u s kn b' u' s' kn' :AV}(h2:ac env 2=.ptr p 0) (h3:ac env 3=.ptr q 0) (hp:mem[p]? =some (.cells true 0 (c.cells b u s kn))) (hq:mem[q]? =some (.cells true 0 (c.cells b' u' s' kn'))) (hg:(ops[80]?).bind (fun x=>x.dst)=some 85) (h1:ac env 85=.bool true):
  ∃env',bE (aA Tryz.prog) O 92 m0 ops gp ⟨env,mem,d⟩=some ⟨env',mem,d⟩∧ac env' 2=.ptr p 0∧ac env' 3=.ptr q 0∧ac env' 4=.bool true:=by
 have e5:=fun d=>wD d
 simp only[Evc.cells] at hp hq
 simp[gp,ah,Tryz.f49,h2,h3,hp,hq,hg,h1,e5]
theorem KQ{O:Oracle}{m0:Nat}{env:Env}{mem:Mem}{d:Bool}{p q:Nat}{c:Evc}{b u s kn b' u' s' kn' :AV}(h2:ac env 2=.ptr p 0) (h3:ac env 3=.ptr q 0) (hp:mem[p]? =some (.cells true 0 (c.cells b u s kn))) (hq:mem[q]? =some (.cells true 0 (c.cells b' u' s' kn'))) (hO2:O (.fn 82) [b,b'] mem=some ⟨.bool true,none,[]⟩) (hO3:O (.fn 32) [u,u'] mem=some ⟨.bool true,none,[]⟩) (hO4:O (.fn 83) [s,s'] mem=some ⟨.bool true,none,[]⟩) (hO7:O (.fn 84) [kn,kn'] mem=some ⟨.bool true,none,[]⟩):
  ∃env',bE (aA Tryz.prog) O 92 m0 ah ah.toList ⟨env,mem,d⟩=some ⟨env',mem,d⟩∧ac env' 4=.bool true:=by
 have g1:(ah[5]?).bind (fun x=>x.dst)=some 10:=by kernel_rfl
 have g2:(ah[12]?).bind (fun x=>x.dst)=some 17:=by kernel_rfl
 have g3:(ah[21]?).bind (fun x=>x.dst)=some 26:=by kernel_rfl
 have g4:(ah[30]?).bind (fun x=>x.dst)=some 35:=by kernel_rfl
 have g5:(ah[39]?).bind (fun x=>x.dst)=some 44:=by kernel_rfl
 have g6:(ah[46]?).bind (fun x=>x.dst)=some 51:=by kernel_rfl
 have g7:(ah[55]?).bind (fun x=>x.dst)=some 60:=by kernel_rfl
 have g8:(ah[64]?).bind (fun x=>x.dst)=some 69:=by kernel_rfl
 have g9:(ah[73]?).bind (fun x=>x.dst)=some 78:=by kernel_rfl
 have g10:(ah[80]?).bind (fun x=>x.dst)=some 85:=by kernel_rfl
 obtain⟨e0,r0,h2_0,h3_0,b0⟩:=IH (O:=O) (m0:=m0) (ops:=ah) (d:=d) h2 h3 hp hq
 obtain⟨e1,r1,h2_1,h3_1,b1⟩:=Hf (O:=O) (m0:=m0) (ops:=ah) (d:=d) h2_0 h3_0 hp hq g1 b0
 obtain⟨e2,r2,h2_2,h3_2,b2⟩:=Hg (O:=O) (m0:=m0) (ops:=ah) (d:=d) h2_1 h3_1 hp hq g2 b1 hO2
 obtain⟨e3,r3,h2_3,h3_3,b3⟩:=Hx (O:=O) (m0:=m0) (ops:=ah) (d:=d) h2_2 h3_2 hp hq g3 b2 hO3
 obtain⟨e4,r4,h2_4,h3_4,b4⟩:=It (O:=O) (m0:=m0) (ops:=ah) (d:=d) h2_3 h3_3 hp hq g4 b3 hO4
 obtain⟨e5,r5,h2_5,h3_5,b5⟩:=H7 (O:=O) (m0:=m0) (ops:=ah) (d:=d) h2_4 h3_4 hp hq g5 b4
 obtain⟨e6,r6,h2_6,h3_6,b6⟩:=IB (O:=O) (m0:=m0) (ops:=ah) (d:=d) h2_5 h3_5 hp hq g6 b5
 obtain⟨e7,r7,h2_7,h3_7,b7⟩:=Ix (O:=O) (m0:=m0) (ops:=ah) (d:=d) h2_6 h3_6 hp hq g7 b6 hO7
 obtain⟨e8,r8,h2_8,h3_8,b8⟩:=I3 (O:=O) (m0:=m0) (ops:=ah) (d:=d) h2_7 h3_7 hp hq g8 b7
 obtain⟨e9,r9,h2_9,h3_9,b9⟩:=Hq (O:=O) (m0:=m0) (ops:=ah) (d:=d) h2_8 h3_8 hp hq g9 b8
 obtain⟨e10,r10,h2_10,h3_10,b10⟩:=G4 (O:=O) (m0:=m0) (ops:=ah) (d:=d) h2_9 h3_9 hp hq g10 b9
 exact⟨e10,by rw[uj];exact be r0 (be r1 (be r2 (be r3 (be r4 (be r5 (be r6 (be r7 (be r8 (be r9 (r10)))))))))),b10⟩
set_option maxRecDepth 4000 in
theorem Ln{O:Oracle}(hOk:OracleOk Tryz.prog O) {m:Mem}{c:Evc}{b u s kn b' u' s' kn' :AV}(hO2:O (.fn 82) [b,b'] (m++[.cells true 0 (c.cells b u s kn),.cells true 0 (c.cells b' u' s' kn')])=some ⟨.bool true,none,[]⟩) (hO3:O (.fn 32) [u,u'] (m++[.cells true 0 (c.cells b u s kn),.cells true 0 (c.cells b' u' s' kn')])=some ⟨.bool true,none,[]⟩) (hO4:O (.fn 83) [s,s'] (m++[.cells true 0 (c.cells b u s kn),.cells true 0 (c.cells b' u' s' kn')])=some ⟨.bool true,none,[]⟩) (hO7:O (.fn 84) [kn,kn'] (m++[.cells true 0 (c.cells b u s kn),.cells true 0 (c.cells b' u' s' kn')])=some ⟨.bool true,none,[]⟩):
  ACallsTo Tryz.prog 49 [.agg (c.cells b u s kn),.agg (c.cells b' u' s' kn')] m (.bool true) m:=by
 have hG:aF Tryz.prog 49=some Tryz.f49:=by kernel_rfl
 obtain⟨ops,hops⟩:∃o,o=ah:=⟨_,rfl⟩
 obtain⟨F,hF⟩:=me (p:=fun e (_:Bool)=>ac e 2=.ptr m.length 0∧ac e 3=.ptr (m.length+1) 0) (q:=fun env (_:Bool) env' =>bE (aA Tryz.prog) O 92 m.length ops ops.toList ⟨env,(m++[.cells true 0 (c.cells b u s kn),.cells true 0 (c.cells b' u' s' kn')]),false⟩=some ⟨env',(m++[.cells true 0 (c.cells b u s kn),.cells true 0 (c.cells b' u' s' kn')]),false⟩∧ac env' 4=.bool true) (fun env _ h=>by
  subst hops
  have hp:((m++[.cells true 0 (c.cells b u s kn),.cells true 0 (c.cells b' u' s' kn')]))[m.length]? =some (.cells true 0 (c.cells b u s kn)):=by simp
  have hq:((m++[.cells true 0 (c.cells b u s kn),.cells true 0 (c.cells b' u' s' kn')]))[m.length+1]? =some (.cells true 0 (c.cells b' u' s' kn')):=by simp
  exact KQ h.1 h.2 hp hq hO2 hO3 hO4 hO7)
 have hF1:=fun env h2 h3=>(hF env false ⟨h2,h3⟩).1
 have hF2:=fun env h2 h3=>(hF env false ⟨h2,h3⟩).2
 have h:ad (aA Tryz.prog) (fun _=>[]) (aF Tryz.prog) O 1 49 [.agg (c.cells b u s kn),.agg (c.cells b' u' s' kn')] m=some ⟨.bool true,none,[]⟩:=by
  have hb:Tryz.f49.body=some (.seq (.region 0 mo false) (.seq (.region 1 ops false) .ret)):=by rw[hops];kernel_rfl
  unfold ad
  rw[hG]
  dsimp only
  rw[hb]
  dsimp only
  simp only[Evc.cells] at hF1 hF2 ⊢
  simp[hF1,hF2,mo,Tryz.f49]
 have:=(ae aa (aj _) hOk (al _) h).1
 simpa [CallRes.mem] using this
end Go.Proofs
