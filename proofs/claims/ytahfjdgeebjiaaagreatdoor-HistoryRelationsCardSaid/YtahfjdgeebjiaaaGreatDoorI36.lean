/- See I57. -/
import Derived.Test.YtahfjdgeebjiaaaGreatDoorI28
import Derived.Test.YtahfjdgeebjiaaaGreatDoorI30
import Derived.Test.YtahfjdgeebjiaaaGreatDoorI35
set_option linter.all false
namespace Go.Proofs
open Go.Eng
section
variable (d : Nat)
theorem Tryz.eqS9 (x y : List UInt8) : eqTy (tyOf Tryz.prog) (d + 1) 9 (.str x) (.str y) = some (x == y) := by rw [eqTy]; simp
theorem Tryz.eqI3 (x y : Int) : eqTy (tyOf Tryz.prog) (d + 1) 3 (.int .i64 x) (.int .i64 y) = some (decide (x = y)) := by rw [eqTy]; simp
theorem Tryz.eqVec (a b c : List UInt8) : eqTy (tyOf Tryz.prog) (d + 2) 57 (.agg [.str a,.str b,.str c]) (.agg [.str a,.str b,.str c]) = some true := by
 have i := Tryz.eqTxt d
 rw [eqTy]
 simp [eqFs,partA,TyI.isAgg,i]
theorem Tryz.eqPlane (a b c o : List UInt8) : eqTy (tyOf Tryz.prog) (d + 3) 59 (.agg [.str a,.str b,.str c,.str o]) (.agg [.str a,.str b,.str c,.str o]) = some true := by
 have i := Tryz.eqTxt (d + 1)
 have j := Tryz.eqVec d
 rw [eqTy]
 simp [eqFs,partA,TyI.isAgg,i,j]
theorem Tryz.eqFault (a b c o e f g : List UInt8) : eqTy (tyOf Tryz.prog) (d + 4) 61 (.agg [.str a,.str b,.str c,.str o,.str e,.str f,.str g]) (.agg [.str a,.str b,.str c,.str o,.str e,.str f,.str g]) = some true := by
 have j := Tryz.eqVec (d + 1)
 have k := Tryz.eqPlane d
 rw [eqTy]
 simp [eqFs,partA,TyI.isAgg,j,k]
theorem Tryz.eqDike (a b c o w u : List UInt8) : eqTy (tyOf Tryz.prog) (d + 4) 66 (.agg [.str a,.str b,.str c,.str o,.str w,.str u]) (.agg [.str a,.str b,.str c,.str o,.str w,.str u]) = some true := by
 have i := Tryz.eqTxt (d + 2)
 have i2 := Tryz.eqS9 (d + 2)
 have k := Tryz.eqPlane d
 rw [eqTy]
 simp [eqFs,partA,TyI.isAgg,i,i2,k]
theorem Tryz.eqTurn (t u v w : Int) : eqTy (tyOf Tryz.prog) (d + 2) 67 (.agg [.int .i64 t,.int .i64 u,.int .i64 v,.int .i64 w]) (.agg [.int .i64 t,.int .i64 u,.int .i64 v,.int .i64 w]) = some true := by
 have r : List.range' 0 4 = [0,1,2,3] := rfl
 have i := Tryz.eqI3 d
 rw [eqTy]
 simp only [Tryz.y67,Tryz.y3,r,eqEs]
 simp [partA,TyI.isAgg,i]
theorem Tryz.eqTilt (t u v w : Int) (a b c : List UInt8) : eqTy (tyOf Tryz.prog) (d + 3) 69 (.agg [.int .i64 t,.int .i64 u,.int .i64 v,.int .i64 w,.str a,.str b,.str c]) (.agg [.int .i64 t,.int .i64 u,.int .i64 v,.int .i64 w,.str a,.str b,.str c]) = some true := by
 have j := Tryz.eqVec (d + 0)
 have k := Tryz.eqTurn d
 rw [eqTy]
 simp [eqFs,partA,TyI.isAgg,j,k]
end
theorem Tryz.aFEqNil (M : Mem) : ACallsTo Tryz.prog 142 [.nilslice,.nilslice] M (.bool true) M := by
 have h0 : ∀ M,ACallsTo Tryz.prog 225 [.nilslice,.nilslice] M (.bool true) M := fun M => by
  have hG : fnOf Tryz.prog 225 = some Tryz.f225 := by kernel_rfl
  refine Tryz.run (noOracle_ok _) (lv := fun _ => [13]) (K := 3) rfl rfl ?_ M
  simp [callFn,hG,Tryz.f225,execC_loop,iter]
 have hO : OracleOk Tryz.prog (pureO fun f args => match f,args with
   | 225,[.nilslice,.nilslice] => some (.bool true)
   | _,_ => none) := pureO_ok fun f args v h mem => by
  split at h
  ·cases h; exact h0 mem
  ·cases h
 have hG : fnOf Tryz.prog 142 = some Tryz.f142 := by kernel_rfl
 refine Tryz.run hO (lv := fun _ => [13]) (K := 3) rfl rfl ?_ M
 simp [callFn,hG,Tryz.f142,pureO]
theorem Tryz.aSEqNil (M : Mem) : ACallsTo Tryz.prog 14 [.nilslice,.nilslice] M (.bool true) M := by
 have hG : fnOf Tryz.prog 14 = some Tryz.f14 := by kernel_rfl
 refine Tryz.run (noOracle_ok _) (lv := fun _ => [13]) (K := 3) rfl rfl ?_ M
 simp [callFn,hG,Tryz.f14,execC_loop,iter]
theorem Tryz.aKEqNil (M : Mem) : ACallsTo Tryz.prog 144 [.nilslice,.nilslice] M (.bool true) M := by
 have hG : fnOf Tryz.prog 144 = some Tryz.f144 := by kernel_rfl
 refine Tryz.run (noOracle_ok _) (lv := fun _ => [13]) (K := 3) rfl rfl ?_ M
 simp [callFn,hG,Tryz.f144,execC_loop,iter]
theorem Tryz.aSFNil (M : Mem) : ACallsTo Tryz.prog 143 [.nilslice,.nilslice] M (.bool true) M := by
 have h0 : ∀ M,ACallsTo Tryz.prog 226 [.nilslice,.nilslice,.func 142 []] M (.bool true) M := fun M => by
  have hG : fnOf Tryz.prog 226 = some Tryz.f226 := by kernel_rfl
  refine Tryz.run (noOracle_ok _) (lv := fun _ => [17]) (K := 3) rfl rfl ?_ M
  simp [callFn,hG,Tryz.f226,execC_loop,iter]
 have hO : OracleOk Tryz.prog (pureO fun f args => match f,args with
   | 226,[.nilslice,.nilslice,.func 142 []] => some (.bool true)
   | _,_ => none) := pureO_ok fun f args v h mem => by
  split at h
  ·cases h; exact h0 mem
  ·cases h
 have hG : fnOf Tryz.prog 143 = some Tryz.f143 := by kernel_rfl
 refine Tryz.run hO (lv := fun _ => []) (K := 3) rfl rfl ?_ M
 simp [callFn,hG,Tryz.f143,pureO]
end Go.Proofs
namespace Go.Proofs
open Go.Eng
def eNames : List (List UInt8) := [[101,48],[101,49],[101,50],[101,51],[101,52],[101,53],[107,48],[107,49],[107,50],[107,51],[107,52],[107,53],[65,49],[65,50],[65,51],[66,49],[66,50],[66,51],[67,49],[67,50],[67,51],[68,49],[68,50],[68,51],[69,49],[69,50],[69,51],[70,49],[70,50],[70,51]]
theorem Tryz.aEName (nm : List UInt8) (h : nm ∈ eNames) (M : Mem) : ACallsTo Tryz.prog 86 [.str nm] M (.int .i64 0) M := by
 refine Tryz.run (noOracle_ok _) (lv := writesC) (K := 6) rfl rfl ?_ M
 simp only [eNames,List.mem_cons,List.not_mem_nil,or_false] at h
 rcases h with h | h | h | h | h | h | h | h | h | h | h | h | h | h | h | h | h | h | h | h | h | h | h | h | h | h | h | h | h | h <;> (subst h; as_aux_lemma => kernel_rfl)
theorem evName_mem {i : Nat} (h : i < 6) : evName i ∈ eNames := by
 have : i = 0 ∨ i = 1 ∨ i = 2 ∨ i = 3 ∨ i = 4 ∨ i = 5 := by omega
 rcases this with rfl | rfl | rfl | rfl | rfl | rfl <;> decide
theorem dikeName_mem {i : Nat} (h : i < 6) : dikeName i ∈ eNames := by
 have : i = 0 ∨ i = 1 ∨ i = 2 ∨ i = 3 ∨ i = 4 ∨ i = 5 := by omega
 rcases this with rfl | rfl | rfl | rfl | rfl | rfl <;> decide
theorem unit_mem {i J : Nat} (h : i < 6) (hJ : J < 3) : ∀ u ∈ unitsL i J,u ∈ eNames := by
 have hi : i = 0 ∨ i = 1 ∨ i = 2 ∨ i = 3 ∨ i = 4 ∨ i = 5 := by omega
 have hj : J = 0 ∨ J = 1 ∨ J = 2 := by omega
 rcases hi with rfl | rfl | rfl | rfl | rfl | rfl <;> rcases hj with rfl | rfl | rfl <;> decide
def Tryz.kindC : List AV := (List.range 25).map fun i => .func (200 + i) []
theorem Tryz.aEKinds (M : Mem) : ACallsTo Tryz.prog 141 [] M (.agg Tryz.kindC) M := by
 refine Tryz.run (noOracle_ok _) (lv := writesC) (K := 6) rfl rfl ?_ M
 as_aux_lemma => kernel_rfl
theorem runOps_append {T : TypeId → Option TyI} {O : Oracle} {N m0 : Nat} {ops : Array Oper} : ∀ (a b : List Oper) (s : XS),runOps T O N m0 ops (a ++ b) s = (runOps T O N m0 ops a s).bind (runOps T O N m0 ops b)
 | [],b,s => rfl
 | o :: a,b,s => by
  rw [List.cons_append,runOps,runOps]
  split
  ·split
   ·split
    ·exact runOps_append a b _
    ·rfl
   ·exact runOps_append a b _
   ·rfl
  ·rfl
theorem runOps_join {T : TypeId → Option TyI} {O : Oracle} {N m0 : Nat} {ops : Array Oper} {a b : List Oper} {s s1 : XS} {r : Option XS} (h : runOps T O N m0 ops a s = some s1) (h2 : runOps T O N m0 ops b s1 = r) : runOps T O N m0 ops (a ++ b) s = r := by
 rw [runOps_append,h]; exact h2
noncomputable def Tryz.eqOps : Array Oper := match Tryz.f88.body with
 | some (.seq _ (.seq (.region _ ops _) _)) => ops
 | _ => #[]
noncomputable def Tryz.eqPart0 : List Oper := (Tryz.eqOps.toList.drop 0).take 6
noncomputable def Tryz.eqPart1 : List Oper := (Tryz.eqOps.toList.drop 6).take 7
noncomputable def Tryz.eqPart2 : List Oper := (Tryz.eqOps.toList.drop 13).take 9
noncomputable def Tryz.eqPart3 : List Oper := (Tryz.eqOps.toList.drop 22).take 9
noncomputable def Tryz.eqPart4 : List Oper := (Tryz.eqOps.toList.drop 31).take 9
noncomputable def Tryz.eqPart5 : List Oper := (Tryz.eqOps.toList.drop 40).take 7
noncomputable def Tryz.eqPart6 : List Oper := (Tryz.eqOps.toList.drop 47).take 9
noncomputable def Tryz.eqPart7 : List Oper := (Tryz.eqOps.toList.drop 56).take 9
noncomputable def Tryz.eqPart8 : List Oper := (Tryz.eqOps.toList.drop 65).take 9
noncomputable def Tryz.eqPart9 : List Oper := (Tryz.eqOps.toList.drop 74).take 7
noncomputable def Tryz.eqPart10 : List Oper := (Tryz.eqOps.toList.drop 81).take 7
theorem Tryz.eqParts : Tryz.eqOps.toList = Tryz.eqPart0 ++ (Tryz.eqPart1 ++ (Tryz.eqPart2 ++ (Tryz.eqPart3 ++ (Tryz.eqPart4 ++ (Tryz.eqPart5 ++ (Tryz.eqPart6 ++ (Tryz.eqPart7 ++ (Tryz.eqPart8 ++ (Tryz.eqPart9 ++ (Tryz.eqPart10)))))))))) := by kernel_rfl
set_option maxRecDepth 4000 in
theorem Tryz.eqRun0 {O : Oracle} {m0 : Nat} {ops : Array Oper} {env : Env} {mem : Mem} {d : Bool} {p q : Nat} {k t1 t2 t3 t4 : Int} {nm x5 x6 x7 x8 x9 x10 x11 x12 x13 x14 x16 x17 x18 x19 x20 x21 x22 x23 x24 x29 x30 x31 : List UInt8} {b u s kn : AV} (h2 : Eng.look env 2 = .ptr p 0) (h3 : Eng.look env 3 = .ptr q 0) (hp : mem[p]? = some (.cells true 0 [.int .i64 k,.str nm,b,u,s,.str x5,.str x6,.str x7,.str x8,.str x9,.str x10,.str x11,.str x12,.str x13,.str x14,kn,.str x16,.str x17,.str x18,.str x19,.str x20,.str x21,.str x22,.str x23,.str x24,.int .i64 t1,.int .i64 t2,.int .i64 t3,.int .i64 t4,.str x29,.str x30,.str x31])) (hq : mem[q]? = some (.cells true 0 [.int .i64 k,.str nm,b,u,s,.str x5,.str x6,.str x7,.str x8,.str x9,.str x10,.str x11,.str x12,.str x13,.str x14,kn,.str x16,.str x17,.str x18,.str x19,.str x20,.str x21,.str x22,.str x23,.str x24,.int .i64 t1,.int .i64 t2,.int .i64 t3,.int .i64 t4,.str x29,.str x30,.str x31])) :
  ∃ env',runOps (tyOf Tryz.prog) O 92 m0 ops Tryz.eqPart0 ⟨env,mem,d⟩ = some ⟨env',mem,d⟩ ∧ Eng.look env' 2 = .ptr p 0 ∧ Eng.look env' 3 = .ptr q 0 ∧ Eng.look env' 10 = .bool true := by
 have e0 := fun d => Tryz.eqI3 d
 simp [Tryz.eqPart0,Tryz.eqOps,Tryz.f88,h2,h3,hp,hq,e0]
set_option maxRecDepth 4000 in
theorem Tryz.eqRun1 {O : Oracle} {m0 : Nat} {ops : Array Oper} {env : Env} {mem : Mem} {d : Bool} {p q : Nat} {k t1 t2 t3 t4 : Int} {nm x5 x6 x7 x8 x9 x10 x11 x12 x13 x14 x16 x17 x18 x19 x20 x21 x22 x23 x24 x29 x30 x31 : List UInt8} {b u s kn : AV} (h2 : Eng.look env 2 = .ptr p 0) (h3 : Eng.look env 3 = .ptr q 0) (hp : mem[p]? = some (.cells true 0 [.int .i64 k,.str nm,b,u,s,.str x5,.str x6,.str x7,.str x8,.str x9,.str x10,.str x11,.str x12,.str x13,.str x14,kn,.str x16,.str x17,.str x18,.str x19,.str x20,.str x21,.str x22,.str x23,.str x24,.int .i64 t1,.int .i64 t2,.int .i64 t3,.int .i64 t4,.str x29,.str x30,.str x31])) (hq : mem[q]? = some (.cells true 0 [.int .i64 k,.str nm,b,u,s,.str x5,.str x6,.str x7,.str x8,.str x9,.str x10,.str x11,.str x12,.str x13,.str x14,kn,.str x16,.str x17,.str x18,.str x19,.str x20,.str x21,.str x22,.str x23,.str x24,.int .i64 t1,.int .i64 t2,.int .i64 t3,.int .i64 t4,.str x29,.str x30,.str x31])) (hg : (ops[5]?).bind (fun x => x.dst) = some 10) (h1 : Eng.look env 10 = .bool true) :
  ∃ env',runOps (tyOf Tryz.prog) O 92 m0 ops Tryz.eqPart1 ⟨env,mem,d⟩ = some ⟨env',mem,d⟩ ∧ Eng.look env' 2 = .ptr p 0 ∧ Eng.look env' 3 = .ptr q 0 ∧ Eng.look env' 17 = .bool true := by
 have e1 := fun d => Tryz.eqS9 d
 simp [Tryz.eqPart1,Tryz.eqOps,Tryz.f88,h2,h3,hp,hq,hg,h1,e1]
set_option maxRecDepth 4000 in
theorem Tryz.eqRun2 {O : Oracle} {m0 : Nat} {ops : Array Oper} {env : Env} {mem : Mem} {d : Bool} {p q : Nat} {k t1 t2 t3 t4 : Int} {nm x5 x6 x7 x8 x9 x10 x11 x12 x13 x14 x16 x17 x18 x19 x20 x21 x22 x23 x24 x29 x30 x31 : List UInt8} {b u s kn : AV} (h2 : Eng.look env 2 = .ptr p 0) (h3 : Eng.look env 3 = .ptr q 0) (hp : mem[p]? = some (.cells true 0 [.int .i64 k,.str nm,b,u,s,.str x5,.str x6,.str x7,.str x8,.str x9,.str x10,.str x11,.str x12,.str x13,.str x14,kn,.str x16,.str x17,.str x18,.str x19,.str x20,.str x21,.str x22,.str x23,.str x24,.int .i64 t1,.int .i64 t2,.int .i64 t3,.int .i64 t4,.str x29,.str x30,.str x31])) (hq : mem[q]? = some (.cells true 0 [.int .i64 k,.str nm,b,u,s,.str x5,.str x6,.str x7,.str x8,.str x9,.str x10,.str x11,.str x12,.str x13,.str x14,kn,.str x16,.str x17,.str x18,.str x19,.str x20,.str x21,.str x22,.str x23,.str x24,.int .i64 t1,.int .i64 t2,.int .i64 t3,.int .i64 t4,.str x29,.str x30,.str x31])) (hg : (ops[12]?).bind (fun x => x.dst) = some 17) (h1 : Eng.look env 17 = .bool true) (hO : O (.fn 142) [b,b] mem = some ⟨.bool true,none,[]⟩) :
  ∃ env',runOps (tyOf Tryz.prog) O 92 m0 ops Tryz.eqPart2 ⟨env,mem,d⟩ = some ⟨env',mem,d⟩ ∧ Eng.look env' 2 = .ptr p 0 ∧ Eng.look env' 3 = .ptr q 0 ∧ Eng.look env' 26 = .bool true := by
 simp [Tryz.eqPart2,Tryz.eqOps,Tryz.f88,h2,h3,hp,hq,hg,h1,hO]
set_option maxRecDepth 4000 in
theorem Tryz.eqRun3 {O : Oracle} {m0 : Nat} {ops : Array Oper} {env : Env} {mem : Mem} {d : Bool} {p q : Nat} {k t1 t2 t3 t4 : Int} {nm x5 x6 x7 x8 x9 x10 x11 x12 x13 x14 x16 x17 x18 x19 x20 x21 x22 x23 x24 x29 x30 x31 : List UInt8} {b u s kn : AV} (h2 : Eng.look env 2 = .ptr p 0) (h3 : Eng.look env 3 = .ptr q 0) (hp : mem[p]? = some (.cells true 0 [.int .i64 k,.str nm,b,u,s,.str x5,.str x6,.str x7,.str x8,.str x9,.str x10,.str x11,.str x12,.str x13,.str x14,kn,.str x16,.str x17,.str x18,.str x19,.str x20,.str x21,.str x22,.str x23,.str x24,.int .i64 t1,.int .i64 t2,.int .i64 t3,.int .i64 t4,.str x29,.str x30,.str x31])) (hq : mem[q]? = some (.cells true 0 [.int .i64 k,.str nm,b,u,s,.str x5,.str x6,.str x7,.str x8,.str x9,.str x10,.str x11,.str x12,.str x13,.str x14,kn,.str x16,.str x17,.str x18,.str x19,.str x20,.str x21,.str x22,.str x23,.str x24,.int .i64 t1,.int .i64 t2,.int .i64 t3,.int .i64 t4,.str x29,.str x30,.str x31])) (hg : (ops[21]?).bind (fun x => x.dst) = some 26) (h1 : Eng.look env 26 = .bool true) (hO : O (.fn 14) [u,u] mem = some ⟨.bool true,none,[]⟩) :
  ∃ env',runOps (tyOf Tryz.prog) O 92 m0 ops Tryz.eqPart3 ⟨env,mem,d⟩ = some ⟨env',mem,d⟩ ∧ Eng.look env' 2 = .ptr p 0 ∧ Eng.look env' 3 = .ptr q 0 ∧ Eng.look env' 35 = .bool true := by
 simp [Tryz.eqPart3,Tryz.eqOps,Tryz.f88,h2,h3,hp,hq,hg,h1,hO]
set_option maxRecDepth 4000 in
theorem Tryz.eqRun4 {O : Oracle} {m0 : Nat} {ops : Array Oper} {env : Env} {mem : Mem} {d : Bool} {p q : Nat} {k t1 t2 t3 t4 : Int} {nm x5 x6 x7 x8 x9 x10 x11 x12 x13 x14 x16 x17 x18 x19 x20 x21 x22 x23 x24 x29 x30 x31 : List UInt8} {b u s kn : AV} (h2 : Eng.look env 2 = .ptr p 0) (h3 : Eng.look env 3 = .ptr q 0) (hp : mem[p]? = some (.cells true 0 [.int .i64 k,.str nm,b,u,s,.str x5,.str x6,.str x7,.str x8,.str x9,.str x10,.str x11,.str x12,.str x13,.str x14,kn,.str x16,.str x17,.str x18,.str x19,.str x20,.str x21,.str x22,.str x23,.str x24,.int .i64 t1,.int .i64 t2,.int .i64 t3,.int .i64 t4,.str x29,.str x30,.str x31])) (hq : mem[q]? = some (.cells true 0 [.int .i64 k,.str nm,b,u,s,.str x5,.str x6,.str x7,.str x8,.str x9,.str x10,.str x11,.str x12,.str x13,.str x14,kn,.str x16,.str x17,.str x18,.str x19,.str x20,.str x21,.str x22,.str x23,.str x24,.int .i64 t1,.int .i64 t2,.int .i64 t3,.int .i64 t4,.str x29,.str x30,.str x31])) (hg : (ops[30]?).bind (fun x => x.dst) = some 35) (h1 : Eng.look env 35 = .bool true) (hO : O (.fn 143) [s,s] mem = some ⟨.bool true,none,[]⟩) :
  ∃ env',runOps (tyOf Tryz.prog) O 92 m0 ops Tryz.eqPart4 ⟨env,mem,d⟩ = some ⟨env',mem,d⟩ ∧ Eng.look env' 2 = .ptr p 0 ∧ Eng.look env' 3 = .ptr q 0 ∧ Eng.look env' 44 = .bool true := by
 simp [Tryz.eqPart4,Tryz.eqOps,Tryz.f88,h2,h3,hp,hq,hg,h1,hO]
set_option maxRecDepth 4000 in
theorem Tryz.eqRun5 {O : Oracle} {m0 : Nat} {ops : Array Oper} {env : Env} {mem : Mem} {d : Bool} {p q : Nat} {k t1 t2 t3 t4 : Int} {nm x5 x6 x7 x8 x9 x10 x11 x12 x13 x14 x16 x17 x18 x19 x20 x21 x22 x23 x24 x29 x30 x31 : List UInt8} {b u s kn : AV} (h2 : Eng.look env 2 = .ptr p 0) (h3 : Eng.look env 3 = .ptr q 0) (hp : mem[p]? = some (.cells true 0 [.int .i64 k,.str nm,b,u,s,.str x5,.str x6,.str x7,.str x8,.str x9,.str x10,.str x11,.str x12,.str x13,.str x14,kn,.str x16,.str x17,.str x18,.str x19,.str x20,.str x21,.str x22,.str x23,.str x24,.int .i64 t1,.int .i64 t2,.int .i64 t3,.int .i64 t4,.str x29,.str x30,.str x31])) (hq : mem[q]? = some (.cells true 0 [.int .i64 k,.str nm,b,u,s,.str x5,.str x6,.str x7,.str x8,.str x9,.str x10,.str x11,.str x12,.str x13,.str x14,kn,.str x16,.str x17,.str x18,.str x19,.str x20,.str x21,.str x22,.str x23,.str x24,.int .i64 t1,.int .i64 t2,.int .i64 t3,.int .i64 t4,.str x29,.str x30,.str x31])) (hg : (ops[39]?).bind (fun x => x.dst) = some 44) (h1 : Eng.look env 44 = .bool true) :
  ∃ env',runOps (tyOf Tryz.prog) O 92 m0 ops Tryz.eqPart5 ⟨env,mem,d⟩ = some ⟨env',mem,d⟩ ∧ Eng.look env' 2 = .ptr p 0 ∧ Eng.look env' 3 = .ptr q 0 ∧ Eng.look env' 51 = .bool true := by
 have e2 := fun d => Tryz.eqFault d
 simp [Tryz.eqPart5,Tryz.eqOps,Tryz.f88,h2,h3,hp,hq,hg,h1,e2]
set_option maxRecDepth 4000 in
theorem Tryz.eqRun6 {O : Oracle} {m0 : Nat} {ops : Array Oper} {env : Env} {mem : Mem} {d : Bool} {p q : Nat} {k t1 t2 t3 t4 : Int} {nm x5 x6 x7 x8 x9 x10 x11 x12 x13 x14 x16 x17 x18 x19 x20 x21 x22 x23 x24 x29 x30 x31 : List UInt8} {b u s kn : AV} (h2 : Eng.look env 2 = .ptr p 0) (h3 : Eng.look env 3 = .ptr q 0) (hp : mem[p]? = some (.cells true 0 [.int .i64 k,.str nm,b,u,s,.str x5,.str x6,.str x7,.str x8,.str x9,.str x10,.str x11,.str x12,.str x13,.str x14,kn,.str x16,.str x17,.str x18,.str x19,.str x20,.str x21,.str x22,.str x23,.str x24,.int .i64 t1,.int .i64 t2,.int .i64 t3,.int .i64 t4,.str x29,.str x30,.str x31])) (hq : mem[q]? = some (.cells true 0 [.int .i64 k,.str nm,b,u,s,.str x5,.str x6,.str x7,.str x8,.str x9,.str x10,.str x11,.str x12,.str x13,.str x14,kn,.str x16,.str x17,.str x18,.str x19,.str x20,.str x21,.str x22,.str x23,.str x24,.int .i64 t1,.int .i64 t2,.int .i64 t3,.int .i64 t4,.str x29,.str x30,.str x31])) (hg : (ops[46]?).bind (fun x => x.dst) = some 51) (h1 : Eng.look env 51 = .bool true) :
  ∃ env',runOps (tyOf Tryz.prog) O 92 m0 ops Tryz.eqPart6 ⟨env,mem,d⟩ = some ⟨env',mem,d⟩ ∧ Eng.look env' 2 = .ptr p 0 ∧ Eng.look env' 3 = .ptr q 0 ∧ Eng.look env' 60 = .bool true := by
 have e3 := fun d => Tryz.eqVec d
 simp [Tryz.eqPart6,Tryz.eqOps,Tryz.f88,h2,h3,hp,hq,hg,h1,e3]
set_option maxRecDepth 4000 in
theorem Tryz.eqRun7 {O : Oracle} {m0 : Nat} {ops : Array Oper} {env : Env} {mem : Mem} {d : Bool} {p q : Nat} {k t1 t2 t3 t4 : Int} {nm x5 x6 x7 x8 x9 x10 x11 x12 x13 x14 x16 x17 x18 x19 x20 x21 x22 x23 x24 x29 x30 x31 : List UInt8} {b u s kn : AV} (h2 : Eng.look env 2 = .ptr p 0) (h3 : Eng.look env 3 = .ptr q 0) (hp : mem[p]? = some (.cells true 0 [.int .i64 k,.str nm,b,u,s,.str x5,.str x6,.str x7,.str x8,.str x9,.str x10,.str x11,.str x12,.str x13,.str x14,kn,.str x16,.str x17,.str x18,.str x19,.str x20,.str x21,.str x22,.str x23,.str x24,.int .i64 t1,.int .i64 t2,.int .i64 t3,.int .i64 t4,.str x29,.str x30,.str x31])) (hq : mem[q]? = some (.cells true 0 [.int .i64 k,.str nm,b,u,s,.str x5,.str x6,.str x7,.str x8,.str x9,.str x10,.str x11,.str x12,.str x13,.str x14,kn,.str x16,.str x17,.str x18,.str x19,.str x20,.str x21,.str x22,.str x23,.str x24,.int .i64 t1,.int .i64 t2,.int .i64 t3,.int .i64 t4,.str x29,.str x30,.str x31])) (hg : (ops[55]?).bind (fun x => x.dst) = some 60) (h1 : Eng.look env 60 = .bool true) (hO : O (.fn 144) [kn,kn] mem = some ⟨.bool true,none,[]⟩) :
  ∃ env',runOps (tyOf Tryz.prog) O 92 m0 ops Tryz.eqPart7 ⟨env,mem,d⟩ = some ⟨env',mem,d⟩ ∧ Eng.look env' 2 = .ptr p 0 ∧ Eng.look env' 3 = .ptr q 0 ∧ Eng.look env' 69 = .bool true := by
 simp [Tryz.eqPart7,Tryz.eqOps,Tryz.f88,h2,h3,hp,hq,hg,h1,hO]
set_option maxRecDepth 4000 in
theorem Tryz.eqRun8 {O : Oracle} {m0 : Nat} {ops : Array Oper} {env : Env} {mem : Mem} {d : Bool} {p q : Nat} {k t1 t2 t3 t4 : Int} {nm x5 x6 x7 x8 x9 x10 x11 x12 x13 x14 x16 x17 x18 x19 x20 x21 x22 x23 x24 x29 x30 x31 : List UInt8} {b u s kn : AV} (h2 : Eng.look env 2 = .ptr p 0) (h3 : Eng.look env 3 = .ptr q 0) (hp : mem[p]? = some (.cells true 0 [.int .i64 k,.str nm,b,u,s,.str x5,.str x6,.str x7,.str x8,.str x9,.str x10,.str x11,.str x12,.str x13,.str x14,kn,.str x16,.str x17,.str x18,.str x19,.str x20,.str x21,.str x22,.str x23,.str x24,.int .i64 t1,.int .i64 t2,.int .i64 t3,.int .i64 t4,.str x29,.str x30,.str x31])) (hq : mem[q]? = some (.cells true 0 [.int .i64 k,.str nm,b,u,s,.str x5,.str x6,.str x7,.str x8,.str x9,.str x10,.str x11,.str x12,.str x13,.str x14,kn,.str x16,.str x17,.str x18,.str x19,.str x20,.str x21,.str x22,.str x23,.str x24,.int .i64 t1,.int .i64 t2,.int .i64 t3,.int .i64 t4,.str x29,.str x30,.str x31])) (hg : (ops[64]?).bind (fun x => x.dst) = some 69) (h1 : Eng.look env 69 = .bool true) :
  ∃ env',runOps (tyOf Tryz.prog) O 92 m0 ops Tryz.eqPart8 ⟨env,mem,d⟩ = some ⟨env',mem,d⟩ ∧ Eng.look env' 2 = .ptr p 0 ∧ Eng.look env' 3 = .ptr q 0 ∧ Eng.look env' 78 = .bool true := by
 have e3 := fun d => Tryz.eqVec d
 simp [Tryz.eqPart8,Tryz.eqOps,Tryz.f88,h2,h3,hp,hq,hg,h1,e3]
set_option maxRecDepth 4000 in
theorem Tryz.eqRun9 {O : Oracle} {m0 : Nat} {ops : Array Oper} {env : Env} {mem : Mem} {d : Bool} {p q : Nat} {k t1 t2 t3 t4 : Int} {nm x5 x6 x7 x8 x9 x10 x11 x12 x13 x14 x16 x17 x18 x19 x20 x21 x22 x23 x24 x29 x30 x31 : List UInt8} {b u s kn : AV} (h2 : Eng.look env 2 = .ptr p 0) (h3 : Eng.look env 3 = .ptr q 0) (hp : mem[p]? = some (.cells true 0 [.int .i64 k,.str nm,b,u,s,.str x5,.str x6,.str x7,.str x8,.str x9,.str x10,.str x11,.str x12,.str x13,.str x14,kn,.str x16,.str x17,.str x18,.str x19,.str x20,.str x21,.str x22,.str x23,.str x24,.int .i64 t1,.int .i64 t2,.int .i64 t3,.int .i64 t4,.str x29,.str x30,.str x31])) (hq : mem[q]? = some (.cells true 0 [.int .i64 k,.str nm,b,u,s,.str x5,.str x6,.str x7,.str x8,.str x9,.str x10,.str x11,.str x12,.str x13,.str x14,kn,.str x16,.str x17,.str x18,.str x19,.str x20,.str x21,.str x22,.str x23,.str x24,.int .i64 t1,.int .i64 t2,.int .i64 t3,.int .i64 t4,.str x29,.str x30,.str x31])) (hg : (ops[73]?).bind (fun x => x.dst) = some 78) (h1 : Eng.look env 78 = .bool true) :
  ∃ env',runOps (tyOf Tryz.prog) O 92 m0 ops Tryz.eqPart9 ⟨env,mem,d⟩ = some ⟨env',mem,d⟩ ∧ Eng.look env' 2 = .ptr p 0 ∧ Eng.look env' 3 = .ptr q 0 ∧ Eng.look env' 85 = .bool true := by
 have e4 := fun d => Tryz.eqDike d
 simp [Tryz.eqPart9,Tryz.eqOps,Tryz.f88,h2,h3,hp,hq,hg,h1,e4]
set_option maxRecDepth 4000 in
theorem Tryz.eqRun10 {O : Oracle} {m0 : Nat} {ops : Array Oper} {env : Env} {mem : Mem} {d : Bool} {p q : Nat} {k t1 t2 t3 t4 : Int} {nm x5 x6 x7 x8 x9 x10 x11 x12 x13 x14 x16 x17 x18 x19 x20 x21 x22 x23 x24 x29 x30 x31 : List UInt8} {b u s kn : AV} (h2 : Eng.look env 2 = .ptr p 0) (h3 : Eng.look env 3 = .ptr q 0) (hp : mem[p]? = some (.cells true 0 [.int .i64 k,.str nm,b,u,s,.str x5,.str x6,.str x7,.str x8,.str x9,.str x10,.str x11,.str x12,.str x13,.str x14,kn,.str x16,.str x17,.str x18,.str x19,.str x20,.str x21,.str x22,.str x23,.str x24,.int .i64 t1,.int .i64 t2,.int .i64 t3,.int .i64 t4,.str x29,.str x30,.str x31])) (hq : mem[q]? = some (.cells true 0 [.int .i64 k,.str nm,b,u,s,.str x5,.str x6,.str x7,.str x8,.str x9,.str x10,.str x11,.str x12,.str x13,.str x14,kn,.str x16,.str x17,.str x18,.str x19,.str x20,.str x21,.str x22,.str x23,.str x24,.int .i64 t1,.int .i64 t2,.int .i64 t3,.int .i64 t4,.str x29,.str x30,.str x31])) (hg : (ops[80]?).bind (fun x => x.dst) = some 85) (h1 : Eng.look env 85 = .bool true) :
  ∃ env',runOps (tyOf Tryz.prog) O 92 m0 ops Tryz.eqPart10 ⟨env,mem,d⟩ = some ⟨env',mem,d⟩ ∧ Eng.look env' 2 = .ptr p 0 ∧ Eng.look env' 3 = .ptr q 0 ∧ Eng.look env' 4 = .bool true := by
 have e5 := fun d => Tryz.eqTilt d
 simp [Tryz.eqPart10,Tryz.eqOps,Tryz.f88,h2,h3,hp,hq,hg,h1,e5]
theorem Tryz.eqRun {O : Oracle} {m0 : Nat} {env : Env} {mem : Mem} {d : Bool} {p q : Nat} {k t1 t2 t3 t4 : Int} {nm x5 x6 x7 x8 x9 x10 x11 x12 x13 x14 x16 x17 x18 x19 x20 x21 x22 x23 x24 x29 x30 x31 : List UInt8} {b u s kn : AV} (h2 : Eng.look env 2 = .ptr p 0) (h3 : Eng.look env 3 = .ptr q 0) (hp : mem[p]? = some (.cells true 0 [.int .i64 k,.str nm,b,u,s,.str x5,.str x6,.str x7,.str x8,.str x9,.str x10,.str x11,.str x12,.str x13,.str x14,kn,.str x16,.str x17,.str x18,.str x19,.str x20,.str x21,.str x22,.str x23,.str x24,.int .i64 t1,.int .i64 t2,.int .i64 t3,.int .i64 t4,.str x29,.str x30,.str x31])) (hq : mem[q]? = some (.cells true 0 [.int .i64 k,.str nm,b,u,s,.str x5,.str x6,.str x7,.str x8,.str x9,.str x10,.str x11,.str x12,.str x13,.str x14,kn,.str x16,.str x17,.str x18,.str x19,.str x20,.str x21,.str x22,.str x23,.str x24,.int .i64 t1,.int .i64 t2,.int .i64 t3,.int .i64 t4,.str x29,.str x30,.str x31])) (hO2 : O (.fn 142) [b,b] mem = some ⟨.bool true,none,[]⟩) (hO3 : O (.fn 14) [u,u] mem = some ⟨.bool true,none,[]⟩) (hO4 : O (.fn 143) [s,s] mem = some ⟨.bool true,none,[]⟩) (hO7 : O (.fn 144) [kn,kn] mem = some ⟨.bool true,none,[]⟩) :
  ∃ env',runOps (tyOf Tryz.prog) O 92 m0 Tryz.eqOps Tryz.eqOps.toList ⟨env,mem,d⟩ = some ⟨env',mem,d⟩ ∧ Eng.look env' 4 = .bool true := by
 have g1 : (Tryz.eqOps[5]?).bind (fun x => x.dst) = some 10 := by kernel_rfl
 have g2 : (Tryz.eqOps[12]?).bind (fun x => x.dst) = some 17 := by kernel_rfl
 have g3 : (Tryz.eqOps[21]?).bind (fun x => x.dst) = some 26 := by kernel_rfl
 have g4 : (Tryz.eqOps[30]?).bind (fun x => x.dst) = some 35 := by kernel_rfl
 have g5 : (Tryz.eqOps[39]?).bind (fun x => x.dst) = some 44 := by kernel_rfl
 have g6 : (Tryz.eqOps[46]?).bind (fun x => x.dst) = some 51 := by kernel_rfl
 have g7 : (Tryz.eqOps[55]?).bind (fun x => x.dst) = some 60 := by kernel_rfl
 have g8 : (Tryz.eqOps[64]?).bind (fun x => x.dst) = some 69 := by kernel_rfl
 have g9 : (Tryz.eqOps[73]?).bind (fun x => x.dst) = some 78 := by kernel_rfl
 have g10 : (Tryz.eqOps[80]?).bind (fun x => x.dst) = some 85 := by kernel_rfl
 obtain ⟨e0,r0,h2_0,h3_0,b0⟩ := Tryz.eqRun0 (O := O) (m0 := m0) (ops := Tryz.eqOps) (d := d) h2 h3 hp hq
 obtain ⟨e1,r1,h2_1,h3_1,b1⟩ := Tryz.eqRun1 (O := O) (m0 := m0) (ops := Tryz.eqOps) (d := d) h2_0 h3_0 hp hq g1 b0
 obtain ⟨e2,r2,h2_2,h3_2,b2⟩ := Tryz.eqRun2 (O := O) (m0 := m0) (ops := Tryz.eqOps) (d := d) h2_1 h3_1 hp hq g2 b1 hO2
 obtain ⟨e3,r3,h2_3,h3_3,b3⟩ := Tryz.eqRun3 (O := O) (m0 := m0) (ops := Tryz.eqOps) (d := d) h2_2 h3_2 hp hq g3 b2 hO3
 obtain ⟨e4,r4,h2_4,h3_4,b4⟩ := Tryz.eqRun4 (O := O) (m0 := m0) (ops := Tryz.eqOps) (d := d) h2_3 h3_3 hp hq g4 b3 hO4
 obtain ⟨e5,r5,h2_5,h3_5,b5⟩ := Tryz.eqRun5 (O := O) (m0 := m0) (ops := Tryz.eqOps) (d := d) h2_4 h3_4 hp hq g5 b4
 obtain ⟨e6,r6,h2_6,h3_6,b6⟩ := Tryz.eqRun6 (O := O) (m0 := m0) (ops := Tryz.eqOps) (d := d) h2_5 h3_5 hp hq g6 b5
 obtain ⟨e7,r7,h2_7,h3_7,b7⟩ := Tryz.eqRun7 (O := O) (m0 := m0) (ops := Tryz.eqOps) (d := d) h2_6 h3_6 hp hq g7 b6 hO7
 obtain ⟨e8,r8,h2_8,h3_8,b8⟩ := Tryz.eqRun8 (O := O) (m0 := m0) (ops := Tryz.eqOps) (d := d) h2_7 h3_7 hp hq g8 b7
 obtain ⟨e9,r9,h2_9,h3_9,b9⟩ := Tryz.eqRun9 (O := O) (m0 := m0) (ops := Tryz.eqOps) (d := d) h2_8 h3_8 hp hq g9 b8
 obtain ⟨e10,r10,h2_10,h3_10,b10⟩ := Tryz.eqRun10 (O := O) (m0 := m0) (ops := Tryz.eqOps) (d := d) h2_9 h3_9 hp hq g10 b9
 exact ⟨e10,by rw [Tryz.eqParts]; exact runOps_join r0 (runOps_join r1 (runOps_join r2 (runOps_join r3 (runOps_join r4 (runOps_join r5 (runOps_join r6 (runOps_join r7 (runOps_join r8 (runOps_join r9 (r10)))))))))),b10⟩
noncomputable def Tryz.eqHead : Array Oper := match Tryz.f88.body with
 | some (.seq (.region _ ops _) _) => ops
 | _ => #[]
set_option maxRecDepth 4000 in
theorem Tryz.aEEqG {O : Oracle} (hOk : OracleOk Tryz.prog O) {m : Mem} {k t1 t2 t3 t4 : Int} {nm x5 x6 x7 x8 x9 x10 x11 x12 x13 x14 x16 x17 x18 x19 x20 x21 x22 x23 x24 x29 x30 x31 : List UInt8} {b u s kn : AV} (hO2 : O (.fn 142) [b,b] (m ++ [.cells true 0 [.int .i64 k,.str nm,b,u,s,.str x5,.str x6,.str x7,.str x8,.str x9,.str x10,.str x11,.str x12,.str x13,.str x14,kn,.str x16,.str x17,.str x18,.str x19,.str x20,.str x21,.str x22,.str x23,.str x24,.int .i64 t1,.int .i64 t2,.int .i64 t3,.int .i64 t4,.str x29,.str x30,.str x31],.cells true 0 [.int .i64 k,.str nm,b,u,s,.str x5,.str x6,.str x7,.str x8,.str x9,.str x10,.str x11,.str x12,.str x13,.str x14,kn,.str x16,.str x17,.str x18,.str x19,.str x20,.str x21,.str x22,.str x23,.str x24,.int .i64 t1,.int .i64 t2,.int .i64 t3,.int .i64 t4,.str x29,.str x30,.str x31]]) = some ⟨.bool true,none,[]⟩) (hO3 : O (.fn 14) [u,u] (m ++ [.cells true 0 [.int .i64 k,.str nm,b,u,s,.str x5,.str x6,.str x7,.str x8,.str x9,.str x10,.str x11,.str x12,.str x13,.str x14,kn,.str x16,.str x17,.str x18,.str x19,.str x20,.str x21,.str x22,.str x23,.str x24,.int .i64 t1,.int .i64 t2,.int .i64 t3,.int .i64 t4,.str x29,.str x30,.str x31],.cells true 0 [.int .i64 k,.str nm,b,u,s,.str x5,.str x6,.str x7,.str x8,.str x9,.str x10,.str x11,.str x12,.str x13,.str x14,kn,.str x16,.str x17,.str x18,.str x19,.str x20,.str x21,.str x22,.str x23,.str x24,.int .i64 t1,.int .i64 t2,.int .i64 t3,.int .i64 t4,.str x29,.str x30,.str x31]]) = some ⟨.bool true,none,[]⟩) (hO4 : O (.fn 143) [s,s] (m ++ [.cells true 0 [.int .i64 k,.str nm,b,u,s,.str x5,.str x6,.str x7,.str x8,.str x9,.str x10,.str x11,.str x12,.str x13,.str x14,kn,.str x16,.str x17,.str x18,.str x19,.str x20,.str x21,.str x22,.str x23,.str x24,.int .i64 t1,.int .i64 t2,.int .i64 t3,.int .i64 t4,.str x29,.str x30,.str x31],.cells true 0 [.int .i64 k,.str nm,b,u,s,.str x5,.str x6,.str x7,.str x8,.str x9,.str x10,.str x11,.str x12,.str x13,.str x14,kn,.str x16,.str x17,.str x18,.str x19,.str x20,.str x21,.str x22,.str x23,.str x24,.int .i64 t1,.int .i64 t2,.int .i64 t3,.int .i64 t4,.str x29,.str x30,.str x31]]) = some ⟨.bool true,none,[]⟩) (hO7 : O (.fn 144) [kn,kn] (m ++ [.cells true 0 [.int .i64 k,.str nm,b,u,s,.str x5,.str x6,.str x7,.str x8,.str x9,.str x10,.str x11,.str x12,.str x13,.str x14,kn,.str x16,.str x17,.str x18,.str x19,.str x20,.str x21,.str x22,.str x23,.str x24,.int .i64 t1,.int .i64 t2,.int .i64 t3,.int .i64 t4,.str x29,.str x30,.str x31],.cells true 0 [.int .i64 k,.str nm,b,u,s,.str x5,.str x6,.str x7,.str x8,.str x9,.str x10,.str x11,.str x12,.str x13,.str x14,kn,.str x16,.str x17,.str x18,.str x19,.str x20,.str x21,.str x22,.str x23,.str x24,.int .i64 t1,.int .i64 t2,.int .i64 t3,.int .i64 t4,.str x29,.str x30,.str x31]]) = some ⟨.bool true,none,[]⟩) :
  ACallsTo Tryz.prog 88 [.agg [.int .i64 k,.str nm,b,u,s,.str x5,.str x6,.str x7,.str x8,.str x9,.str x10,.str x11,.str x12,.str x13,.str x14,kn,.str x16,.str x17,.str x18,.str x19,.str x20,.str x21,.str x22,.str x23,.str x24,.int .i64 t1,.int .i64 t2,.int .i64 t3,.int .i64 t4,.str x29,.str x30,.str x31],.agg [.int .i64 k,.str nm,b,u,s,.str x5,.str x6,.str x7,.str x8,.str x9,.str x10,.str x11,.str x12,.str x13,.str x14,kn,.str x16,.str x17,.str x18,.str x19,.str x20,.str x21,.str x22,.str x23,.str x24,.int .i64 t1,.int .i64 t2,.int .i64 t3,.int .i64 t4,.str x29,.str x30,.str x31]] m (.bool true) m := by
 have hG : fnOf Tryz.prog 88 = some Tryz.f88 := by kernel_rfl
 obtain ⟨ops,hops⟩ : ∃ o,o = Tryz.eqOps := ⟨_,rfl⟩
 obtain ⟨F,hF⟩ := skolemE (p := fun e (_ : Bool) => Eng.look e 2 = .ptr m.length 0 ∧ Eng.look e 3 = .ptr (m.length + 1) 0) (q := fun env (_ : Bool) env' => runOps (tyOf Tryz.prog) O 92 m.length ops ops.toList ⟨env,(m ++ [.cells true 0 [.int .i64 k,.str nm,b,u,s,.str x5,.str x6,.str x7,.str x8,.str x9,.str x10,.str x11,.str x12,.str x13,.str x14,kn,.str x16,.str x17,.str x18,.str x19,.str x20,.str x21,.str x22,.str x23,.str x24,.int .i64 t1,.int .i64 t2,.int .i64 t3,.int .i64 t4,.str x29,.str x30,.str x31],.cells true 0 [.int .i64 k,.str nm,b,u,s,.str x5,.str x6,.str x7,.str x8,.str x9,.str x10,.str x11,.str x12,.str x13,.str x14,kn,.str x16,.str x17,.str x18,.str x19,.str x20,.str x21,.str x22,.str x23,.str x24,.int .i64 t1,.int .i64 t2,.int .i64 t3,.int .i64 t4,.str x29,.str x30,.str x31]]),false⟩ = some ⟨env',(m ++ [.cells true 0 [.int .i64 k,.str nm,b,u,s,.str x5,.str x6,.str x7,.str x8,.str x9,.str x10,.str x11,.str x12,.str x13,.str x14,kn,.str x16,.str x17,.str x18,.str x19,.str x20,.str x21,.str x22,.str x23,.str x24,.int .i64 t1,.int .i64 t2,.int .i64 t3,.int .i64 t4,.str x29,.str x30,.str x31],.cells true 0 [.int .i64 k,.str nm,b,u,s,.str x5,.str x6,.str x7,.str x8,.str x9,.str x10,.str x11,.str x12,.str x13,.str x14,kn,.str x16,.str x17,.str x18,.str x19,.str x20,.str x21,.str x22,.str x23,.str x24,.int .i64 t1,.int .i64 t2,.int .i64 t3,.int .i64 t4,.str x29,.str x30,.str x31]]),false⟩ ∧ Eng.look env' 4 = .bool true) (fun env _ h => by
  subst hops
  have hp : ((m ++ [.cells true 0 [.int .i64 k,.str nm,b,u,s,.str x5,.str x6,.str x7,.str x8,.str x9,.str x10,.str x11,.str x12,.str x13,.str x14,kn,.str x16,.str x17,.str x18,.str x19,.str x20,.str x21,.str x22,.str x23,.str x24,.int .i64 t1,.int .i64 t2,.int .i64 t3,.int .i64 t4,.str x29,.str x30,.str x31],.cells true 0 [.int .i64 k,.str nm,b,u,s,.str x5,.str x6,.str x7,.str x8,.str x9,.str x10,.str x11,.str x12,.str x13,.str x14,kn,.str x16,.str x17,.str x18,.str x19,.str x20,.str x21,.str x22,.str x23,.str x24,.int .i64 t1,.int .i64 t2,.int .i64 t3,.int .i64 t4,.str x29,.str x30,.str x31]]))[m.length]? = some (.cells true 0 [.int .i64 k,.str nm,b,u,s,.str x5,.str x6,.str x7,.str x8,.str x9,.str x10,.str x11,.str x12,.str x13,.str x14,kn,.str x16,.str x17,.str x18,.str x19,.str x20,.str x21,.str x22,.str x23,.str x24,.int .i64 t1,.int .i64 t2,.int .i64 t3,.int .i64 t4,.str x29,.str x30,.str x31]) := by simp
  have hq : ((m ++ [.cells true 0 [.int .i64 k,.str nm,b,u,s,.str x5,.str x6,.str x7,.str x8,.str x9,.str x10,.str x11,.str x12,.str x13,.str x14,kn,.str x16,.str x17,.str x18,.str x19,.str x20,.str x21,.str x22,.str x23,.str x24,.int .i64 t1,.int .i64 t2,.int .i64 t3,.int .i64 t4,.str x29,.str x30,.str x31],.cells true 0 [.int .i64 k,.str nm,b,u,s,.str x5,.str x6,.str x7,.str x8,.str x9,.str x10,.str x11,.str x12,.str x13,.str x14,kn,.str x16,.str x17,.str x18,.str x19,.str x20,.str x21,.str x22,.str x23,.str x24,.int .i64 t1,.int .i64 t2,.int .i64 t3,.int .i64 t4,.str x29,.str x30,.str x31]]))[m.length + 1]? = some (.cells true 0 [.int .i64 k,.str nm,b,u,s,.str x5,.str x6,.str x7,.str x8,.str x9,.str x10,.str x11,.str x12,.str x13,.str x14,kn,.str x16,.str x17,.str x18,.str x19,.str x20,.str x21,.str x22,.str x23,.str x24,.int .i64 t1,.int .i64 t2,.int .i64 t3,.int .i64 t4,.str x29,.str x30,.str x31]) := by simp
  exact Tryz.eqRun h.1 h.2 hp hq hO2 hO3 hO4 hO7)
 have hF1 := fun env h2 h3 => (hF env false ⟨h2,h3⟩).1
 have hF2 := fun env h2 h3 => (hF env false ⟨h2,h3⟩).2
 have h : callFn (tyOf Tryz.prog) (fun _ => []) (fnOf Tryz.prog) O 1 88 [.agg [.int .i64 k,.str nm,b,u,s,.str x5,.str x6,.str x7,.str x8,.str x9,.str x10,.str x11,.str x12,.str x13,.str x14,kn,.str x16,.str x17,.str x18,.str x19,.str x20,.str x21,.str x22,.str x23,.str x24,.int .i64 t1,.int .i64 t2,.int .i64 t3,.int .i64 t4,.str x29,.str x30,.str x31],.agg [.int .i64 k,.str nm,b,u,s,.str x5,.str x6,.str x7,.str x8,.str x9,.str x10,.str x11,.str x12,.str x13,.str x14,kn,.str x16,.str x17,.str x18,.str x19,.str x20,.str x21,.str x22,.str x23,.str x24,.int .i64 t1,.int .i64 t2,.int .i64 t3,.int .i64 t4,.str x29,.str x30,.str x31]] m = some ⟨.bool true,none,[]⟩ := by
  have hb : Tryz.f88.body = some (.seq (.region 0 Tryz.eqHead false) (.seq (.region 1 ops false) .ret)) := by rw [hops]; kernel_rfl
  unfold callFn
  rw [hG]
  dsimp only
  rw [hb]
  dsimp only
  simp [hF1,hF2,Tryz.eqHead,Tryz.f88]
 have := (callFn_sound Tryz.mixed (tyOf_ok _) hOk (fnOf_ok _) h).1
 simpa [CallRes.mem] using this
end Go.Proofs
