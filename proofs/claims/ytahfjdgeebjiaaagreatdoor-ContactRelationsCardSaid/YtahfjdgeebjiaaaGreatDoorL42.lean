/- Part L42 of a proof: see its last part, YtahfjdgeebjiaaaGreatDoorL55.lean. -/
import Derived.Test.YtahfjdgeebjiaaaGreatDoorL35
import Derived.Test.YtahfjdgeebjiaaaGreatDoorL41
set_option linter.all false
namespace Go.Proofs
open Go.Eng
theorem Tryz.eqIn (d : Nat) (x y : Int) : eqTy (tyOf Tryz.prog) (d + 1) 3 (.int .i64 x) (.int .i64 y) = some (decide (x = y)) := by
  rw [eqTy]; simp
theorem Tryz.eqSt (d : Nat) (x y : List UInt8) : eqTy (tyOf Tryz.prog) (d + 1) 9 (.str x) (.str y) = some (x == y) := by
  rw [eqTy]; simp
theorem Tryz.eqRel (k k' : Int) (u u' l l' : List UInt8) : eqTy (tyOf Tryz.prog) 20 77 (.agg [.int .i64 k, .str u, .str l]) (.agg [.int .i64 k', .str u', .str l']) = some (decide (k = k') && ((u == u') && (l == l'))) := by
  have i := Tryz.eqIn 18
  have j := Tryz.eqSt 18
  rw [eqTy]
  simp [eqFs, partA, TyI.isAgg, i, j]
noncomputable def Tryz.crF2 (f : FuncId) (args : List AV) : Option AV := match f, args with
  | 22, [] => some (.bool true)
  | 23, [.agg [.int .i64 k, .int .i64 _, .str u, .str l]] => if u.length ≤ 1000000000 ∧ l.length ≤ 1000000000 then some (ctV k u l) else none
  | f, args => Tryz.crF1 f args
theorem Tryz.cr2_ok : OracleOk Tryz.prog (pureO Tryz.crF2) := pureO_ok fun f args v h mem => by
  unfold Tryz.crF2 at h
  split at h
  · cases h; exact Tryz.aKnown36 mem
  · split at h
    · rename_i hc; cases h; exact Tryz.aCtRelation _ _ _ _ hc.1 hc.2 mem
    · cases h
  · have := Tryz.cr1_ok.fn _ _ mem ⟨v, none, []⟩ (by unfold pureO; simp only; rw [h])
    simpa [CallRes.mem] using this
set_option maxRecDepth 8192 in
set_option maxHeartbeats 6400000 in
theorem Tryz.aContactRelations (k e : Int) (u l : List UInt8) :
    ACallsTo Tryz.prog 5 [.agg [.int .i64 k, .int .i64 e, .str u, .str l]] [] (.bool true) [] := by
  have hG : fnOf Tryz.prog 5 = some Tryz.f5 := by kernel_rfl
  refine Tryz.run Tryz.cr2_ok (lv := fun _ => []) (K := 1) rfl rfl ?_ []
  by_cases hu : 40 < u.length
  · have hu' : (40 : Int) < u.length := by omega
    simp [callFn, hG, Tryz.f5, pureO, aBuild, fieldPlaces, Tryz.eqRel, Tryz.crF2, hu, hu']
  · have hu' : ¬ (40 : Int) < u.length := by omega
    have hu2 : u.length ≤ 1000000000 := by omega
    by_cases hl : 40 < l.length
    · have hl' : (40 : Int) < l.length := by omega
      simp [callFn, hG, Tryz.f5, pureO, aBuild, fieldPlaces, Tryz.eqRel, Tryz.crF2, hu, hu', hl, hl']
    · have hl' : ¬ (40 : Int) < l.length := by omega
      have hl2 : l.length ≤ 1000000000 := by omega
      by_cases h0 : k < 1
      · have hv : ctV k u l = .tuple [.agg [.int .i64 0, .str [], .str []], .bool false, .int .i64 12] := by
          unfold ctV ctK
          rw [if_neg (by omega), if_neg (by omega), if_neg (by omega)]
          simp only
          rw [if_neg (by omega)]
        simp [callFn, hG, Tryz.f5, pureO, aBuild, fieldPlaces, Tryz.eqRel, Tryz.crF2, hu, hu', hl, hl', hu2, hl2, hv, h0]
      · by_cases h6 : 5 < k
        · have hv : ctV k u l = .tuple [.agg [.int .i64 0, .str [], .str []], .bool false, .int .i64 12] := by
            unfold ctV ctK
            rw [if_neg (by omega), if_neg (by omega), if_neg (by omega)]
            simp only
            rw [if_neg (by omega)]
          simp [callFn, hG, Tryz.f5, pureO, aBuild, fieldPlaces, Tryz.eqRel, Tryz.crF2, hu, hu', hl, hl', hu2, hl2, hv, h0, h6]
        · have hk : k = 5 ∨ k = 1 ∨ k = 2 ∨ k = 3 ∨ k = 4 := by omega
          rcases hk with rfl | rfl | rfl | rfl | rfl
          · have hv : ctV 5 u l = .tuple [.agg [.int .i64 0, .str [], .str []], .bool false, .int .i64 0] := by rfl
            simp [callFn, hG, Tryz.f5, pureO, aBuild, fieldPlaces, Tryz.eqRel, Tryz.crF2, hu, hu', hl, hl', hu2, hl2, hv]
          · by_cases hE : relE 1 u l = 0
            · have hv : ctV 1 u l = .tuple [.agg [.int .i64 1, .str u, .str l], .bool true, .int .i64 0] := by
                show (if relE 1 u l = 0 then _ else _) = _; rw [if_pos hE]
              simp [callFn, hG, Tryz.f5, pureO, aBuild, fieldPlaces, Tryz.eqRel, Tryz.crF2, Tryz.crF1, hu, hu', hl, hl', hu2, hl2, hv, hE, Nat.testBit]
            · have hv : ctV 1 u l = .tuple [.agg [.int .i64 0, .str [], .str []], .bool false, .int .i64 (relE 1 u l)] := by
                show (if relE 1 u l = 0 then _ else _) = _; rw [if_neg hE]
              simp [callFn, hG, Tryz.f5, pureO, aBuild, fieldPlaces, Tryz.eqRel, Tryz.crF2, Tryz.crF1, hu, hu', hl, hl', hu2, hl2, hv, hE, Nat.testBit]
          · by_cases hE : relE 1 u l = 0
            · have hv : ctV 2 u l = .tuple [.agg [.int .i64 1, .str u, .str l], .bool true, .int .i64 0] := by
                show (if relE 1 u l = 0 then _ else _) = _; rw [if_pos hE]
              simp [callFn, hG, Tryz.f5, pureO, aBuild, fieldPlaces, Tryz.eqRel, Tryz.crF2, Tryz.crF1, hu, hu', hl, hl', hu2, hl2, hv, hE, Nat.testBit]
            · have hv : ctV 2 u l = .tuple [.agg [.int .i64 0, .str [], .str []], .bool false, .int .i64 (relE 1 u l)] := by
                show (if relE 1 u l = 0 then _ else _) = _; rw [if_neg hE]
              simp [callFn, hG, Tryz.f5, pureO, aBuild, fieldPlaces, Tryz.eqRel, Tryz.crF2, Tryz.crF1, hu, hu', hl, hl', hu2, hl2, hv, hE, Nat.testBit]
          · by_cases hE : relE 4 u l = 0
            · have hv : ctV 3 u l = .tuple [.agg [.int .i64 4, .str u, .str l], .bool true, .int .i64 0] := by
                show (if relE 4 u l = 0 then _ else _) = _; rw [if_pos hE]
              simp [callFn, hG, Tryz.f5, pureO, aBuild, fieldPlaces, Tryz.eqRel, Tryz.crF2, Tryz.crF1, hu, hu', hl, hl', hu2, hl2, hv, hE, Nat.testBit]
            · have hv : ctV 3 u l = .tuple [.agg [.int .i64 0, .str [], .str []], .bool false, .int .i64 (relE 4 u l)] := by
                show (if relE 4 u l = 0 then _ else _) = _; rw [if_neg hE]
              simp [callFn, hG, Tryz.f5, pureO, aBuild, fieldPlaces, Tryz.eqRel, Tryz.crF2, Tryz.crF1, hu, hu', hl, hl', hu2, hl2, hv, hE, Nat.testBit]
          · by_cases hE : relE 3 u l = 0
            · have hv : ctV 4 u l = .tuple [.agg [.int .i64 3, .str u, .str l], .bool true, .int .i64 0] := by
                show (if relE 3 u l = 0 then _ else _) = _; rw [if_pos hE]
              simp [callFn, hG, Tryz.f5, pureO, aBuild, fieldPlaces, Tryz.eqRel, Tryz.crF2, Tryz.crF1, hu, hu', hl, hl', hu2, hl2, hv, hE, Nat.testBit]
            · have hv : ctV 4 u l = .tuple [.agg [.int .i64 0, .str [], .str []], .bool false, .int .i64 (relE 3 u l)] := by
                show (if relE 3 u l = 0 then _ else _) = _; rw [if_neg hE]
              simp [callFn, hG, Tryz.f5, pureO, aBuild, fieldPlaces, Tryz.eqRel, Tryz.crF2, Tryz.crF1, hu, hu', hl, hl', hu2, hl2, hv, hE, Nat.testBit]
end Go.Proofs
