/- Part L30 of a proof: see its last part, YtahfjdgeebjiaaaGreatDoorL55.lean. -/
import Derived.Test.YtahfjdgeebjiaaaGreatDoorL29
import Derived.Test.YtahfjdgeebjiaaaGreatDoorL11
set_option linter.all false
namespace Go.Proofs
open Go.Eng
theorem dig9_length (n : Nat) : (dig 1000000000 n).length ≤ (natD n).length := by
  obtain ⟨c1, c2, c3⟩ := chunks_spec _ (natD n) (Nat.le_refl _) (natD_all _)
  rw [valD_natD] at c2
  have hd : ltrim (chunks (natD n)) = dig 1000000000 n := by rw [← dig_lval (by omega) c1, c2]
  have := ltrim_length_le (chunks (natD n))
  rw [hd] at this
  omega
theorem natD_length_add {a b k : Nat} (ha : (natD a).length ≤ k) (hb : (natD b).length ≤ k) : (natD (a + b)).length ≤ k + 1 := by
  have h1 := natD_lt_pow a
  have h2 := natD_lt_pow b
  have h3 : 10 ^ (natD a).length ≤ 10 ^ k := Nat.pow_le_pow_right (by omega) ha
  have h4 : 10 ^ (natD b).length ≤ 10 ^ k := Nat.pow_le_pow_right (by omega) hb
  refine natD_length_le (by omega) ?_
  rw [Nat.pow_succ]; omega
theorem natD_length_mul {a b k : Nat} (ha : (natD a).length ≤ k) (hb : (natD b).length ≤ k) : (natD (a * b)).length ≤ 2 * k := by
  have h1 := natD_lt_pow a
  have h2 := natD_lt_pow b
  have h3 : 10 ^ (natD a).length ≤ 10 ^ k := Nat.pow_le_pow_right (by omega) ha
  have h4 : 10 ^ (natD b).length ≤ 10 ^ k := Nat.pow_le_pow_right (by omega) hb
  have := natD_pos a
  exact natD_length_le (by omega) (mul_lt_pow (by omega) (by omega))
theorem natD_length_mono {a b : Nat} (h : a ≤ b) : (natD a).length ≤ (natD b).length := by
  have := natD_lt_pow b
  exact natD_length_le (natD_pos b) (by omega)
theorem natD_le_intS (n : Int) : (natD n.natAbs).length ≤ (intS n).length := by
  cases n with
  | ofNat u => exact Nat.le_refl _
  | negSucc u => simp [intS]
theorem intS_small {n : Int} {k : Nat} (h : (intS n).length ≤ k) : n.natAbs < 10 ^ k := by
  have h1 := natD_lt_pow n.natAbs
  have h2 := natD_le_intS n
  have h3 : 10 ^ (natD n.natAbs).length ≤ 10 ^ k := Nat.pow_le_pow_right (by omega) (by omega)
  omega
noncomputable def Tryz.intF2 (f : FuncId) (args : List AV) : Option AV :=
  match f, args with
  | 261, [.str s, .int .i64 m] => match intP s with
    | some n => if m ≤ 18 ∧ s.length ≤ 1000000000 then some (if (s.length : Int) ≤ m then .tuple [.int .i64 n, .bool true] else .tuple [.int .i64 0, .bool false]) else none
    | none => none
  | 108, [.int .i64 n] => if fitsI n then some (.str (intS n)) else none
  | 257, [.str s] => match intP s with
    | some n => if s.length ≤ 1000000000 then some (.str (intS (-n))) else none
    | none => none
  | 173, [.str s, .str t] => match intP s, intP t with
    | some m, some n => some (.int .i64 (cmpI m n))
    | _, _ => none
  | f, args => Tryz.intF1 f args
theorem Tryz.int2_ok : OracleOk Tryz.prog (pureO Tryz.intF2) := pureO_ok fun f args v h mem => by
  unfold Tryz.intF2 at h
  split at h
  · split at h
    · rename_i n hn
      split at h
      · rename_i hc
        cases h
        rw [intP_some hn] at hc ⊢
        exact Tryz.aQuick n _ hc.1 hc.2 mem
      · cases h
    · cases h
  · split at h
    · rename_i hc; cases h; exact Tryz.aOf _ hc mem
    · cases h
  · split at h
    · rename_i n hn
      split at h
      · rename_i hc
        cases h
        rw [intP_some hn] at hc ⊢
        exact Tryz.aNeg n hc mem
      · cases h
    · cases h
  · split at h
    · rename_i m n hm hn
      cases h
      rw [intP_some hm, intP_some hn]
      exact Tryz.aCompareI m n mem
    · cases h
  · have := Tryz.int1_ok.fn _ _ mem ⟨v, none, []⟩ (by unfold pureO; simp only; rw [h])
    simpa [CallRes.mem] using this
noncomputable def Tryz.inO : Oracle := fun c args M => ((pureO Tryz.intF2).or Tryz.bnO7) c args M
theorem Tryz.inO_ok : OracleOk Tryz.prog Tryz.inO := Tryz.int2_ok.or Tryz.bnO7_ok
end Go.Proofs
namespace Go.Proofs
open Go.Eng
theorem hs0 {A : List Nat} (ow : Bool) (l : Mem) : sliceN .u64 (.cells ow 1 (iN .u64 A) :: l) (.slice 0 0 A.length none) = some A := sliceN_at rfl (by simp) (List.take_of_length_le (by simp))
theorem hs1 {A : List Nat} (ow : Bool) (a0 : Slot) (l : Mem) : sliceN .u64 (a0 :: .cells ow 1 (iN .u64 A) :: l) (.slice 1 0 A.length none) = some A := sliceN_at rfl (by simp) (List.take_of_length_le (by simp))
theorem hs2 {A : List Nat} (ow : Bool) (a0 a1 : Slot) (l : Mem) : sliceN .u64 (a0 :: a1 :: .cells ow 1 (iN .u64 A) :: l) (.slice 2 0 A.length none) = some A := sliceN_at rfl (by simp) (List.take_of_length_le (by simp))
theorem hs3 {A : List Nat} (ow : Bool) (a0 a1 a2 : Slot) (l : Mem) : sliceN .u64 (a0 :: a1 :: a2 :: .cells ow 1 (iN .u64 A) :: l) (.slice 3 0 A.length none) = some A := sliceN_at rfl (by simp) (List.take_of_length_le (by simp))
theorem hs4 {A : List Nat} (ow : Bool) (a0 a1 a2 a3 : Slot) (l : Mem) : sliceN .u64 (a0 :: a1 :: a2 :: a3 :: .cells ow 1 (iN .u64 A) :: l) (.slice 4 0 A.length none) = some A := sliceN_at rfl (by simp) (List.take_of_length_le (by simp))
theorem hs5 {A : List Nat} (ow : Bool) (a0 a1 a2 a3 a4 : Slot) (l : Mem) : sliceN .u64 (a0 :: a1 :: a2 :: a3 :: a4 :: .cells ow 1 (iN .u64 A) :: l) (.slice 5 0 A.length none) = some A := sliceN_at rfl (by simp) (List.take_of_length_le (by simp))
theorem Tryz.yBool : tyOf Tryz.prog 4 = some ⟨.bool, 1, 1, .bool false, true⟩ := Tryz.y4
set_option maxHeartbeats 1600000 in
theorem Tryz.aAddI (a b : Int) (ha : (natD a.natAbs).length ≤ 100000) (hb : (natD b.natAbs).length ≤ 100000) (mem : Mem) : ACallsTo Tryz.prog 256 [.str (intS a), .str (intS b)] mem (.str (intS (a + b))) mem := by
  have hG : fnOf Tryz.prog 256 = some Tryz.f256 := by kernel_rfl
  refine Tryz.run Tryz.inO_ok (lv := fun _ => []) (K := 1) rfl rfl ?_ mem
  have la := intS_length a
  have lb := intS_length b
  have la1 : (intS a).length ≤ 1000000000 := by omega
  have lb1 : (intS b).length ≤ 1000000000 := by omega
  by_cases hq : (intS a).length ≤ 18 ∧ (intS b).length ≤ 18
  · have q1 : ((intS a).length : Int) ≤ 18 := by omega
    have q2 : ((intS b).length : Int) ≤ 18 := by omega
    have s1 := intS_small hq.1
    have s2 := intS_small hq.2
    have w1 : IntKind.i64.wrap (a + b) = a + b := wrap_i64 (by omega) (by omega)
    have hf : fitsI (a + b) = true := by unfold fitsI; simp; omega
    simp [callFn, hG, Tryz.f256, Tryz.inO, Oracle.or, pureO, Tryz.intF2, intP_intS, la1, lb1, q1, q2, w1, hf]
  · have da := dig9_length a.natAbs
    have db := dig9_length b.natAbs
    have la2 : (natD a.natAbs).length ≤ 1000000 := by omega
    have lb2 : (natD b.natAbs).length ≤ 1000000 := by omega
    have sum := natD_length_add ha hb
    have ds := dig9_length (a.natAbs + b.natAbs)
    have va : lval 1000000000 (dig 1000000000 a.natAbs) = a.natAbs := lval_dig (by omega) _
    have vb : lval 1000000000 (dig 1000000000 b.natAbs) = b.natAbs := lval_dig (by omega) _
    have oa : lok 1000000000 (dig 1000000000 a.natAbs) = true := lok_dig (by omega) _
    have ob : lok 1000000000 (dig 1000000000 b.natAbs) = true := lok_dig (by omega) _
    have ta : ltrim (dig 1000000000 a.natAbs) = dig 1000000000 a.natAbs := ltrim_dig (by omega) _
    have tb : ltrim (dig 1000000000 b.natAbs) = dig 1000000000 b.natAbs := ltrim_dig (by omega) _
    obtain ⟨A, hA⟩ : ∃ A, A = dig 1000000000 a.natAbs := ⟨_, rfl⟩
    obtain ⟨B, hB⟩ : ∃ B, B = dig 1000000000 b.natAbs := ⟨_, rfl⟩
    rw [← hA] at da va oa ta
    rw [← hB] at db vb ob tb
    have g1 : A.length ≤ 100000000 := by omega
    have g2 : B.length ≤ 100000000 := by omega
    have g3 : A.length ≤ 1000000000 := by omega
    have g4 : B.length ≤ 1000000000 := by omega
    by_cases hs : (decide (a < 0)) = (decide (b < 0))
    · obtain ⟨S, hS⟩ : ∃ S, S = dig 1000000000 (a.natAbs + b.natAbs) := ⟨_, rfl⟩
      have vs : lval 1000000000 S = a.natAbs + b.natAbs := by rw [hS]; exact lval_dig (by omega) _
      have os : lok 1000000000 S = true := by rw [hS]; exact lok_dig (by omega) _
      have ts : ltrim S = S := by rw [hS]; exact ltrim_dig (by omega) _
      have g5 : S.length ≤ 1000000 := by rw [hS]; omega
      have hres : closeS (decide (a < 0)) (a.natAbs + b.natAbs) = intS (a + b) := by
        rw [← closeS_intS (a + b)]
        have : (a + b).natAbs = a.natAbs + b.natAbs := by
          by_cases h1 : a < 0 <;> by_cases h2 : b < 0 <;> simp [h1, h2] at hs <;> omega
        rw [this]
        by_cases h1 : a < 0 <;> by_cases h2 : b < 0 <;> simp [h1, h2] at hs
        · rw [decide_eq_true h1, decide_eq_true (by omega)]
        · rw [decide_eq_false h1, decide_eq_false (by omega)]
      have hs' : (decide (a < 0) == decide (b < 0)) = true := by rw [hs]; simp
      by_cases q1 : ((intS a).length : Int) ≤ 18
      · have q2 : ¬ ((intS b).length : Int) ≤ 18 := fun e => hq (by omega)
        simp [callFn, hG, Tryz.f256, Tryz.inO, Oracle.or, pureO, Tryz.intF2, Tryz.intF1, Tryz.strF, intP_intS, la1, lb1, q1, q2, Tryz.bnO7, la2, lb2, ← hA, ← hB, Tryz.bnO6, Tryz.numF, Tryz.bnO5, Tryz.bnO3, Tryz.bnO2, hs0, hs1, oa, ob, g1, g2, va, vb, ← hS, aBuild, fieldPlaces, hs4, os, ts, g5, vs, hs', hres, Nat.testBit]
      · simp [callFn, hG, Tryz.f256, Tryz.inO, Oracle.or, pureO, Tryz.intF2, Tryz.intF1, Tryz.strF, intP_intS, la1, lb1, q1, Tryz.bnO7, la2, lb2, ← hA, ← hB, Tryz.bnO6, Tryz.numF, Tryz.bnO5, Tryz.bnO3, Tryz.bnO2, hs0, hs1, oa, ob, g1, g2, va, vb, ← hS, aBuild, fieldPlaces, hs4, os, ts, g5, vs, hs', hres, Nat.testBit]
    · have hs' : (decide (a < 0) == decide (b < 0)) = false := by
        cases h1 : decide (a < 0) <;> cases h2 : decide (b < 0) <;> simp [h1, h2] at hs ⊢
      by_cases hlt : a.natAbs < b.natAbs
      · have hc : cmpN a.natAbs b.natAbs = -1 := by unfold cmpN; rw [if_pos hlt]
        obtain ⟨S, hS⟩ : ∃ S, S = dig 1000000000 (b.natAbs - a.natAbs) := ⟨_, rfl⟩
        have vs : lval 1000000000 S = b.natAbs - a.natAbs := by rw [hS]; exact lval_dig (by omega) _
        have os : lok 1000000000 S = true := by rw [hS]; exact lok_dig (by omega) _
        have ts : ltrim S = S := by rw [hS]; exact ltrim_dig (by omega) _
        have g5 : S.length ≤ 1000000 := by
          rw [hS]
          have h1 := dig9_length (b.natAbs - a.natAbs)
          have h2 := natD_length_mono (show b.natAbs - a.natAbs ≤ b.natAbs by omega)
          omega
        have g6 : A.length ≤ B.length := by
          rcases Nat.lt_or_ge B.length A.length with h | h
          · have := dig_length_lt (B := 1000000000) (m := b.natAbs) (n := a.natAbs) (by omega) (by rw [← hA, ← hB]; exact h)
            omega
          · exact h
        have g7 : a.natAbs ≤ b.natAbs := by omega
        have hres : closeS (decide (b < 0)) (b.natAbs - a.natAbs) = intS (a + b) := by
          rw [← closeS_intS (a + b)]
          have h0 : (a + b).natAbs = b.natAbs - a.natAbs := by
            by_cases h1 : a < 0 <;> by_cases h2 : b < 0 <;> simp [h1, h2] at hs <;> omega
          rw [h0]
          by_cases h1 : a < 0 <;> by_cases h2 : b < 0 <;> simp [h1, h2] at hs
          · rw [decide_eq_false h2, decide_eq_false (by omega)]
          · rw [decide_eq_true h2, decide_eq_true (by omega)]
        by_cases q1 : ((intS a).length : Int) ≤ 18
        · have q2 : ¬ ((intS b).length : Int) ≤ 18 := fun e => hq (by omega)
          simp [callFn, hG, Tryz.f256, Tryz.inO, Oracle.or, pureO, Tryz.intF2, Tryz.intF1, Tryz.strF, intP_intS, la1, lb1, q1, q2, Tryz.bnO7, la2, lb2, ← hA, ← hB, Tryz.bnO6, Tryz.numF, Tryz.bnO5, Tryz.bnO3, Tryz.bnO2, Tryz.bnO1, hs0, hs1, oa, ob, ta, tb, g1, g2, g3, g4, va, vb, hc, g6, g7, ← hS, aBuild, fieldPlaces, hs4, os, ts, g5, vs, hs', hres, Nat.testBit]
        · simp [callFn, hG, Tryz.f256, Tryz.inO, Oracle.or, pureO, Tryz.intF2, Tryz.intF1, Tryz.strF, intP_intS, la1, lb1, q1, Tryz.bnO7, la2, lb2, ← hA, ← hB, Tryz.bnO6, Tryz.numF, Tryz.bnO5, Tryz.bnO3, Tryz.bnO2, Tryz.bnO1, hs0, hs1, oa, ob, ta, tb, g1, g2, g3, g4, va, vb, hc, g6, g7, ← hS, aBuild, fieldPlaces, hs4, os, ts, g5, vs, hs', hres, Nat.testBit]
      · have hc : ¬ cmpN a.natAbs b.natAbs < 0 := by unfold cmpN; rw [if_neg hlt]; split <;> omega
        obtain ⟨S, hS⟩ : ∃ S, S = dig 1000000000 (a.natAbs - b.natAbs) := ⟨_, rfl⟩
        have vs : lval 1000000000 S = a.natAbs - b.natAbs := by rw [hS]; exact lval_dig (by omega) _
        have os : lok 1000000000 S = true := by rw [hS]; exact lok_dig (by omega) _
        have ts : ltrim S = S := by rw [hS]; exact ltrim_dig (by omega) _
        have g5 : S.length ≤ 1000000 := by
          rw [hS]
          have h1 := dig9_length (a.natAbs - b.natAbs)
          have h2 := natD_length_mono (show a.natAbs - b.natAbs ≤ a.natAbs by omega)
          omega
        have g6 : B.length ≤ A.length := by
          rcases Nat.lt_or_ge A.length B.length with h | h
          · have := dig_length_lt (B := 1000000000) (m := a.natAbs) (n := b.natAbs) (by omega) (by rw [← hA, ← hB]; exact h)
            omega
          · exact h
        have g7 : b.natAbs ≤ a.natAbs := by omega
        have hres : closeS (decide (a < 0)) (a.natAbs - b.natAbs) = intS (a + b) := by
          rw [← closeS_intS (a + b)]
          have h0 : (a + b).natAbs = a.natAbs - b.natAbs := by
            by_cases h1 : a < 0 <;> by_cases h2 : b < 0 <;> simp [h1, h2] at hs <;> omega
          rw [h0]
          by_cases hz : a.natAbs - b.natAbs = 0
          · unfold closeS; rw [if_pos hz, if_pos hz]
          by_cases h1 : a < 0 <;> by_cases h2 : b < 0 <;> simp [h1, h2] at hs
          · rw [decide_eq_true h1, decide_eq_true (by omega)]
          · rw [decide_eq_false h1, decide_eq_false (by omega)]
        by_cases q1 : ((intS a).length : Int) ≤ 18
        · have q2 : ¬ ((intS b).length : Int) ≤ 18 := fun e => hq (by omega)
          simp [callFn, hG, Tryz.f256, Tryz.inO, Oracle.or, pureO, Tryz.intF2, Tryz.intF1, Tryz.strF, intP_intS, la1, lb1, q1, q2, Tryz.bnO7, la2, lb2, ← hA, ← hB, Tryz.bnO6, Tryz.numF, Tryz.bnO5, Tryz.bnO3, Tryz.bnO2, Tryz.bnO1, hs0, hs1, oa, ob, ta, tb, g1, g2, g3, g4, va, vb, hc, g6, g7, ← hS, aBuild, fieldPlaces, hs4, os, ts, g5, vs, hs', hres, Nat.testBit]
        · simp [callFn, hG, Tryz.f256, Tryz.inO, Oracle.or, pureO, Tryz.intF2, Tryz.intF1, Tryz.strF, intP_intS, la1, lb1, q1, Tryz.bnO7, la2, lb2, ← hA, ← hB, Tryz.bnO6, Tryz.numF, Tryz.bnO5, Tryz.bnO3, Tryz.bnO2, Tryz.bnO1, hs0, hs1, oa, ob, ta, tb, g1, g2, g3, g4, va, vb, hc, g6, g7, ← hS, aBuild, fieldPlaces, hs4, os, ts, g5, vs, hs', hres, Nat.testBit]
end Go.Proofs
namespace Go.Proofs
open Go.Eng
theorem closeS_mul (a b : Int) : closeS (!(decide (a < 0) == decide (b < 0))) (a.natAbs * b.natAbs) = intS (a * b) := by
  rw [← closeS_intS (a * b), Int.natAbs_mul]
  by_cases hz : a.natAbs * b.natAbs = 0
  · unfold closeS; rw [if_pos hz, if_pos hz]
  · have ha0 : a ≠ 0 := by rintro rfl; simp at hz
    have hb0 : b ≠ 0 := by rintro rfl; simp at hz
    congr 1
    by_cases h1 : a < 0 <;> by_cases h2 : b < 0
    · have h3 := Int.mul_pos_of_neg_of_neg h1 h2
      have h4 : ¬ a * b < 0 := by omega
      simp [h1, h2, h4]
    · have h3 := Int.mul_neg_of_neg_of_pos h1 (show 0 < b by omega)
      simp [h1, h2, h3]
    · have h3 := Int.mul_neg_of_pos_of_neg (show 0 < a by omega) h2
      simp [h1, h2, h3]
    · have h3 := Int.mul_nonneg (show 0 ≤ a by omega) (show 0 ≤ b by omega)
      have h4 : ¬ a * b < 0 := by omega
      simp [h1, h2, h4]
set_option maxHeartbeats 1600000 in
theorem Tryz.aMulI (a b : Int) (ha : (natD a.natAbs).length ≤ 100000) (hb : (natD b.natAbs).length ≤ 100000) (mem : Mem) : ACallsTo Tryz.prog 174 [.str (intS a), .str (intS b)] mem (.str (intS (a * b))) mem := by
  have hG : fnOf Tryz.prog 174 = some Tryz.f174 := by kernel_rfl
  refine Tryz.run Tryz.inO_ok (lv := fun _ => []) (K := 1) rfl rfl ?_ mem
  have la := intS_length a
  have lb := intS_length b
  have la1 : (intS a).length ≤ 1000000000 := by omega
  have lb1 : (intS b).length ≤ 1000000000 := by omega
  by_cases hq : (intS a).length ≤ 9 ∧ (intS b).length ≤ 9
  · have q1 : ((intS a).length : Int) ≤ 9 := by omega
    have q2 : ((intS b).length : Int) ≤ 9 := by omega
    have s1 := intS_small hq.1
    have s2 := intS_small hq.2
    have s3 : (a * b).natAbs < 10 ^ 9 * 10 ^ 9 := by rw [Int.natAbs_mul]; exact Nat.mul_lt_mul'' s1 s2
    have w1 : IntKind.i64.wrap (a * b) = a * b := wrap_i64 (by omega) (by omega)
    have hf : fitsI (a * b) = true := by unfold fitsI; simp; omega
    simp [callFn, hG, Tryz.f174, Tryz.inO, Oracle.or, pureO, Tryz.intF2, intP_intS, la1, lb1, q1, q2, w1, hf]
  · have da := dig9_length a.natAbs
    have db := dig9_length b.natAbs
    have la2 : (natD a.natAbs).length ≤ 1000000 := by omega
    have lb2 : (natD b.natAbs).length ≤ 1000000 := by omega
    have sum := natD_length_mul ha hb
    have ds := dig9_length (a.natAbs * b.natAbs)
    have va : lval 1000000000 (dig 1000000000 a.natAbs) = a.natAbs := lval_dig (by omega) _
    have vb : lval 1000000000 (dig 1000000000 b.natAbs) = b.natAbs := lval_dig (by omega) _
    have oa : lok 1000000000 (dig 1000000000 a.natAbs) = true := lok_dig (by omega) _
    have ob : lok 1000000000 (dig 1000000000 b.natAbs) = true := lok_dig (by omega) _
    obtain ⟨A, hA⟩ : ∃ A, A = dig 1000000000 a.natAbs := ⟨_, rfl⟩
    obtain ⟨B, hB⟩ : ∃ B, B = dig 1000000000 b.natAbs := ⟨_, rfl⟩
    rw [← hA] at da va oa
    rw [← hB] at db vb ob
    have g1 : A.length ≤ 100000000 := by omega
    have g2 : B.length ≤ 100000000 := by omega
    obtain ⟨S, hS⟩ : ∃ S, S = dig 1000000000 (a.natAbs * b.natAbs) := ⟨_, rfl⟩
    have vs : lval 1000000000 S = a.natAbs * b.natAbs := by rw [hS]; exact lval_dig (by omega) _
    have os : lok 1000000000 S = true := by rw [hS]; exact lok_dig (by omega) _
    have ts : ltrim S = S := by rw [hS]; exact ltrim_dig (by omega) _
    have g5 : S.length ≤ 1000000 := by rw [hS]; omega
    obtain ⟨mn, hmn⟩ : ∃ mn, mn = !(decide (a < 0) == decide (b < 0)) := ⟨_, rfl⟩
    have hres : closeS mn (a.natAbs * b.natAbs) = intS (a * b) := by rw [hmn]; exact closeS_mul a b
    by_cases q1 : ((intS a).length : Int) ≤ 9
    · have q2 : ¬ ((intS b).length : Int) ≤ 9 := fun e => hq (by omega)
      simp [callFn, hG, Tryz.f174, Tryz.inO, Oracle.or, pureO, Tryz.intF2, Tryz.intF1, Tryz.strF, intP_intS, la1, lb1, q1, q2, Tryz.bnO7, la2, lb2, ← hA, ← hB, Tryz.bnO6, Tryz.numF, Tryz.bnO5, Tryz.bnO3, Tryz.bnO2, hs0, hs1, oa, ob, g1, g2, va, vb, ← hS, aBuild, fieldPlaces, hs4, os, ts, g5, vs, ← hmn, hres, Nat.testBit]
    · simp [callFn, hG, Tryz.f174, Tryz.inO, Oracle.or, pureO, Tryz.intF2, Tryz.intF1, Tryz.strF, intP_intS, la1, lb1, q1, Tryz.bnO7, la2, lb2, ← hA, ← hB, Tryz.bnO6, Tryz.numF, Tryz.bnO5, Tryz.bnO3, Tryz.bnO2, hs0, hs1, oa, ob, g1, g2, va, vb, ← hS, aBuild, fieldPlaces, hs4, os, ts, g5, vs, ← hmn, hres, Nat.testBit]
end Go.Proofs
namespace Go.Proofs
open Go.Eng
theorem closeS_false (n : Nat) : closeS false n = natD n := by
  unfold closeS
  by_cases h : n = 0
  · subst h; rfl
  · rw [if_neg h]; rfl
theorem closeS_div {a : Int} {b : Nat} (hb : 0 < b) (h : 0 ≤ a ∨ a.natAbs % b = 0) : closeS (decide (a < 0)) (a.natAbs / b) = intS (a / b) := by
  rw [← closeS_intS (a / b)]
  by_cases h0 : a < 0
  · have h1 : a.natAbs % b = 0 := by rcases h with h | h <;> omega
    have h2 : a = -((a.natAbs / b * b : Nat) : Int) := by
      have := Nat.div_add_mod a.natAbs b
      rw [h1, Nat.add_zero, Nat.mul_comm] at this
      omega
    obtain ⟨q, hq⟩ : ∃ q, q = a.natAbs / b := ⟨_, rfl⟩
    rw [← hq] at h2
    have h3 : a / (b : Int) = -(q : Int) := by
      rw [h2, Int.natCast_mul, ← Int.neg_mul]
      exact Int.mul_ediv_cancel _ (by omega)
    rw [h3, ← hq, Int.natAbs_neg, Int.natAbs_natCast]
    by_cases hz : q = 0
    · unfold closeS; rw [if_pos hz, if_pos hz]
    · rw [decide_eq_true h0, decide_eq_true (by omega)]
  · obtain ⟨n, rfl⟩ : ∃ n : Nat, a = n := ⟨a.toNat, by omega⟩
    rw [← Int.natCast_ediv, Int.natAbs_natCast, Int.natAbs_natCast, decide_eq_false (by omega), decide_eq_false (Int.not_lt.2 (Int.natCast_nonneg _))]
set_option maxHeartbeats 1600000 in
theorem Tryz.aDivModI (a : Int) (b : Nat) (hb0 : 0 < b) (hab : 0 ≤ a ∨ a.natAbs % b = 0) (ha : (natD a.natAbs).length ≤ 100000) (hb : (natD b).length ≤ 100000) (mem : Mem) :
    ACallsTo Tryz.prog 265 [.str (intS a), .str (natD b)] mem (.tuple [.str (intS (a / b)), .str (natD (a.natAbs % b)), .int .i64 0]) mem := by
  have hG : fnOf Tryz.prog 265 = some Tryz.f265 := by kernel_rfl
  refine Tryz.run Tryz.inO_ok (lv := fun _ => []) (K := 1) rfl rfl ?_ mem
  rw [← closeS_div hb0 hab, ← closeS_false (a.natAbs % b)]
  have hpb : intP (natD b) = some (b : Int) := intP_intS (b : Int)
  have hbz : (natD b == [48]) = false := by
    rw [beq_eq_false_iff_ne]
    intro e
    have := natD_inj (e.trans (show [48] = natD 0 from rfl))
    omega
  have da := dig9_length a.natAbs
  have db := dig9_length b
  have la2 : (natD a.natAbs).length ≤ 1000000 := by omega
  have lb2 : (natD b).length ≤ 1000000 := by omega
  have va : lval 1000000000 (dig 1000000000 a.natAbs) = a.natAbs := lval_dig (by omega) _
  have vb : lval 1000000000 (dig 1000000000 b) = b := lval_dig (by omega) _
  have oa : lok 1000000000 (dig 1000000000 a.natAbs) = true := lok_dig (by omega) _
  have ob : lok 1000000000 (dig 1000000000 b) = true := lok_dig (by omega) _
  have ta : ltrim (dig 1000000000 a.natAbs) = dig 1000000000 a.natAbs := ltrim_dig (by omega) _
  have tb : ltrim (dig 1000000000 b) = dig 1000000000 b := ltrim_dig (by omega) _
  obtain ⟨A, hA⟩ : ∃ A, A = dig 1000000000 a.natAbs := ⟨_, rfl⟩
  obtain ⟨B, hB⟩ : ∃ B, B = dig 1000000000 b := ⟨_, rfl⟩
  rw [← hA] at da va oa ta
  rw [← hB] at db vb ob tb
  have g1 : A.length ≤ 1000000 := by omega
  have g2 : B.length ≤ 1000000 := by omega
  obtain ⟨n, hn⟩ : ∃ n, n = a.natAbs := ⟨_, rfl⟩
  rw [← hn] at va hA hab la2 ⊢
  have hbl : ¬ (b : Int) < 0 := by omega
  by_cases hlt : n < b
  · have h0 : ¬ a < 0 := by
      rcases hab with h | h
      · omega
      · rw [Nat.mod_eq_of_lt hlt] at h; omega
    rw [Nat.div_eq_of_lt hlt, Nat.mod_eq_of_lt hlt]
    simp [callFn, hG, Tryz.f265, Tryz.inO, Oracle.or, pureO, Tryz.intF2, Tryz.intF1, Tryz.strF, intP_intS, hpb, hbz, ← hn, Tryz.bnO7, la2, lb2, ← hA, ← hB, Tryz.bnO6, Tryz.numF, Tryz.bnO5, hs0, hs1, oa, ob, ta, tb, g1, g2, va, vb, hb0, hlt, h0, hbl, aBuild, fieldPlaces, Nat.testBit]
  · obtain ⟨q, hq⟩ : ∃ q, q = n / b := ⟨_, rfl⟩
    obtain ⟨r, hr⟩ : ∃ r, r = n % b := ⟨_, rfl⟩
    rw [← hr] at hab
    rw [← hq, ← hr]
    obtain ⟨Q, hQ⟩ : ∃ Q, Q = dig 1000000000 q := ⟨_, rfl⟩
    obtain ⟨R, hR⟩ : ∃ R, R = dig 1000000000 r := ⟨_, rfl⟩
    have vq : lval 1000000000 Q = q := by rw [hQ]; exact lval_dig (by omega) _
    have oq : lok 1000000000 Q = true := by rw [hQ]; exact lok_dig (by omega) _
    have tq : ltrim Q = Q := by rw [hQ]; exact ltrim_dig (by omega) _
    have gq : Q.length ≤ 1000000 := by
      rw [hQ]
      have h1 := dig9_length q
      have h2 := natD_length_mono (show q ≤ n by rw [hq]; exact Nat.div_le_self _ _)
      omega
    have vr : lval 1000000000 R = r := by rw [hR]; exact lval_dig (by omega) _
    have or : lok 1000000000 R = true := by rw [hR]; exact lok_dig (by omega) _
    have tr : ltrim R = R := by rw [hR]; exact ltrim_dig (by omega) _
    have gr : R.length ≤ 1000000 := by
      rw [hR]
      have h1 := dig9_length r
      have h2 := natD_length_mono (show r ≤ n by rw [hr]; exact Nat.mod_le _ _)
      omega
    have cond : ∀ x : Nat, ¬ (a < 0 ∧ 0 < R.length) := by
      intro _ h
      rcases hab with h1 | h1
      · omega
      · rw [hR, h1, dig_zero] at h; simp at h
    by_cases hz : 2 ≤ B.length ∧ r = 0
    · obtain ⟨hz1, hz2⟩ := hz
      by_cases h0 : a < 0
      · simp [callFn, hG, Tryz.f265, Tryz.inO, Oracle.or, pureO, Tryz.intF2, Tryz.intF1, Tryz.strF, intP_intS, hpb, hbz, ← hn, Tryz.bnO7, la2, lb2, ← hA, ← hB, Tryz.bnO6, Tryz.numF, Tryz.bnO5, hs0, hs1, oa, ob, ta, tb, g1, g2, va, vb, hb0, hlt, hbl, ← hq, ← hr, ← hQ, ← hR, hz1, hz2, h0, hs4, hs5, vq, oq, tq, gq, aBuild, fieldPlaces, Nat.testBit]
      · simp [callFn, hG, Tryz.f265, Tryz.inO, Oracle.or, pureO, Tryz.intF2, Tryz.intF1, Tryz.strF, intP_intS, hpb, hbz, ← hn, Tryz.bnO7, la2, lb2, ← hA, ← hB, Tryz.bnO6, Tryz.numF, Tryz.bnO5, hs0, hs1, oa, ob, ta, tb, g1, g2, va, vb, hb0, hlt, hbl, ← hq, ← hr, ← hQ, ← hR, hz1, hz2, h0, hs4, hs5, vq, oq, tq, gq, aBuild, fieldPlaces, Nat.testBit]
    · by_cases h0 : a < 0
      · have hrl : ¬ 0 < R.length := fun e => cond 0 ⟨h0, e⟩
        have hrl' : R = [] := List.eq_nil_of_length_eq_zero (by omega)
        have hr0 : r = 0 := by rcases hab with h | h <;> omega
        subst hr0
        have hz1 : ¬ 2 ≤ B.length := fun e => hz ⟨e, rfl⟩
        rw [hrl'] at hR vr
        have k1 : lok 1000000000 [] = true := rfl
        have k2 : ltrim [] = [] := rfl
        have h5e : ∀ a0 a1 a2 a3 a4 l, sliceN .u64 (a0 :: a1 :: a2 :: a3 :: a4 :: .cells true 1 [] :: l) (.slice 5 0 0 none) = some [] := fun a0 a1 a2 a3 a4 l => hs5 (A := []) true a0 a1 a2 a3 a4 l
        simp [callFn, hG, Tryz.f265, Tryz.inO, Oracle.or, pureO, Tryz.intF2, Tryz.intF1, Tryz.strF, intP_intS, hpb, hbz, ← hn, Tryz.bnO7, la2, lb2, ← hA, ← hB, Tryz.bnO6, Tryz.numF, Tryz.bnO5, hs0, hs1, oa, ob, ta, tb, g1, g2, va, vb, hb0, hlt, hbl, ← hq, ← hr, ← hQ, ← hR, hz1, hs4, h5e, k1, k2, vr, vq, oq, tq, gq, h0, aBuild, fieldPlaces, Nat.testBit]
      · simp [callFn, hG, Tryz.f265, Tryz.inO, Oracle.or, pureO, Tryz.intF2, Tryz.intF1, Tryz.strF, intP_intS, hpb, hbz, ← hn, Tryz.bnO7, la2, lb2, ← hA, ← hB, Tryz.bnO6, Tryz.numF, Tryz.bnO5, hs0, hs1, oa, ob, ta, tb, g1, g2, va, vb, hb0, hlt, hbl, ← hq, ← hr, ← hQ, ← hR, hz, hs4, hs5, vq, oq, tq, gq, vr, or, tr, gr, h0, aBuild, fieldPlaces, Nat.testBit]
end Go.Proofs
