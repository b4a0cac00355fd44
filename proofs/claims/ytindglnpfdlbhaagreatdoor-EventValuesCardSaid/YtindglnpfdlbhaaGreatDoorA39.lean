/- Part A39 of a proof: see its last part, YtindglnpfdlbhaaGreatDoorA51.lean. -/
import Derived.Test.YtindglnpfdlbhaaGreatDoorA38
set_option linter.all false
namespace Go.Proofs
open Go.Eng
theorem Tryz.aPBrief (q : Rat) (mem : Mem) : ACallsTo Tryz.prog 133 [.str (ratS q)] mem (if (ratS q).length ≤ 9 then .tuple [.int .i64 q.num, .int .i64 q.den, .bool true] else .tuple [.int .i64 0, .int .i64 0, .bool false]) mem := by
  have hG : fnOf Tryz.prog 133 = some Tryz.f133 := by kernel_rfl
  refine Tryz.run (noOracle_ok _) (lv := Tryz.briefLv) (K := 11) rfl (by split <;> rfl) ?_ mem
  by_cases hl : (ratS q).length ≤ 9
  · rw [if_pos hl]
    have hlI : ¬ (9 < ((ratS q).length : Int)) := by omega
    obtain ⟨b, b2, hb⟩ : ∃ b b2, loopsF Tryz.f133 = [b, b2] := ⟨_, _, rfl⟩
    obtain ⟨rest, hsh, hre⟩ := ratS_shape q
    obtain ⟨s, hs⟩ : ∃ s, s = ratS q := ⟨_, rfl⟩
    rw [← hs] at hl hlI hsh ⊢
    obtain ⟨N, hN⟩ : ∃ N, N = q.num.natAbs := ⟨_, rfl⟩
    rw [← hN] at hsh
    have hallN := natD_all N
    have hvN := valD_natD N
    have hpN := natD_pos N
    have hNn := natD_ne N
    have hrest : rest = [] ∨ ∃ r, rest = 47 :: r := by rw [hre]; split <;> simp
    obtain ⟨st, hst⟩ : ∃ st : Nat, st = if q.num < 0 then 1 else 0 := ⟨_, rfl⟩
    have hpre : (if q.num < 0 then [(45 : UInt8)] else []).length = st := by rw [hst]; split <;> rfl
    have hdrop : s.drop st = natD N ++ rest := by rw [hsh, ← hpre, List.drop_left]
    have hlen : s.length = st + (natD N).length + rest.length := by rw [hsh, List.length_append, hpre, List.length_append]; omega
    obtain ⟨F, hF⟩ := Tryz.brief_loop1 (O := noOracle) (K := 11) s (natD N) rest st hl (by omega) hdrop hrest hallN (by omega) hb
    rw [hvN] at hF
    obtain ⟨at1, hat⟩ : ∃ at1, at1 = st + (natD N).length := ⟨_, rfl⟩
    rw [← hat] at hF hlen
    have hN18 : N < 10 ^ 9 := by
      have h1 := natD_lt_pow N
      have h2 : 10 ^ (natD N).length ≤ 10 ^ 9 := Nat.pow_le_pow_right (by omega) (by omega)
      omega
    have wn : IntKind.i64.wrap (-(N : Int)) = -(N : Int) := wrap_i64 (by omega) (by omega)
    have wp : IntKind.i64.wrap (N : Int) = (N : Int) := wrap_i64 (by omega) (by omega)
    by_cases hd1 : q.den = 1
    · rw [if_pos hd1] at hre
      subst hre
      have hatl : ¬ at1 < s.length := by simp at hlen; omega
      simp [loopsF, loopsC, Tryz.f133] at hb
      obtain ⟨rfl, rfl⟩ := hb
      by_cases h0 : q.num < 0
      · rw [if_pos h0] at hst
        subst hst
        have hc : s[0]? = some 45 := by rw [hsh, if_pos h0]; rfl
        have e : -(N : Int) = q.num := by omega
        have wn' : IntKind.i64.wrap (-(N : Int)) = q.num := by rw [wn, e]
        simp only [Int.natCast_one] at hF
        simp [callFn, hG, Tryz.f133, hlI, hc, hF, hatl, wn', hd1]
      · rw [if_neg h0] at hst
        subst hst
        have hc : ∃ c, s[0]? = some c ∧ isD c = true := by
          rw [hsh, if_neg h0]
          cases hx : natD N with
          | nil => exact absurd hx hNn
          | cons c r =>
            rw [hx] at hallN
            simp only [List.all_cons, Bool.and_eq_true] at hallN
            exact ⟨c, by simp, hallN.1⟩
        obtain ⟨c, hc, hcD⟩ := hc
        have hc45 := isD_ne_minus hcD
        have e : (N : Int) = q.num := by omega
        have wp' : IntKind.i64.wrap (N : Int) = q.num := by rw [wp, e]
        simp only [Int.natCast_zero] at hF
        simp [callFn, hG, Tryz.f133, hlI, hc, hc45, hF, hatl, wp', hd1]
    · rw [if_neg hd1] at hre
      subst hre
      have hatl : at1 < s.length := by simp at hlen; omega
      have hatlI : (at1 : Int) < (s.length : Int) := by omega
      have hdrop2 : s.drop (at1 + 1) = natD q.den := by
        have h1 : s.drop at1 = 47 :: natD q.den := by
          rw [hat, ← List.drop_drop, hdrop, List.drop_left]
        rw [← List.drop_drop, h1]; rfl
      obtain ⟨F2, hF2⟩ := Tryz.brief_loop2 (O := noOracle) (K := 11) s (natD q.den) (at1 + 1) hl (by omega) hdrop2 (natD_all _) (by omega) hb
      rw [valD_natD] at hF2
      have w1 : IntKind.i64.wrap ((at1 : Int) + 1) = ((at1 + 1 : Nat) : Int) := by rw [wrap_i64 (by omega) (by omega)]; omega
      obtain ⟨at2, hat2⟩ : ∃ at2, at2 = at1 + 1 := ⟨_, rfl⟩
      rw [← hat2] at w1 hF2
      simp [loopsF, loopsC, Tryz.f133] at hb
      obtain ⟨rfl, rfl⟩ := hb
      by_cases h0 : q.num < 0
      · rw [if_pos h0] at hst
        subst hst
        have hc : s[0]? = some 45 := by rw [hsh, if_pos h0]; rfl
        have e : -(N : Int) = q.num := by omega
        have wn' : IntKind.i64.wrap (-(N : Int)) = q.num := by rw [wn, e]
        simp only [Int.natCast_one] at hF
        simp [callFn, hG, Tryz.f133, hlI, hc, hF, hatl, hatlI, w1, hF2, wn']
      · rw [if_neg h0] at hst
        subst hst
        have hc : ∃ c, s[0]? = some c ∧ isD c = true := by
          rw [hsh, if_neg h0]
          cases hx : natD N with
          | nil => exact absurd hx hNn
          | cons c r =>
            rw [hx] at hallN
            simp only [List.all_cons, Bool.and_eq_true] at hallN
            exact ⟨c, by simp, hallN.1⟩
        obtain ⟨c, hc, hcD⟩ := hc
        have hc45 := isD_ne_minus hcD
        have e : (N : Int) = q.num := by omega
        have wp' : IntKind.i64.wrap (N : Int) = q.num := by rw [wp, e]
        simp only [Int.natCast_zero] at hF
        simp [callFn, hG, Tryz.f133, hlI, hc, hc45, hF, hatl, hatlI, w1, hF2, wp']
  · rw [if_neg hl]
    have hlI : (9 < ((ratS q).length : Int)) := by omega
    simp [callFn, hG, Tryz.f133, hlI]
end Go.Proofs
namespace Go.Proofs
open Go.Eng
noncomputable def Tryz.rgF9 (f : FuncId) (args : List AV) : Option AV :=
  match f, args with
  | 133, [.str s] => match ratP s with
    | some q => some (if (ratS q).length ≤ 9 then .tuple [.int .i64 q.num, .int .i64 q.den, .bool true] else .tuple [.int .i64 0, .int .i64 0, .bool false])
    | none => none
  | 131, [.str s, .str t] => match intP s, natP t with
    | some n, some d => if d ≠ 0 ∧ (natD n.natAbs).length ≤ 10000 ∧ (natD d).length ≤ 10000 then some (.str (ratS (mkRat n d))) else none
    | _, _ => none
  | f, args => Tryz.rgF8 f args
theorem Tryz.rg9_ok : OracleOk Tryz.prog (pureO Tryz.rgF9) := pureO_ok fun f args v h mem => by
  unfold Tryz.rgF9 at h
  split at h
  · split at h
    · rename_i q hq; cases h; rw [ratP_some hq]; exact Tryz.aPBrief q mem
    · cases h
  · split at h
    · rename_i m n hm hn
      split at h
      · rename_i hc; cases h; rw [intP_some hm, natP_some hn]; exact Tryz.aPFraction m n hc.1 hc.2.1 hc.2.2 mem
      · cases h
    · cases h
  · have := Tryz.rg8_ok.fn _ _ mem ⟨v, none, []⟩ (by unfold pureO; simp only; rw [h])
    simpa [CallRes.mem] using this
def fine2 (q : Rat) : Prop := (natD q.num.natAbs).length ≤ 2000 ∧ (natD q.den).length ≤ 2000
theorem fine2_fine {q : Rat} (h : fine2 q) : fine q := ⟨by have := h.1; omega, by have := h.2; omega⟩
theorem brief_lt {q : Rat} (h : (ratS q).length ≤ 9) : q.num.natAbs < 10 ^ 9 ∧ q.den < 10 ^ 9 := big_of_length h
set_option maxHeartbeats 1600000 in
theorem Tryz.aPAdd (a b : Rat) (ha : fine2 a) (hb : fine2 b) (mem : Mem) :
    ACallsTo Tryz.prog 55 [.str (ratS a), .str (ratS b)] mem (.str (ratS (a + b))) mem := by
  have hG : fnOf Tryz.prog 55 = some Tryz.f55 := by kernel_rfl
  refine Tryz.run Tryz.rg9_ok (lv := fun _ => []) (K := 1) rfl rfl ?_ mem
  have la := fine_len (fine2_fine ha)
  have lb := fine_len (fine2_fine hb)
  have hdp : a.den * b.den ≠ 0 := Nat.mul_ne_zero a.den_nz b.den_nz
  have hsum := Rat.add_def' a b
  obtain ⟨X, hX⟩ : ∃ X, X = a.num * (b.den : Int) := ⟨_, rfl⟩
  obtain ⟨Y, hY⟩ : ∃ Y, Y = b.num * (a.den : Int) := ⟨_, rfl⟩
  obtain ⟨D, hD⟩ : ∃ D, D = a.den * b.den := ⟨_, rfl⟩
  rw [← hX, ← hY, ← hD] at hsum
  rw [← hD] at hdp
  rw [hsum]
  by_cases hq : (ratS a).length ≤ 9 ∧ (ratS b).length ≤ 9
  · obtain ⟨qa, qb⟩ := hq
    obtain ⟨a1, a2⟩ := brief_lt qa
    obtain ⟨b1, b2⟩ := brief_lt qb
    have x1 : X.natAbs < 10 ^ 9 * 10 ^ 9 := by rw [hX]; exact natAbs_mul_lt a1 (by simpa using b2)
    have y1 : Y.natAbs < 10 ^ 9 * 10 ^ 9 := by rw [hY]; exact natAbs_mul_lt b1 (by simpa using a2)
    have d1 : D < 10 ^ 9 * 10 ^ 9 := by rw [hD]; exact Nat.mul_lt_mul'' a2 b2
    have w1 : IntKind.i64.wrap (a.num * (b.den : Int)) = X := by rw [← hX]; exact wrap_i64 (by omega) (by omega)
    have w2 : IntKind.i64.wrap (b.num * (a.den : Int)) = Y := by rw [← hY]; exact wrap_i64 (by omega) (by omega)
    have w3 : IntKind.i64.wrap (X + Y) = X + Y := wrap_i64 (by omega) (by omega)
    have w4 : IntKind.i64.wrap ((a.den : Int) * (b.den : Int)) = (D : Int) := by
      rw [← Int.natCast_mul, ← hD]; exact wrap_i64 (by omega) (by omega)
    have c1 : (X + Y).natAbs ≤ 4611686018427387904 := by omega
    have c2 : D ≤ 4611686018427387904 := by omega
    simp [callFn, hG, Tryz.f55, pureO, Tryz.rgF9, Tryz.rgF8, ratP_ratS, qa, qb, w1, w2, w3, w4, hdp, c1, c2]
  · have s1 : (natD a.num.natAbs).length ≤ 5000 := by have := ha.1; omega
    have s2 : (natD a.den).length ≤ 5000 := by have := ha.2; omega
    have s3 : (natD b.num.natAbs).length ≤ 5000 := by have := hb.1; omega
    have s4 : (natD b.den).length ≤ 5000 := by have := hb.2; omega
    have x1 : (natD X.natAbs).length ≤ 4000 := by rw [hX, Int.natAbs_mul, Int.natAbs_natCast]; exact natD_length_mul ha.1 hb.2
    have y1 : (natD Y.natAbs).length ≤ 4000 := by rw [hY, Int.natAbs_mul, Int.natAbs_natCast]; exact natD_length_mul hb.1 ha.2
    have s5 : (natD X.natAbs).length ≤ 10000 := by omega
    have s6 : (natD Y.natAbs).length ≤ 10000 := by omega
    have s7 : (natD (X + Y).natAbs).length ≤ 10000 := by
      have h1 := natD_length_add x1 y1
      have h2 := natD_length_mono (Int.natAbs_add_le X Y)
      omega
    have s8 : (natD D).length ≤ 10000 := by
      have : (natD D).length ≤ 4000 := by rw [hD]; exact natD_length_mul ha.2 hb.2
      omega
    have hdI : intS ((a.den : Int) * (b.den : Int)) = natD D := by rw [← Int.natCast_mul, ← hD]; rfl
    by_cases qa : (ratS a).length ≤ 9
    · have qb : ¬ (ratS b).length ≤ 9 := fun h => hq ⟨qa, h⟩
      simp [callFn, hG, Tryz.f55, pureO, Tryz.rgF9, Tryz.rgF8, Tryz.rgF7, Tryz.rgF6, Tryz.rgF5, ratP_ratS, intP_intS, natP_natD', natP_natD, la, lb, qa, qb, s1, s2, s3, s4, ← hX, ← hY, s5, s6, s7, s8, hdI, hdp]
    · simp [callFn, hG, Tryz.f55, pureO, Tryz.rgF9, Tryz.rgF8, Tryz.rgF7, Tryz.rgF6, Tryz.rgF5, ratP_ratS, intP_intS, natP_natD', natP_natD, la, lb, qa, s1, s2, s3, s4, ← hX, ← hY, s5, s6, s7, s8, hdI, hdp]
set_option maxHeartbeats 1600000 in
theorem Tryz.aPMul (a b : Rat) (ha : fine2 a) (hb : fine2 b) (mem : Mem) :
    ACallsTo Tryz.prog 56 [.str (ratS a), .str (ratS b)] mem (.str (ratS (a * b))) mem := by
  have hG : fnOf Tryz.prog 56 = some Tryz.f56 := by kernel_rfl
  refine Tryz.run Tryz.rg9_ok (lv := fun _ => []) (K := 1) rfl rfl ?_ mem
  have la := fine_len (fine2_fine ha)
  have lb := fine_len (fine2_fine hb)
  have hdp : a.den * b.den ≠ 0 := Nat.mul_ne_zero a.den_nz b.den_nz
  have hsum := Rat.mul_def' a b
  obtain ⟨X, hX⟩ : ∃ X, X = a.num * b.num := ⟨_, rfl⟩
  obtain ⟨D, hD⟩ : ∃ D, D = a.den * b.den := ⟨_, rfl⟩
  rw [← hX, ← hD] at hsum
  rw [← hD] at hdp
  rw [hsum]
  by_cases hq : (ratS a).length ≤ 9 ∧ (ratS b).length ≤ 9
  · obtain ⟨qa, qb⟩ := hq
    obtain ⟨a1, a2⟩ := brief_lt qa
    obtain ⟨b1, b2⟩ := brief_lt qb
    have x1 : X.natAbs < 10 ^ 9 * 10 ^ 9 := by rw [hX]; exact natAbs_mul_lt a1 b1
    have d1 : D < 10 ^ 9 * 10 ^ 9 := by rw [hD]; exact Nat.mul_lt_mul'' a2 b2
    have w1 : IntKind.i64.wrap (a.num * b.num) = X := by rw [← hX]; exact wrap_i64 (by omega) (by omega)
    have w4 : IntKind.i64.wrap ((a.den : Int) * (b.den : Int)) = (D : Int) := by
      rw [← Int.natCast_mul, ← hD]; exact wrap_i64 (by omega) (by omega)
    have c1 : X.natAbs ≤ 4611686018427387904 := by omega
    have c2 : D ≤ 4611686018427387904 := by omega
    simp [callFn, hG, Tryz.f56, pureO, Tryz.rgF9, Tryz.rgF8, ratP_ratS, qa, qb, w1, w4, hdp, c1, c2]
  · have s1 : (natD a.num.natAbs).length ≤ 5000 := by have := ha.1; omega
    have s2 : (natD a.den).length ≤ 5000 := by have := ha.2; omega
    have s3 : (natD b.num.natAbs).length ≤ 5000 := by have := hb.1; omega
    have s4 : (natD b.den).length ≤ 5000 := by have := hb.2; omega
    have x1 : (natD X.natAbs).length ≤ 4000 := by rw [hX, Int.natAbs_mul]; exact natD_length_mul ha.1 hb.1
    have s5 : (natD X.natAbs).length ≤ 10000 := by omega
    have s8 : (natD D).length ≤ 10000 := by
      have : (natD D).length ≤ 4000 := by rw [hD]; exact natD_length_mul ha.2 hb.2
      omega
    have hdI : intS ((a.den : Int) * (b.den : Int)) = natD D := by rw [← Int.natCast_mul, ← hD]; rfl
    by_cases qa : (ratS a).length ≤ 9
    · have qb : ¬ (ratS b).length ≤ 9 := fun h => hq ⟨qa, h⟩
      simp [callFn, hG, Tryz.f56, pureO, Tryz.rgF9, Tryz.rgF8, Tryz.rgF7, Tryz.rgF6, Tryz.rgF5, ratP_ratS, intP_intS, natP_natD', natP_natD, la, lb, qa, qb, s1, s2, s3, s4, ← hX, s5, s8, hdI, hdp]
    · simp [callFn, hG, Tryz.f56, pureO, Tryz.rgF9, Tryz.rgF8, Tryz.rgF7, Tryz.rgF6, Tryz.rgF5, ratP_ratS, intP_intS, natP_natD', natP_natD, la, lb, qa, s1, s2, s3, s4, ← hX, s5, s8, hdI, hdp]
end Go.Proofs
namespace Go.Proofs
open Go.Eng
noncomputable def Tryz.rgF10 (f : FuncId) (args : List AV) : Option AV :=
  match f, args with
  | 55, [.str s, .str t] => match ratP s, ratP t with
    | some a, some b => if (natD a.num.natAbs).length ≤ 2000 ∧ (natD a.den).length ≤ 2000 ∧ (natD b.num.natAbs).length ≤ 2000 ∧ (natD b.den).length ≤ 2000 then some (.str (ratS (a + b))) else none
    | _, _ => none
  | 56, [.str s, .str t] => match ratP s, ratP t with
    | some a, some b => if (natD a.num.natAbs).length ≤ 2000 ∧ (natD a.den).length ≤ 2000 ∧ (natD b.num.natAbs).length ≤ 2000 ∧ (natD b.den).length ≤ 2000 then some (.str (ratS (a * b))) else none
    | _, _ => none
  | f, args => Tryz.rgF9 f args
theorem Tryz.rg10_ok : OracleOk Tryz.prog (pureO Tryz.rgF10) := pureO_ok fun f args v h mem => by
  unfold Tryz.rgF10 at h
  split at h
  · split at h
    · rename_i m n hm hn
      split at h
      · rename_i hc; cases h; rw [ratP_some hm, ratP_some hn]; exact Tryz.aPAdd m n ⟨hc.1, hc.2.1⟩ ⟨hc.2.2.1, hc.2.2.2⟩ mem
      · cases h
    · cases h
  · split at h
    · rename_i m n hm hn
      split at h
      · rename_i hc; cases h; rw [ratP_some hm, ratP_some hn]; exact Tryz.aPMul m n ⟨hc.1, hc.2.1⟩ ⟨hc.2.2.1, hc.2.2.2⟩ mem
      · cases h
    · cases h
  · have := Tryz.rg9_ok.fn _ _ mem ⟨v, none, []⟩ (by unfold pureO; simp only; rw [h])
    simpa [CallRes.mem] using this
theorem Tryz.aPSub (a b : Rat) (ha : fine2 a) (hb : fine2 b) (mem : Mem) :
    ACallsTo Tryz.prog 54 [.str (ratS a), .str (ratS b)] mem (.str (ratS (a - b))) mem := by
  have hG : fnOf Tryz.prog 54 = some Tryz.f54 := by kernel_rfl
  refine Tryz.run Tryz.rg10_ok (lv := fun _ => []) (K := 1) rfl rfl ?_ mem
  have lb := fine_len (fine2_fine hb)
  obtain ⟨a1, a2⟩ := ha
  obtain ⟨b1, b2⟩ := hb
  have e : a + -b = a - b := (Rat.sub_eq_add_neg a b).symm
  simp [callFn, hG, Tryz.f54, pureO, Tryz.rgF10, Tryz.rgF9, Tryz.rgF8, ratP_ratS, lb, a1, a2, b1, b2, e]
theorem Tryz.aPDiv (a b : Rat) (hb0 : 0 < b.num) (ha : fine2 a) (hb : fine2 b) (mem : Mem) :
    ACallsTo Tryz.prog 53 [.str (ratS a), .str (ratS b)] mem (.str (ratS (a / b))) mem := by
  have hG : fnOf Tryz.prog 53 = some Tryz.f53 := by kernel_rfl
  refine Tryz.run Tryz.rg10_ok (lv := fun _ => []) (K := 1) rfl rfl ?_ mem
  have lb := fine_len (fine2_fine hb)
  obtain ⟨a1, a2⟩ := ha
  obtain ⟨b1, b2⟩ := hb
  have e : a * b⁻¹ = a / b := (Rat.div_def a b).symm
  obtain ⟨i1, i2⟩ := inv_num_pos hb0
  have hw := Rat.mkRat_self b⁻¹
  obtain ⟨m, hm⟩ : ∃ m, m = b.num.natAbs := ⟨_, rfl⟩
  have hm0 : m ≠ 0 := by omega
  have hin : intS b.num = natD m := by rw [intS_natAbs (by omega), hm]
  rw [← hm] at b1 i2
  rw [i1, i2] at hw
  have b3 : (natD b⁻¹.num.natAbs).length ≤ 2000 := by rw [i1, Int.natAbs_natCast]; exact b2
  have b4 : (natD b⁻¹.den).length ≤ 2000 := by rw [i2]; exact b1
  obtain ⟨w, hw'⟩ : ∃ w, w = b⁻¹ := ⟨_, rfl⟩
  rw [← hw'] at b3 b4 hw e
  have b5 : (natD m).length ≤ 10000 := by omega
  have b6 : (natD b.den).length ≤ 10000 := by omega
  simp [callFn, hG, Tryz.f53, pureO, Tryz.rgF10, Tryz.rgF9, Tryz.rgF8, ratP_ratS, natP_natD, natP_natD', lb, hin, hm0, b5, b6, hw, a1, a2, b3, b4, e]
noncomputable def Tryz.rgF11 (f : FuncId) (args : List AV) : Option AV :=
  match f, args with
  | 54, [.str s, .str t] => match ratP s, ratP t with
    | some a, some b => if (natD a.num.natAbs).length ≤ 2000 ∧ (natD a.den).length ≤ 2000 ∧ (natD b.num.natAbs).length ≤ 2000 ∧ (natD b.den).length ≤ 2000 then some (.str (ratS (a - b))) else none
    | _, _ => none
  | 53, [.str s, .str t] => match ratP s, ratP t with
    | some a, some b => if 0 < b.num ∧ (natD a.num.natAbs).length ≤ 2000 ∧ (natD a.den).length ≤ 2000 ∧ (natD b.num.natAbs).length ≤ 2000 ∧ (natD b.den).length ≤ 2000 then some (.str (ratS (a / b))) else none
    | _, _ => none
  | f, args => Tryz.rgF10 f args
theorem Tryz.rg11_ok : OracleOk Tryz.prog (pureO Tryz.rgF11) := pureO_ok fun f args v h mem => by
  unfold Tryz.rgF11 at h
  split at h
  · split at h
    · rename_i m n hm hn
      split at h
      · rename_i hc; cases h; rw [ratP_some hm, ratP_some hn]; exact Tryz.aPSub m n ⟨hc.1, hc.2.1⟩ ⟨hc.2.2.1, hc.2.2.2⟩ mem
      · cases h
    · cases h
  · split at h
    · rename_i m n hm hn
      split at h
      · rename_i hc; cases h; rw [ratP_some hm, ratP_some hn]; exact Tryz.aPDiv m n hc.1 ⟨hc.2.1, hc.2.2.1⟩ ⟨hc.2.2.2.1, hc.2.2.2.2⟩ mem
      · cases h
    · cases h
  · have := Tryz.rg10_ok.fn _ _ mem ⟨v, none, []⟩ (by unfold pureO; simp only; rw [h])
    simpa [CallRes.mem] using this
theorem Tryz.aPCompare (a b : Rat) (ha : fine2 a) (hb : fine2 b) (mem : Mem) :
    ACallsTo Tryz.prog 47 [.str (ratS a), .str (ratS b)] mem (.int .i64 (sgnR (a - b))) mem := by
  have hG : fnOf Tryz.prog 47 = some Tryz.f47 := by kernel_rfl
  refine Tryz.run Tryz.rg11_ok (lv := fun _ => []) (K := 1) rfl rfl ?_ mem
  obtain ⟨a1, a2⟩ := ha
  obtain ⟨b1, b2⟩ := hb
  obtain ⟨c, hc⟩ : ∃ c, c = a - b := ⟨_, rfl⟩
  rw [← hc]
  simp [callFn, hG, Tryz.f47, pureO, Tryz.rgF11, Tryz.rgF10, Tryz.rgF9, Tryz.rgF8, ratP_ratS, a1, a2, b1, b2, ← hc]
end Go.Proofs
namespace Go.Proofs
open Go.Eng
noncomputable def Tryz.rgFR (f : FuncId) (args : List AV) : Option AV :=
  match f, args with
  | 48, [.str s] => if s.length ≤ 1000000000 then some (match s.idxOf? 47 with | some i => .tuple [.str (s.take i), .str (s.drop (i + 1))] | none => .tuple [.str s, .str [49]]) else none
  | f, args => Tryz.rgF8 f args
theorem Tryz.rgR_ok : OracleOk Tryz.prog (pureO Tryz.rgFR) := pureO_ok fun f args v h mem => by
  unfold Tryz.rgFR at h
  split at h
  · split at h
    · rename_i hc; cases h; exact Tryz.aPParts _ hc mem
    · cases h
  · have := Tryz.rg8_ok.fn _ _ mem ⟨v, none, []⟩ (by unfold pureO; simp only; rw [h])
    simpa [CallRes.mem] using this
theorem chkR_zero (s : List UInt8) : chkR s = 0 ∨ chkR s = 2 := by
  unfold chkR
  split
  · split
    · exact .inl rfl
    · exact .inr rfl
  · exact .inr rfl
set_option maxHeartbeats 1600000 in
theorem Tryz.aPRight (s : List UInt8) (hl : s.length ≤ 1000000000) (mem : Mem) :
    ACallsTo Tryz.prog 14 [.str s] mem (.bool (chkR s == 0)) mem := by
  have hG : fnOf Tryz.prog 14 = some Tryz.f14 := by kernel_rfl
  refine Tryz.run Tryz.rgR_ok (lv := fun _ => []) (K := 1) rfl rfl ?_ mem
  have hi := indexByte_idxOf s 47
  cases hx : s.idxOf? 47 with
  | none =>
    rw [hx] at hi
    simp only at hi
    rw [chkR_none hx]
    have h49 : okI [49] = true := rfl
    cases ho : okI s with
    | true => simp [callFn, hG, Tryz.f14, pureO, Tryz.rgFR, Tryz.rgF8, Tryz.rgF7, Tryz.rgF6, Tryz.rgF5, Tryz.rgF4, Tryz.rgF3, Tryz.rgF2, Tryz.rgF1, Tryz.strF, hl, hi, hx, ho, h49]
    | false => simp [callFn, hG, Tryz.f14, pureO, Tryz.rgFR, Tryz.rgF8, Tryz.rgF7, Tryz.rgF6, Tryz.rgF5, Tryz.rgF4, Tryz.rgF3, Tryz.rgF2, Tryz.rgF1, Tryz.strF, hl, hx, ho]
  | some i =>
    rw [hx] at hi
    simp only at hi
    have hi0 : ¬ (i : Int) < 0 := by omega
    obtain ⟨a, ha⟩ : ∃ a, a = s.take i := ⟨_, rfl⟩
    obtain ⟨b, hb⟩ : ∃ b, b = s.drop (i + 1) := ⟨_, rfl⟩
    have la : a.length ≤ 1000000000 := by rw [ha, List.length_take]; omega
    have lb : b.length ≤ 1000000000 := by rw [hb, List.length_drop]; omega
    cases ho : okI a with
    | false =>
      rw [chkR_bad1 hx (by rw [← ha]; exact ho)]
      simp [callFn, hG, Tryz.f14, pureO, Tryz.rgFR, Tryz.rgF8, Tryz.rgF7, hl, hx, ← ha, ← hb, la, ho]
    | true =>
      cases ho2 : okI b with
      | false =>
        rw [chkR_bad2 hx (by rw [← hb]; exact ho2)]
        simp [callFn, hG, Tryz.f14, pureO, Tryz.rgFR, Tryz.rgF8, Tryz.rgF7, hl, hx, ← ha, ← hb, la, lb, ho, ho2]
      | true =>
        have hn : ∃ n, intP a = some n ∧ (natD n.natAbs).length ≤ 200 := by
          unfold okI at ho
          cases hx : intP a with
          | none => rw [hx] at ho; cases ho
          | some n => rw [hx] at ho; exact ⟨n, rfl, by simpa using ho⟩
        have hd : ∃ n, intP b = some n ∧ (natD n.natAbs).length ≤ 200 := by
          unfold okI at ho2
          cases hx : intP b with
          | none => rw [hx] at ho2; cases ho2
          | some n => rw [hx] at ho2; exact ⟨n, rfl, by simpa using ho2⟩
        obtain ⟨n, hn, n2⟩ := hn
        obtain ⟨d, hd, d2⟩ := hd
        rw [chkR_slash hx (by rw [← ha]; exact hn) (by rw [← hb]; exact hd) n2 d2]
        have h1 : intP [49] = some 1 := rfl
        have l1 : (natD 1).length ≤ 10000 := by decide
        have hcmp : 0 < sgnI (d - 1) ↔ 1 < d := by
          unfold sgnI
          split
          · constructor <;> intro h <;> omega
          · split <;> constructor <;> intro h <;> omega
        have ha0 : (a == [48]) = decide (n = 0) := by rw [intP_some hn, intS_beq_zero]
        have n3 : (natD n.natAbs).length ≤ 10000 := by omega
        have d3 : (natD d.natAbs).length ≤ 10000 := by omega
        by_cases c1 : 1 < d
        · have c1' : 0 < sgnI (d - 1) := hcmp.2 c1
          by_cases c2 : n = 0
          · have c3 : ¬ n.natAbs.gcd d.natAbs = 1 := by subst c2; simp; omega
            rw [if_neg (fun e => c3 e.2)]
            simp [callFn, hG, Tryz.f14, pureO, Tryz.rgFR, Tryz.rgF8, Tryz.rgF7, Tryz.rgF6, Tryz.rgF5, Tryz.rgF4, Tryz.rgF3, Tryz.rgF2, Tryz.rgF1, Tryz.strF, hl, hx, hi, hi0, ← ha, ← hb, la, lb, ho, ho2, hd, h1, l1, d3, c1', ha0, c2]
          · by_cases c3 : n.natAbs.gcd d.natAbs = 1
            · rw [if_pos ⟨c1, c3⟩]
              simp [callFn, hG, Tryz.f14, pureO, Tryz.rgFR, Tryz.rgF8, Tryz.rgF7, Tryz.rgF6, Tryz.rgF5, Tryz.rgF4, Tryz.rgF3, Tryz.rgF2, Tryz.rgF1, Tryz.strF, hl, hx, hi, hi0, ← ha, ← hb, la, lb, ho, ho2, hn, hd, h1, l1, n3, d3, c1', ha0, c2, natD_beq_one, c3]
            · rw [if_neg (fun e => c3 e.2)]
              simp [callFn, hG, Tryz.f14, pureO, Tryz.rgFR, Tryz.rgF8, Tryz.rgF7, Tryz.rgF6, Tryz.rgF5, Tryz.rgF4, Tryz.rgF3, Tryz.rgF2, Tryz.rgF1, Tryz.strF, hl, hx, hi, hi0, ← ha, ← hb, la, lb, ho, ho2, hn, hd, h1, l1, n3, d3, c1', ha0, c2, natD_beq_one, c3]
        · have c1' : ¬ 0 < sgnI (d - 1) := fun e => c1 (hcmp.1 e)
          rw [if_neg (fun e => c1 e.1)]
          simp [callFn, hG, Tryz.f14, pureO, Tryz.rgFR, Tryz.rgF8, Tryz.rgF7, Tryz.rgF6, Tryz.rgF5, Tryz.rgF4, Tryz.rgF3, Tryz.rgF2, Tryz.rgF1, Tryz.strF, hl, hx, hi, hi0, ← ha, ← hb, la, lb, ho, ho2, hd, h1, l1, d3, c1']
end Go.Proofs
