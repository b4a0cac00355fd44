/- Part A38 of a proof: see its last part, YtindglnpfdlbhaaGreatDoorA51.lean. -/
import Derived.Test.YtindglnpfdlbhaaGreatDoorA37
import Derived.Test.YtindglnpfdlbhaaGreatDoorA31
set_option linter.all false
namespace Go.Proofs
open Go.Eng
theorem Tryz.aPParts (s : List UInt8) (hl : s.length ≤ 1000000000) (mem : Mem) : ACallsTo Tryz.prog 48 [.str s] mem (match s.idxOf? 47 with | some i => .tuple [.str (s.take i), .str (s.drop (i + 1))] | none => .tuple [.str s, .str [49]]) mem := by
  have hG : fnOf Tryz.prog 48 = some Tryz.f48 := by kernel_rfl
  refine Tryz.run Tryz.str_ok (lv := fun _ => []) (K := 1) rfl (by split <;> rfl) ?_ mem
  have hi := indexByte_idxOf s 47
  cases hx : s.idxOf? 47 with
  | none =>
    rw [hx] at hi
    simp only at hi
    simp [callFn, hG, Tryz.f48, pureO, Tryz.strF, hi]
  | some i =>
    rw [hx] at hi
    simp only at hi
    have hil : i < s.length := by
      have := (List.idxOf?_eq_some_iff.1 hx).1
      exact this
    have h0 : ¬ (i : Int) < 0 := by omega
    have h1 : (i : Int) ≤ (s.length : Int) := by omega
    have h1' : i ≤ s.length := by omega
    have w1 : IntKind.i64.wrap ((i : Int) + 1) = ((i + 1 : Nat) : Int) := by rw [wrap_i64 (by omega) (by omega)]; omega
    obtain ⟨j, hj⟩ : ∃ j, j = i + 1 := ⟨_, rfl⟩
    show _ = some (CallRes.mk (.tuple [.str (s.take i), .str (s.drop (i + 1))]) none [])
    rw [← hj] at w1 ⊢
    have h2 : (j : Int) ≤ (s.length : Int) := by omega
    have h2' : j ≤ s.length := by omega
    have htk : (s.drop j).take (s.length - j) = s.drop j := List.take_of_length_le (by simp)
    simp [callFn, hG, Tryz.f48, pureO, Tryz.strF, hi, h0, h1, h1', w1, h2, h2', htk, Nat.testBit]
theorem Tryz.aPPartsR (q : Rat) (hl : (ratS q).length ≤ 1000000000) (mem : Mem) : ACallsTo Tryz.prog 48 [.str (ratS q)] mem (.tuple [.str (intS q.num), .str (natD q.den)]) mem := by
  have h := Tryz.aPParts (ratS q) hl mem
  by_cases hd : q.den = 1
  · have e : ratS q = intS q.num := by unfold ratS; rw [if_pos hd]
    have hi : (ratS q).idxOf? 47 = none := by rw [e]; exact idxOf_none (intS_no_slash _)
    rw [hi] at h
    have : natD q.den = [49] := by rw [hd]; rfl
    rw [this]
    rw [← e]
    exact h
  · have e : ratS q = intS q.num ++ 47 :: natD q.den := by unfold ratS; rw [if_neg hd]
    have hi : (ratS q).idxOf? 47 = some (intS q.num).length := by rw [e]; exact idxOf_at (intS_no_slash _)
    rw [hi] at h
    have h1 : List.drop ((intS q.num).length + 1) (ratS q) = natD q.den := by rw [e, List.drop_append]; simp
    have h2 : List.take (intS q.num).length (ratS q) = intS q.num := by rw [e]; exact List.take_left' rfl
    simp only [h1, h2] at h
    exact h
theorem Tryz.aPNeg (q : Rat) (hl : (ratS q).length ≤ 1000000000) (mem : Mem) : ACallsTo Tryz.prog 132 [.str (ratS q)] mem (.str (ratS (-q))) mem := by
  have hG : fnOf Tryz.prog 132 = some Tryz.f132 := by kernel_rfl
  refine Tryz.run (noOracle_ok _) (lv := fun _ => []) (K := 1) rfl rfl ?_ mem
  by_cases h0 : q = 0
  · subst h0
    simp [callFn, hG, Tryz.f132, ratS_beq_zero]
  · have hn : ¬ q.num = 0 := fun e => h0 (num_zero.1 e)
    by_cases h1 : q.num < 0
    · have e := ratS_of_neg h1
      have hb : (45 :: ratS (-q) == [48]) = false := by rw [← e, ratS_beq_zero]; simpa using h0
      rw [e]
      have h3 : (1 : Int) ≤ ((ratS (-q)).length : Int) + 1 := by omega
      simp [callFn, hG, Tryz.f132, hb, h3]
    · have e := ratS_neg_pos (q := q) (by omega)
      obtain ⟨c, r, e2, hc⟩ := ratS_head (q := q) (by omega)
      have hb : (c :: r == [48]) = false := by rw [← e2, ratS_beq_zero]; simpa using h0
      have h2 := isD_ne_minus hc
      rw [e, e2]
      rw [e2] at hl
      simp only [List.length_cons] at hl
      have h3 : 1 + (r.length + 1) ≤ 9223372036854775807 := by omega
      simp [callFn, hG, Tryz.f132, hb, h2, h3, maxInt]
theorem Tryz.aPSign (q : Rat) (mem : Mem) : ACallsTo Tryz.prog 26 [.str (ratS q)] mem (.int .i64 (sgnR q)) mem := by
  have hG : fnOf Tryz.prog 26 = some Tryz.f26 := by kernel_rfl
  refine Tryz.run (noOracle_ok _) (lv := fun _ => []) (K := 1) rfl rfl ?_ mem
  by_cases h0 : q = 0
  · subst h0
    have : sgnR 0 = 0 := rfl
    simp [callFn, hG, Tryz.f26, ratS_beq_zero, this]
  · have hn : ¬ q.num = 0 := fun e => h0 (num_zero.1 e)
    by_cases h1 : q.num < 0
    · have e := ratS_of_neg h1
      have hb : (45 :: ratS (-q) == [48]) = false := by rw [← e, ratS_beq_zero]; simpa using h0
      rw [e]
      simp [callFn, hG, Tryz.f26, hb, sgnR, sgnI, h1]
    · obtain ⟨c, r, e2, hc⟩ := ratS_head (q := q) (by omega)
      have hb : (c :: r == [48]) = false := by rw [← e2, ratS_beq_zero]; simpa using h0
      have h2 := isD_ne_minus hc
      rw [e2]
      simp [callFn, hG, Tryz.f26, hb, h2, sgnR, sgnI, h1, hn]
end Go.Proofs
namespace Go.Proofs
open Go.Eng
theorem Tryz.plow_loop {O : Oracle} {K : Nat} (n m : Int) (hK : m.natAbs < K) {b : Code} (hb : loopsF Tryz.f134 = [b]) :
    ∃ F : Env → Bool → Env, ∀ env0 d, (Go.Eng.look env0 5 = .int .i64 n ∧ Go.Eng.look env0 6 = .int .i64 m) →
      execC (tyOf Tryz.prog) (fun _ => [5, 6]) O K 36 0 true (.loop b) ⟨env0, [], d⟩ = some (.exit 0, ⟨F env0 d, [], d⟩) ∧ (Go.Eng.look (F env0 d) 5 = .int .i64 (euc K n m) ∧ Go.Eng.look (F env0 d) 0 = Go.Eng.look env0 0 ∧ Go.Eng.look (F env0 d) 1 = Go.Eng.look env0 1 ∧ Go.Eng.look (F env0 d) 4 = Go.Eng.look env0 4) := by
  refine loop_rule rfl (fun env0 => Go.Eng.look env0 5 = .int .i64 n ∧ Go.Eng.look env0 6 = .int .i64 m) (fun env0 env' => Go.Eng.look env' 5 = .int .i64 (euc K n m) ∧ Go.Eng.look env' 0 = Go.Eng.look env0 0 ∧ Go.Eng.look env' 1 = Go.Eng.look env0 1 ∧ Go.Eng.look env' 4 = Go.Eng.look env0 4) ?_
  rintro env0 d ⟨h5, h6⟩
  have hn : normE [5, 6] (writesC b) env0 ((5, .int .i64 n) :: (6, .int .i64 m) :: env0) = normE [5, 6] (writesC b) env0 env0 := by simp [normE, h5, h6]
  rw [← hn]
  have key : ∀ (k : Nat) (x y : Int), y.natAbs < k → ∃ env', iter [5, 6] (writesC b) env0 0 (execC (tyOf Tryz.prog) (fun _ => [5, 6]) O K 36 0 true b) k ⟨normE [5, 6] (writesC b) env0 ((5, .int .i64 x) :: (6, .int .i64 y) :: env0), [], d⟩ =
      some (.exit 0, ⟨env', [], d⟩) ∧ Go.Eng.look env' 5 = .int .i64 (euc k x y) ∧ Go.Eng.look env' 0 = Go.Eng.look env0 0 ∧ Go.Eng.look env' 1 = Go.Eng.look env0 1 ∧ Go.Eng.look env' 4 = Go.Eng.look env0 4 := by
    clear hn
    simp [loopsF, loopsC, Tryz.f134] at hb
    intro k
    induction k with
    | zero => intro x y h; omega
    | succ k ih =>
      intro x y hk
      by_cases hy : y = 0
      · subst hb
        subst hy
        simp [iter, euc]
      · have hlt : (x.tmod y).natAbs < k := by
          rw [Int.natAbs_tmod]
          have := Nat.mod_lt x.natAbs (show 0 < y.natAbs by omega)
          omega
        obtain ⟨env', e1, e2, e4⟩ := ih y (x.tmod y) hlt
        subst hb
        refine ⟨env', ?_, by rw [e2, euc, if_neg hy], e4⟩
        rw [iter]
        simp [hy]
        simp at e1
        exact e1
  exact key K n m hK
theorem Tryz.aPLowest (n : Int) (m : Nat) (hn : n.natAbs ≤ 4611686018427387904) (hm0 : m ≠ 0) (hm : m ≤ 4611686018427387904) (mem : Mem) : ACallsTo Tryz.prog 134 [.int .i64 n, .int .i64 m] mem (.str (ratS (mkRat n m))) mem := by
  have hG : fnOf Tryz.prog 134 = some Tryz.f134 := by kernel_rfl
  refine Tryz.run Tryz.str_ok (lv := fun _ => [5, 6]) (K := m + 1) rfl rfl ?_ mem
  obtain ⟨b, hb⟩ : ∃ b, loopsF Tryz.f134 = [b] := ⟨_, rfl⟩
  obtain ⟨N, hN⟩ : ∃ N : Nat, N = n.natAbs := ⟨_, rfl⟩
  obtain ⟨F, hF⟩ := Tryz.plow_loop (O := pureO Tryz.strF) (K := m + 1) (N : Int) (m : Int) (by simp) hb
  simp [loopsF, loopsC, Tryz.f134] at hb
  subst hb
  rw [ratS_mkRat n hm0, ← hN]
  have hgE : ∀ k (x y : Nat), 0 ≤ euc k (x : Int) (y : Int) := by
    intro k
    induction k with
    | zero => intro x y; unfold euc; omega
    | succ k ih =>
      intro x y
      unfold euc
      split
      · omega
      · rw [tmod_nat]; exact ih y (x % y)
  have hg := euc_natAbs (m + 1) (N : Int) (m : Int) (by simp)
  have hg0 := hgE (m + 1) N m
  generalize euc (m + 1) (N : Int) (m : Int) = gz at hF hg hg0
  rw [Int.natAbs_natCast, Int.natAbs_natCast] at hg
  obtain ⟨g, rfl⟩ : ∃ g : Nat, gz = g := ⟨gz.toNat, by omega⟩
  rw [Int.natAbs_natCast] at hg
  rw [← hg]
  have hgp : 0 < g := by rw [hg]; exact Nat.gcd_pos_of_pos_right _ (by omega)
  have hgn : g ∣ N := by rw [hg]; exact Nat.gcd_dvd_left _ _
  have hgd : g ∣ m := by rw [hg]; exact Nat.gcd_dvd_right _ _
  have hgm : g ≤ m := Nat.le_of_dvd (by omega) hgd
  have te := tdiv_exact (a := n) hgp (.inr (by rw [← hN]; exact Nat.mod_eq_zero_of_dvd hgn))
  have hq1 : (n / (g : Int)).natAbs ≤ n.natAbs := Int.natAbs_ediv_le_natAbs _ _
  obtain ⟨Z, hZ⟩ : ∃ Z, Z = n / (g : Int) := ⟨_, rfl⟩
  rw [← hZ] at hq1 te ⊢
  obtain ⟨D, hD⟩ : ∃ D, D = m / g := ⟨_, rfl⟩
  have hDm : D ≤ m := by rw [hD]; exact Nat.div_le_self _ _
  rw [← hD]
  have w0 : IntKind.i64.wrap (-n) = -n := wrap_i64 (by omega) (by omega)
  have hmax : (if n < -n then -n else n) = (N : Int) := by split <;> omega
  have hmax' : (if -n < n then n else -n) = (N : Int) := by split <;> omega
  have w1 : IntKind.i64.wrap (n.tdiv (g : Int)) = Z := by rw [te.1]; exact wrap_i64 (by omega) (by omega)
  have w1' : IntKind.i64.wrap Z = Z := wrap_i64 (by omega) (by omega)
  have w2 : IntKind.i64.wrap ((m : Int).tdiv (g : Int)) = (D : Int) := by rw [tdiv_nat, ← hD]; exact wrap_i64 (by omega) (by omega)
  have w2' : IntKind.i64.wrap ((m : Int) / (g : Int)) = (D : Int) := by rw [← Int.natCast_ediv, ← hD]; exact wrap_i64 (by omega) (by omega)
  have hf1 : fitsI Z = true := by unfold fitsI; simp; omega
  have hf2 : fitsI (D : Int) = true := by unfold fitsI; simp; omega
  have hDs : intS (D : Int) = natD D := rfl
  have hg0' : ¬ g = 0 := by omega
  have lZ : (intS Z).length + 1 ≤ maxInt ∧ (intS Z).length + 1 + (natD D).length ≤ maxInt := by
    have h1 := intS_length Z
    have h2 := natD_length_le (u := Z.natAbs) (k := 20) (by omega) (by omega)
    have h3 := natD_length_le (u := D) (k := 20) (by omega) (by omega)
    unfold maxInt; omega
  obtain ⟨l1, l2⟩ := lZ
  by_cases hm1 : m = 1
  · have hg1 : g = 1 := by omega
    have hD1 : D = 1 := by rw [hD, hm1, hg1]
    have hZn : Z = n := by rw [hZ, hg1]; exact Int.ediv_one n
    have hfn : fitsI n = true := by rw [← hZn]; exact hf1
    subst hm1
    rw [if_pos hD1, hZn]
    simp [callFn, hG, Tryz.f134, pureO, Tryz.strF, hfn]
  · have hm1I : ¬ (m : Int) = 1 := by omega
    by_cases hD1 : D = 1
    · have hD1I : (D : Int) = 1 := by omega
      rw [if_pos hD1]
      simp [callFn, hG, Tryz.f134, hm1, hm1I, w0, hmax, hmax', hF, hg0', te, w1', w1, w2, w2', hD1I, pureO, Tryz.strF, hf1, Nat.testBit]
    · have hD1I : ¬ (D : Int) = 1 := by omega
      rw [if_neg hD1]
      simp [callFn, hG, Tryz.f134, hm1, hm1I, w0, hmax, hmax', hF, hg0', te, w1', w1, w2, w2', hD1I, hD1, pureO, Tryz.strF, hf1, hf2, hDs, l1, l2, Nat.testBit]
end Go.Proofs
namespace Go.Proofs
open Go.Eng
theorem Tryz.psmall_loop {O : Oracle} {K : Nat} (n m : Int) (hK : m.natAbs < K) {b : Code} (hb : loopsF Tryz.f198 = [b]) :
    ∃ F : Env → Bool → Env, ∀ env0 d, (Go.Eng.look env0 9 = .int .i64 n ∧ Go.Eng.look env0 10 = .int .i64 m) →
      execC (tyOf Tryz.prog) (fun _ => [9, 10]) O K 55 0 true (.loop b) ⟨env0, [], d⟩ = some (.exit 0, ⟨F env0 d, [], d⟩) ∧ (Go.Eng.look (F env0 d) 9 = .int .i64 (euc K n m) ∧ Go.Eng.look (F env0 d) 5 = Go.Eng.look env0 5 ∧ Go.Eng.look (F env0 d) 7 = Go.Eng.look env0 7 ∧ Go.Eng.look (F env0 d) 4 = Go.Eng.look env0 4) := by
  refine loop_rule rfl (fun env0 => Go.Eng.look env0 9 = .int .i64 n ∧ Go.Eng.look env0 10 = .int .i64 m) (fun env0 env' => Go.Eng.look env' 9 = .int .i64 (euc K n m) ∧ Go.Eng.look env' 5 = Go.Eng.look env0 5 ∧ Go.Eng.look env' 7 = Go.Eng.look env0 7 ∧ Go.Eng.look env' 4 = Go.Eng.look env0 4) ?_
  rintro env0 d ⟨h5, h6⟩
  have hn : normE [9, 10] (writesC b) env0 ((9, .int .i64 n) :: (10, .int .i64 m) :: env0) = normE [9, 10] (writesC b) env0 env0 := by simp [normE, h5, h6]
  rw [← hn]
  have key : ∀ (k : Nat) (x y : Int), y.natAbs < k → ∃ env', iter [9, 10] (writesC b) env0 0 (execC (tyOf Tryz.prog) (fun _ => [9, 10]) O K 55 0 true b) k ⟨normE [9, 10] (writesC b) env0 ((9, .int .i64 x) :: (10, .int .i64 y) :: env0), [], d⟩ =
      some (.exit 0, ⟨env', [], d⟩) ∧ Go.Eng.look env' 9 = .int .i64 (euc k x y) ∧ Go.Eng.look env' 5 = Go.Eng.look env0 5 ∧ Go.Eng.look env' 7 = Go.Eng.look env0 7 ∧ Go.Eng.look env' 4 = Go.Eng.look env0 4 := by
    clear hn
    simp [loopsF, loopsC, Tryz.f198] at hb
    intro k
    induction k with
    | zero => intro x y h; omega
    | succ k ih =>
      intro x y hk
      by_cases hy : y = 0
      · subst hb
        subst hy
        simp [iter, euc]
      · have hlt : (x.tmod y).natAbs < k := by
          rw [Int.natAbs_tmod]
          have := Nat.mod_lt x.natAbs (show 0 < y.natAbs by omega)
          omega
        obtain ⟨env', e1, e2, e4⟩ := ih y (x.tmod y) hlt
        subst hb
        refine ⟨env', ?_, by rw [e2, euc, if_neg hy], e4⟩
        rw [iter]
        simp [hy]
        simp at e1
        exact e1
  exact key K n m hK
theorem euc_nonneg : ∀ (k x y : Nat), 0 ≤ euc k (x : Int) (y : Int) := by
  intro k
  induction k with
  | zero => intro x y; unfold euc; omega
  | succ k ih =>
    intro x y
    unfold euc
    split
    · omega
    · rw [tmod_nat]; exact ih y (x % y)
theorem Tryz.aPSmall (n : Int) (m : Nat) (hm0 : m ≠ 0) (hl1 : (intS n).length ≤ 18) (hl2 : (natD m).length ≤ 18) (mem : Mem) : ACallsTo Tryz.prog 198 [.str (intS n), .str (natD m)] mem (.str (ratS (mkRat n m))) mem := by
  have hG : fnOf Tryz.prog 198 = some Tryz.f198 := by kernel_rfl
  have hn := intS_small hl1
  have hm : m < 10 ^ 18 := by
    have h1 := natD_lt_pow m
    have h2 : 10 ^ (natD m).length ≤ 10 ^ 18 := Nat.pow_le_pow_right (by omega) hl2
    omega
  refine Tryz.run Tryz.str_ok (lv := fun _ => [9, 10]) (K := m + 1) rfl rfl ?_ mem
  obtain ⟨b, hb⟩ : ∃ b, loopsF Tryz.f198 = [b] := ⟨_, rfl⟩
  obtain ⟨N, hN⟩ : ∃ N : Nat, N = n.natAbs := ⟨_, rfl⟩
  rw [← hN] at hn
  obtain ⟨F, hF⟩ := Tryz.psmall_loop (O := pureO Tryz.strF) (K := m + 1) (N : Int) (m : Int) (by simp) hb
  simp [loopsF, loopsC, Tryz.f198] at hb
  subst hb
  rw [ratS_mkRat n hm0, ← hN]
  have hg := euc_natAbs (m + 1) (N : Int) (m : Int) (by simp)
  have hg0 := euc_nonneg (m + 1) N m
  generalize euc (m + 1) (N : Int) (m : Int) = gz at hF hg hg0
  rw [Int.natAbs_natCast, Int.natAbs_natCast] at hg
  obtain ⟨g, rfl⟩ : ∃ g : Nat, gz = g := ⟨gz.toNat, by omega⟩
  rw [Int.natAbs_natCast] at hg
  rw [← hg]
  have hgp : 0 < g := by rw [hg]; exact Nat.gcd_pos_of_pos_right _ (by omega)
  have hgn : g ∣ N := by rw [hg]; exact Nat.gcd_dvd_left _ _
  have te := tdiv_exact (a := n) hgp (.inr (by rw [← hN]; exact Nat.mod_eq_zero_of_dvd hgn))
  have hq1 : (n / (g : Int)).natAbs ≤ n.natAbs := Int.natAbs_ediv_le_natAbs _ _
  obtain ⟨Z, hZ⟩ : ∃ Z, Z = n / (g : Int) := ⟨_, rfl⟩
  rw [← hZ] at hq1 te ⊢
  obtain ⟨D, hD⟩ : ∃ D, D = m / g := ⟨_, rfl⟩
  have hDm : D ≤ m := by rw [hD]; exact Nat.div_le_self _ _
  rw [← hD]
  have w1 : IntKind.i64.wrap (n.tdiv (g : Int)) = Z := by rw [te.1]; exact wrap_i64 (by omega) (by omega)
  have w1' : IntKind.i64.wrap Z = Z := wrap_i64 (by omega) (by omega)
  have w2 : IntKind.i64.wrap ((m : Int).tdiv (g : Int)) = (D : Int) := by rw [tdiv_nat, ← hD]; exact wrap_i64 (by omega) (by omega)
  have w2' : IntKind.i64.wrap ((m : Int) / (g : Int)) = (D : Int) := by rw [← Int.natCast_ediv, ← hD]; exact wrap_i64 (by omega) (by omega)
  have hf1 : fitsI Z = true := by unfold fitsI; simp; omega
  have hf2 : fitsI (D : Int) = true := by unfold fitsI; simp; omega
  have hDs : intS (D : Int) = natD D := rfl
  have hg0' : ¬ g = 0 := by omega
  have lZ : (intS Z).length + 1 ≤ maxInt ∧ (intS Z).length + 1 + (natD D).length ≤ maxInt := by
    have h1 := intS_length Z
    have h2 := natD_length_le (u := Z.natAbs) (k := 20) (by omega) (by omega)
    have h3 := natD_length_le (u := D) (k := 20) (by omega) (by omega)
    unfold maxInt; omega
  obtain ⟨l1, l2⟩ := lZ
  have ha2 : Lib.atoi (natD m) = some (m : Int) := atoi_intS (m : Int)
  have hmn : ¬ (m : Int) < 0 := by omega
  have w0 : IntKind.i64.wrap (-n) = -n := wrap_i64 (by omega) (by omega)
  have hneg : n < 0 → -n = (N : Int) := by omega
  have hpos : ¬ n < 0 → n = (N : Int) := by omega
  by_cases h0 : n < 0
  · have w0' : IntKind.i64.wrap (-n) = (N : Int) := by rw [w0]; exact hneg h0
    by_cases hD1 : D = 1
    · have hD1I : (D : Int) = 1 := by omega
      rw [if_pos hD1]
      simp [callFn, hG, Tryz.f198, pureO, Tryz.strF, hl1, hl2, atoi_intS, ha2, hmn, h0, w0', hF, hg0', te, w1', w1, w2, w2', hD1I, hf1, Nat.testBit]
    · have hD1I : ¬ (D : Int) = 1 := by omega
      rw [if_neg hD1]
      simp [callFn, hG, Tryz.f198, pureO, Tryz.strF, hl1, hl2, atoi_intS, ha2, hmn, h0, w0', hF, hg0', te, w1', w1, w2, w2', hD1I, hD1, hf1, hf2, hDs, l1, l2, Nat.testBit]
  · have e := hpos h0
    rw [← e] at hF
    by_cases hD1 : D = 1
    · have hD1I : (D : Int) = 1 := by omega
      rw [if_pos hD1]
      simp [callFn, hG, Tryz.f198, pureO, Tryz.strF, hl1, hl2, atoi_intS, ha2, hmn, h0,  hF, hg0', te, w1', w1, w2, w2', hD1I, hf1, Nat.testBit]
    · have hD1I : ¬ (D : Int) = 1 := by omega
      rw [if_neg hD1]
      simp [callFn, hG, Tryz.f198, pureO, Tryz.strF, hl1, hl2, atoi_intS, ha2, hmn, h0,  hF, hg0', te, w1', w1, w2, w2', hD1I, hD1, hf1, hf2, hDs, l1, l2, Nat.testBit]
end Go.Proofs
namespace Go.Proofs
open Go.Eng
noncomputable def Tryz.rgF8 (f : FuncId) (args : List AV) : Option AV :=
  match f, args with
  | 52, [.str s, .str t] => match intP s, intP t with
    | some a, some b => if (natD a.natAbs).length ≤ 10000 ∧ (natD b.natAbs).length ≤ 10000 then some (.str (natD (a.natAbs.gcd b.natAbs))) else none
    | _, _ => none
  | 198, [.str s, .str t] => match intP s, natP t with
    | some n, some m => if m ≠ 0 ∧ (intS n).length ≤ 18 ∧ (natD m).length ≤ 18 then some (.str (ratS (mkRat n m))) else none
    | _, _ => none
  | 134, [.int .i64 n, .int .i64 d] => if d.toNat ≠ 0 ∧ n.natAbs ≤ 4611686018427387904 ∧ 0 ≤ d ∧ d.toNat ≤ 4611686018427387904 then some (.str (ratS (mkRat n d.toNat))) else none
  | 48, [.str s] => match ratP s with
    | some q => if s.length ≤ 1000000000 then some (.tuple [.str (intS q.num), .str (natD q.den)]) else none
    | none => none
  | 132, [.str s] => match ratP s with
    | some q => if s.length ≤ 1000000000 then some (.str (ratS (-q))) else none
    | none => none
  | 26, [.str s] => match ratP s with
    | some q => some (.int .i64 (sgnR q))
    | none => none
  | f, args => Tryz.rgF7 f args
theorem Tryz.rg8_ok : OracleOk Tryz.prog (pureO Tryz.rgF8) := pureO_ok fun f args v h mem => by
  unfold Tryz.rgF8 at h
  split at h
  · split at h
    · rename_i m n hm hn
      split at h
      · rename_i hc; cases h; rw [intP_some hm, intP_some hn]; exact Tryz.aRGcd m n hc.1 hc.2 mem
      · cases h
    · cases h
  · split at h
    · rename_i m n hm hn
      split at h
      · rename_i hc; cases h; rw [intP_some hm, natP_some hn]; exact Tryz.aPSmall m n hc.1 hc.2.1 hc.2.2 mem
      · cases h
    · cases h
  · split at h
    · rename_i hc
      obtain ⟨hd, c1, c2, c3⟩ := hc
      cases h
      have := Tryz.aPLowest _ _ c1 hd c3 mem
      rw [Int.toNat_of_nonneg c2] at this
      exact this
    · cases h
  · split at h
    · rename_i q hq
      split at h
      · rename_i hl; cases h; rw [ratP_some hq] at hl ⊢; exact Tryz.aPPartsR q hl mem
      · cases h
    · cases h
  · split at h
    · rename_i q hq
      split at h
      · rename_i hl; cases h; rw [ratP_some hq] at hl ⊢; exact Tryz.aPNeg q hl mem
      · cases h
    · cases h
  · split at h
    · rename_i q hq; cases h; rw [ratP_some hq]; exact Tryz.aPSign q mem
    · cases h
  · have := Tryz.rg7_ok.fn _ _ mem ⟨v, none, []⟩ (by unfold pureO; simp only; rw [h])
    simpa [CallRes.mem] using this
set_option maxHeartbeats 1600000 in
theorem Tryz.aPFraction (n : Int) (d : Nat) (hd : d ≠ 0) (hn : (natD n.natAbs).length ≤ 10000) (hdl : (natD d).length ≤ 10000) (mem : Mem) :
    ACallsTo Tryz.prog 131 [.str (intS n), .str (natD d)] mem (.str (ratS (mkRat n d))) mem := by
  have hG : fnOf Tryz.prog 131 = some Tryz.f131 := by kernel_rfl
  refine Tryz.run Tryz.rg8_ok (lv := fun _ => []) (K := 1) rfl rfl ?_ mem
  have hli := intS_length n
  by_cases hq : (intS n).length ≤ 9 ∧ (natD d).length ≤ 9
  · have q1 : ((intS n).length : Int) ≤ 9 := by omega
    have q2 : ((natD d).length : Int) ≤ 9 := by omega
    have q3 : (intS n).length ≤ 18 := by omega
    have q4 : (natD d).length ≤ 18 := by omega
    simp [callFn, hG, Tryz.f131, q1, q2, pureO, Tryz.rgF8, intP_intS, natP_natD, hd, q3, q4]
  · rw [ratS_mkRat n hd]
    have hs := sgnI_pos hd
    have hgp : 0 < n.natAbs.gcd d := Nat.gcd_pos_of_pos_right _ (by omega)
    have hg1 : n.natAbs.gcd d ∣ n.natAbs := Nat.gcd_dvd_left _ _
    have hg2 : n.natAbs.gcd d ∣ d := Nat.gcd_dvd_right _ _
    have hle : n.natAbs.gcd d ≤ d := Nat.le_of_dvd (by omega) hg2
    obtain ⟨g, hg⟩ : ∃ g, g = n.natAbs.gcd d := ⟨_, rfl⟩
    rw [← hg] at hgp hg1 hg2 hle ⊢
    have hgl : (natD g).length ≤ 10000 := by have := natD_length_mono hle; omega
    have hm1 : n.natAbs % g = 0 := Nat.mod_eq_zero_of_dvd hg1
    have hdg : intS ((d : Int) / (g : Int)) = natD (d / g) := by rw [← Int.natCast_ediv]; rfl
    obtain ⟨Z, hZ⟩ : ∃ Z, Z = n / (g : Int) := ⟨_, rfl⟩
    obtain ⟨D, hD⟩ : ∃ D, D = d / g := ⟨_, rfl⟩
    rw [← hD] at hdg
    rw [← hZ, ← hD]
    have hq1 : (natD Z.natAbs).length ≤ 10000 := by
      have := natD_length_mono (Int.natAbs_ediv_le_natAbs n g)
      rw [← hZ] at this; omega
    have hq2 : (natD D).length ≤ 10000 := by
      have := natD_length_mono (Nat.div_le_self d g)
      rw [← hD] at this; omega
    have hl4 := intS_length Z
    have hl5 : (intS Z).length + 1 ≤ maxInt := by unfold maxInt; omega
    have hl6 : (intS Z).length + 1 + (natD D).length ≤ maxInt := by unfold maxInt; omega
    by_cases q1 : (intS n).length ≤ 9
    · have q2 : ¬ (natD d).length ≤ 9 := fun e => hq ⟨q1, e⟩
      have q1I : ((intS n).length : Int) ≤ 9 := by omega
      have q2I : ¬ ((natD d).length : Int) ≤ 9 := by omega
      by_cases h1 : D = 1
      · simp [callFn, hG, Tryz.f131, q1I, q2I, pureO, Tryz.rgF8, Tryz.rgF7, Tryz.rgF6, Tryz.rgF5, Tryz.rgF4, Tryz.rgF3, natP_natD', natP_natD, intP_intS, hs, hn, hdl, ← hg, hgl, hgp, hm1, ← hZ, hdg, natD_beq_one, h1]
      · simp [callFn, hG, Tryz.f131, q1I, q2I, pureO, Tryz.rgF8, Tryz.rgF7, Tryz.rgF6, Tryz.rgF5, Tryz.rgF4, Tryz.rgF3, natP_natD', natP_natD, intP_intS, hs, hn, hdl, ← hg, hgl, hgp, hm1, ← hZ, hdg, natD_beq_one, h1, hl5, hl6]
    · have q1I : ¬ ((intS n).length : Int) ≤ 9 := by omega
      by_cases h1 : D = 1
      · simp [callFn, hG, Tryz.f131, q1I, pureO, Tryz.rgF8, Tryz.rgF7, Tryz.rgF6, Tryz.rgF5, Tryz.rgF4, Tryz.rgF3, natP_natD', natP_natD, intP_intS, hs, hn, hdl, ← hg, hgl, hgp, hm1, ← hZ, hdg, natD_beq_one, h1]
      · simp [callFn, hG, Tryz.f131, q1I, pureO, Tryz.rgF8, Tryz.rgF7, Tryz.rgF6, Tryz.rgF5, Tryz.rgF4, Tryz.rgF3, natP_natD', natP_natD, intP_intS, hs, hn, hdl, ← hg, hgl, hgp, hm1, ← hZ, hdg, natD_beq_one, h1, hl5, hl6]
end Go.Proofs
namespace Go.Proofs
open Go.Eng
theorem valD_take_lt {ds : List UInt8} (hd : ds.all isD = true) (hl : ds.length ≤ 9) (j : Nat) : valD (ds.take j) < 10 ^ 9 := by
  have h1 := valD_lt (all_take hd j)
  have h2 : (ds.take j).length ≤ 9 := by rw [List.length_take]; omega
  have h3 : 10 ^ (ds.take j).length ≤ 10 ^ 9 := Nat.pow_le_pow_right (by omega) h2
  omega
def Tryz.briefLv (c : Code) : List Nat := if (writesC c).contains 24 then [2, 5] else [3, 5]
theorem Tryz.brief_loop1 {O : Oracle} {K : Nat} (s ds rest : List UInt8) (st : Nat) (hs : s.length ≤ 9) (hst : st ≤ s.length) (hd : s.drop st = ds ++ rest) (hrest : rest = [] ∨ ∃ r, rest = 47 :: r) (hall : ds.all isD = true) (hK : 10 < K) {b b2 : Code} (hb : loopsF Tryz.f133 = [b, b2]) :
    ∃ F : Env → Bool → Env, ∀ env0 d, (Go.Eng.look env0 0 = .str s ∧ Go.Eng.look env0 2 = .int .i64 0 ∧ Go.Eng.look env0 5 = .int .i64 (st : Int)) →
      execC (tyOf Tryz.prog) Tryz.briefLv O K 57 0 true (.loop b) ⟨env0, [], d⟩ = some (.exit 0, ⟨F env0 d, [], d⟩) ∧ (Go.Eng.look (F env0 d) 2 = .int .i64 ((valD ds : Nat) : Int) ∧ Go.Eng.look (F env0 d) 5 = .int .i64 ((st + ds.length : Nat) : Int) ∧ Go.Eng.look (F env0 d) 0 = Go.Eng.look env0 0 ∧ Go.Eng.look (F env0 d) 3 = Go.Eng.look env0 3 ∧ Go.Eng.look (F env0 d) 6 = Go.Eng.look env0 6) := by
  have hlv : Tryz.briefLv b = [2, 5] := by
    simp [loopsF, loopsC, Tryz.f133] at hb
    obtain ⟨rfl, rfl⟩ := hb
    decide
  have hlen : st + ds.length + rest.length = s.length := by
    have := congrArg List.length hd
    simp at this; omega
  refine loop_rule hlv (fun env0 => Go.Eng.look env0 0 = .str s ∧ Go.Eng.look env0 2 = .int .i64 0 ∧ Go.Eng.look env0 5 = .int .i64 (st : Int)) (fun env0 env' => Go.Eng.look env' 2 = .int .i64 ((valD ds : Nat) : Int) ∧ Go.Eng.look env' 5 = .int .i64 ((st + ds.length : Nat) : Int) ∧ Go.Eng.look env' 0 = Go.Eng.look env0 0 ∧ Go.Eng.look env' 3 = Go.Eng.look env0 3 ∧ Go.Eng.look env' 6 = Go.Eng.look env0 6) ?_
  rintro env0 d ⟨h0, h2, h5⟩
  have hv0 : valD (ds.take 0) = 0 := by rw [List.take_zero]; unfold valD; rw [valF_nil]
  have hn : normE [2, 5] (writesC b) env0 ((2, .int .i64 ((valD (ds.take 0) : Nat) : Int)) :: (5, .int .i64 ((st + 0 : Nat) : Int)) :: env0) = normE [2, 5] (writesC b) env0 env0 := by rw [hv0]; simp [normE, h2, h5]
  rw [← hn]
  refine iter_ind (α := Nat) (fun j => ⟨normE [2, 5] (writesC b) env0 ((2, .int .i64 ((valD (ds.take j) : Nat) : Int)) :: (5, .int .i64 ((st + j : Nat) : Int)) :: env0), [], d⟩)
    (fun j => ds.length - j) (fun j => j ≤ ds.length) (.exit 0) _ d _ (by simp) ?_ K 0 (Nat.zero_le _) (by simp only [Nat.sub_zero]; omega)
  intro j hj
  clear hn hv0
  simp [loopsF, loopsC, Tryz.f133] at hb
  obtain ⟨i, hi⟩ : ∃ i, i = st + j := ⟨_, rfl⟩
  have hsi : s[i]? = (ds ++ rest)[j]? := by rw [← hd, List.getElem?_drop, hi]
  by_cases hje : j = ds.length
  · right
    subst hje
    rw [List.take_length, ← hi]
    rw [List.getElem?_append_right (Nat.le_refl _), Nat.sub_self] at hsi
    obtain ⟨rfl, rfl⟩ := hb
    rcases hrest with h | ⟨r, h⟩
    · subst h
      have hil : i = s.length := by simp at hlen; omega
      have h1 : ¬ i < s.length := by omega
      have h1I : ¬ (i : Int) < (s.length : Int) := by omega
      simp [h0, h1, h1I]
    · subst h
      have hil : i < s.length := by simp at hlen; omega
      have hilI : (i : Int) < (s.length : Int) := by omega
      have hc : s[i]? = some 47 := by simpa using hsi
      have hc' : s[i] = 47 := (List.getElem?_eq_some_iff.1 hc).2
      simp [h0, hil, hilI, hc, hc']
  · left
    have hlt : j < ds.length := by omega
    obtain ⟨c, hc⟩ : ∃ c, ds[j]? = some c := ⟨ds[j], by simp [hlt]⟩
    rw [List.getElem?_append_left hlt, hc] at hsi
    have hil : i < s.length := (List.getElem?_eq_some_iff.1 hsi).1
    have hilI : (i : Int) < (s.length : Int) := by omega
    have hsi' : s[i] = c := (List.getElem?_eq_some_iff.1 hsi).2
    have hcD := List.all_eq_true.1 hall c (List.mem_of_getElem? hc)
    have hcd := isD_lt hcD
    have hc48 : 48 ≤ c.toNat ∧ c.toNat ≤ 57 := by unfold isD at hcD; simp only [Bool.and_eq_true, decide_eq_true_eq] at hcD; exact hcD
    have hc47 : ¬ ((c.toNat : Int) = 47) := by omega
    have hst2 : ds.take (j + 1) = ds.take j ++ [c] := by rw [List.take_add_one, hc]; rfl
    have hvn : valD (ds.take (j + 1)) = 10 * valD (ds.take j) + (c.toNat - 48) := by rw [hst2, valD_snoc]
    have hvb := valD_take_lt hall (by omega) j
    obtain ⟨v, hvv⟩ : ∃ v, v = valD (ds.take j) := ⟨_, rfl⟩
    obtain ⟨v2, hvv2⟩ : ∃ v, v = valD (ds.take (j + 1)) := ⟨_, rfl⟩
    rw [← hvv] at hvb hvn
    rw [← hvv2] at hvn
    obtain ⟨k, hk⟩ : ∃ k : Nat, k = c.toNat - 48 := ⟨_, rfl⟩
    have w0 : IntKind.u8.wrap ((c.toNat : Int) - 48) = (k : Int) := by rw [wrap_u8 (by omega) (by omega)]; omega
    have w1 : IntKind.i64.wrap (k : Int) = (k : Int) := wrap_i64 (by omega) (by omega)
    have w2 : IntKind.i64.wrap (10 * (v : Int)) = 10 * (v : Int) := wrap_i64 (by omega) (by omega)
    have w3 : IntKind.i64.wrap (10 * (v : Int) + (k : Int)) = (v2 : Int) := by rw [wrap_i64 (by omega) (by omega)]; omega
    have w4 : IntKind.i64.wrap ((i : Int) + 1) = ((st + (j + 1) : Nat) : Int) := by rw [wrap_i64 (by omega) (by omega)]; omega
    rw [← hi]
    refine ⟨j + 1, ?_⟩
    refine exists_and_fin (show j + 1 ≤ ds.length ∧ _ from ⟨hlt, by omega⟩) ?_
    obtain ⟨rfl, rfl⟩ := hb
    simp [h0, hil, hilI, hsi, hsi', hc47, ← hvv, ← hvv2, w0, w1, w2, w3, w4]
    try omega
theorem Tryz.brief_loop2 {O : Oracle} {K : Nat} (s ds : List UInt8) (st : Nat) (hs : s.length ≤ 9) (hst : st ≤ s.length) (hd : s.drop st = ds) (hall : ds.all isD = true) (hK : 10 < K) {b b2 : Code} (hb : loopsF Tryz.f133 = [b, b2]) :
    ∃ F : Env → Bool → Env, ∀ env0 d, (Go.Eng.look env0 0 = .str s ∧ Go.Eng.look env0 3 = .int .i64 0 ∧ Go.Eng.look env0 5 = .int .i64 (st : Int)) →
      execC (tyOf Tryz.prog) Tryz.briefLv O K 57 0 true (.loop b2) ⟨env0, [], d⟩ = some (.exit 2, ⟨F env0 d, [], d⟩) ∧ (Go.Eng.look (F env0 d) 3 = .int .i64 ((valD ds : Nat) : Int) ∧ Go.Eng.look (F env0 d) 2 = Go.Eng.look env0 2 ∧ Go.Eng.look (F env0 d) 6 = Go.Eng.look env0 6) := by
  have hlv : Tryz.briefLv b2 = [3, 5] := by
    simp [loopsF, loopsC, Tryz.f133] at hb
    obtain ⟨rfl, rfl⟩ := hb
    decide
  have hlen : st + ds.length = s.length := by
    have := congrArg List.length hd
    simp at this; omega
  refine loop_rule hlv (fun env0 => Go.Eng.look env0 0 = .str s ∧ Go.Eng.look env0 3 = .int .i64 0 ∧ Go.Eng.look env0 5 = .int .i64 (st : Int)) (fun env0 env' => Go.Eng.look env' 3 = .int .i64 ((valD ds : Nat) : Int) ∧ Go.Eng.look env' 2 = Go.Eng.look env0 2 ∧ Go.Eng.look env' 6 = Go.Eng.look env0 6) ?_
  rintro env0 d ⟨h0, h2, h5⟩
  have hv0 : valD (ds.take 0) = 0 := by rw [List.take_zero]; unfold valD; rw [valF_nil]
  have hn : normE [3, 5] (writesC b2) env0 ((3, .int .i64 ((valD (ds.take 0) : Nat) : Int)) :: (5, .int .i64 ((st + 0 : Nat) : Int)) :: env0) = normE [3, 5] (writesC b2) env0 env0 := by rw [hv0]; simp [normE, h2, h5]
  rw [← hn]
  refine iter_ind (α := Nat) (fun j => ⟨normE [3, 5] (writesC b2) env0 ((3, .int .i64 ((valD (ds.take j) : Nat) : Int)) :: (5, .int .i64 ((st + j : Nat) : Int)) :: env0), [], d⟩)
    (fun j => ds.length - j) (fun j => j ≤ ds.length) (.exit 2) _ d _ (by simp) ?_ K 0 (Nat.zero_le _) (by simp only [Nat.sub_zero]; omega)
  intro j hj
  clear hn hv0
  simp [loopsF, loopsC, Tryz.f133] at hb
  obtain ⟨i, hi⟩ : ∃ i, i = st + j := ⟨_, rfl⟩
  have hsi : s[i]? = ds[j]? := by rw [← hd, List.getElem?_drop, hi]
  by_cases hje : j = ds.length
  · right
    subst hje
    rw [List.take_length, ← hi]
    obtain ⟨rfl, rfl⟩ := hb
    have h1 : ¬ i < s.length := by omega
    have h1I : ¬ (i : Int) < (s.length : Int) := by omega
    simp [h0, h1]
  · left
    have hlt : j < ds.length := by omega
    obtain ⟨c, hc⟩ : ∃ c, ds[j]? = some c := ⟨ds[j], by simp [hlt]⟩
    rw [hc] at hsi
    have hil : i < s.length := (List.getElem?_eq_some_iff.1 hsi).1
    have hilI : (i : Int) < (s.length : Int) := by omega
    have hsi' : s[i] = c := (List.getElem?_eq_some_iff.1 hsi).2
    have hcD := List.all_eq_true.1 hall c (List.mem_of_getElem? hc)
    have hcd := isD_lt hcD
    have hc48 : 48 ≤ c.toNat ∧ c.toNat ≤ 57 := by unfold isD at hcD; simp only [Bool.and_eq_true, decide_eq_true_eq] at hcD; exact hcD
    have hst2 : ds.take (j + 1) = ds.take j ++ [c] := by rw [List.take_add_one, hc]; rfl
    have hvn : valD (ds.take (j + 1)) = 10 * valD (ds.take j) + (c.toNat - 48) := by rw [hst2, valD_snoc]
    have hvb := valD_take_lt hall (by omega) j
    obtain ⟨v, hvv⟩ : ∃ v, v = valD (ds.take j) := ⟨_, rfl⟩
    obtain ⟨v2, hvv2⟩ : ∃ v, v = valD (ds.take (j + 1)) := ⟨_, rfl⟩
    rw [← hvv] at hvb hvn
    rw [← hvv2] at hvn
    obtain ⟨k, hk⟩ : ∃ k : Nat, k = c.toNat - 48 := ⟨_, rfl⟩
    have w0 : IntKind.u8.wrap ((c.toNat : Int) - 48) = (k : Int) := by rw [wrap_u8 (by omega) (by omega)]; omega
    have w1 : IntKind.i64.wrap (k : Int) = (k : Int) := wrap_i64 (by omega) (by omega)
    have w2 : IntKind.i64.wrap (10 * (v : Int)) = 10 * (v : Int) := wrap_i64 (by omega) (by omega)
    have w3 : IntKind.i64.wrap (10 * (v : Int) + (k : Int)) = (v2 : Int) := by rw [wrap_i64 (by omega) (by omega)]; omega
    have w4 : IntKind.i64.wrap ((i : Int) + 1) = ((st + (j + 1) : Nat) : Int) := by rw [wrap_i64 (by omega) (by omega)]; omega
    rw [← hi]
    refine ⟨j + 1, ?_⟩
    refine exists_and_fin (show j + 1 ≤ ds.length ∧ _ from ⟨hlt, by omega⟩) ?_
    obtain ⟨rfl, rfl⟩ := hb
    simp [h0, hil, hilI, hsi, hsi', ← hvv, ← hvv2, w0, w1, w2, w3, w4]
    try omega
end Go.Proofs
