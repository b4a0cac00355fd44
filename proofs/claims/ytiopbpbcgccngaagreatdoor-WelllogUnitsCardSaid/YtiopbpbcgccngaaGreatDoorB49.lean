/- Part B49 of a proof: see its last part, YtiopbpbcgccngaaGreatDoorB55.lean. -/
import Derived.Test.YtiopbpbcgccngaaGreatDoorB48
import Derived.Test.YtiopbpbcgccngaaGreatDoorB33
set_option linter.all false
namespace Go.Proofs
open Go.Eng
theorem Tryz.aPParts (s : List UInt8) (hl : s.length ≤ 1000000000) (mem : Mem) : ACallsTo Tryz.prog 92 [.str s] mem (match s.idxOf? 47 with | some i => .tuple [.str (s.take i), .str (s.drop (i + 1))] | none => .tuple [.str s, .str [49]]) mem := by
  have hG : fnOf Tryz.prog 92 = some Tryz.f92 := by kernel_rfl
  refine Tryz.run Tryz.str_ok (lv := fun _ => []) (K := 1) rfl (by split <;> rfl) ?_ mem
  have hi := indexByte_idxOf s 47
  cases hx : s.idxOf? 47 with
  | none =>
    rw [hx] at hi
    simp only at hi
    simp [callFn, hG, Tryz.f92, pureO, Tryz.strF, hi]
  | some i =>
    rw [hx] at hi
    simp only at hi
    have hil : i < s.length := by
      have := (List.idxOf?_eq_some_iff.1 hx).1
      exact this
    have h0 : ¬ (i : Int) < 0 := by omega
    have h1 : (i : Int) ≤ (s.length : Int) := by omega
    have h1' : i ≤ s.length := by omega
    have w1 : IntKind.i64.wrap ((i : Int) + 1) = ((i + 1 : Nat) : Int) := by rw [wrap_i64 (by omega) (by omega)]; omega
    obtain ⟨j, hj⟩ : ∃ j, j = i + 1 := ⟨_, rfl⟩
    show _ = some (CallRes.mk (.tuple [.str (s.take i), .str (s.drop (i + 1))]) none [])
    rw [← hj] at w1 ⊢
    have h2 : (j : Int) ≤ (s.length : Int) := by omega
    have h2' : j ≤ s.length := by omega
    have htk : (s.drop j).take (s.length - j) = s.drop j := List.take_of_length_le (by simp)
    simp [callFn, hG, Tryz.f92, pureO, Tryz.strF, hi, h0, h1, h1', w1, h2, h2', htk, Nat.testBit]
theorem Tryz.aPPartsR (q : Rat) (hl : (ratS q).length ≤ 1000000000) (mem : Mem) : ACallsTo Tryz.prog 92 [.str (ratS q)] mem (.tuple [.str (intS q.num), .str (natD q.den)]) mem := by
  have h := Tryz.aPParts (ratS q) hl mem
  by_cases hd : q.den = 1
  · have e : ratS q = intS q.num := by unfold ratS; rw [if_pos hd]
    have hi : (ratS q).idxOf? 47 = none := by rw [e]; exact idxOf_none (intS_no_slash _)
    rw [hi] at h
    have : natD q.den = [49] := by rw [hd]; rfl
    rw [this]
    rw [← e]
    exact h
  · have e : ratS q = intS q.num ++ 47 :: natD q.den := by unfold ratS; rw [if_neg hd]
    have hi : (ratS q).idxOf? 47 = some (intS q.num).length := by rw [e]; exact idxOf_at (intS_no_slash _)
    rw [hi] at h
    have h1 : List.drop ((intS q.num).length + 1) (ratS q) = natD q.den := by rw [e, List.drop_append]; simp
    have h2 : List.take (intS q.num).length (ratS q) = intS q.num := by rw [e]; exact List.take_left' rfl
    simp only [h1, h2] at h
    exact h
end Go.Proofs
namespace Go.Proofs
open Go.Eng
theorem Tryz.psmall_loop {O : Oracle} {K : Nat} (n m : Int) (hK : m.natAbs < K) {b : Code} (hb : loopsF Tryz.f225 = [b]) :
    ∃ F : Env → Bool → Env, ∀ env0 d, (Go.Eng.look env0 9 = .int .i64 n ∧ Go.Eng.look env0 10 = .int .i64 m) →
      execC (tyOf Tryz.prog) (fun _ => [9, 10]) O K 55 0 true (.loop b) ⟨env0, [], d⟩ = some (.exit 0, ⟨F env0 d, [], d⟩) ∧ (Go.Eng.look (F env0 d) 9 = .int .i64 (euc K n m) ∧ Go.Eng.look (F env0 d) 5 = Go.Eng.look env0 5 ∧ Go.Eng.look (F env0 d) 7 = Go.Eng.look env0 7 ∧ Go.Eng.look (F env0 d) 4 = Go.Eng.look env0 4) := by
  refine loop_rule rfl (fun env0 => Go.Eng.look env0 9 = .int .i64 n ∧ Go.Eng.look env0 10 = .int .i64 m) (fun env0 env' => Go.Eng.look env' 9 = .int .i64 (euc K n m) ∧ Go.Eng.look env' 5 = Go.Eng.look env0 5 ∧ Go.Eng.look env' 7 = Go.Eng.look env0 7 ∧ Go.Eng.look env' 4 = Go.Eng.look env0 4) ?_
  rintro env0 d ⟨h5, h6⟩
  have hn : normE [9, 10] (writesC b) env0 ((9, .int .i64 n) :: (10, .int .i64 m) :: env0) = normE [9, 10] (writesC b) env0 env0 := by simp [normE, h5, h6]
  rw [← hn]
  have key : ∀ (k : Nat) (x y : Int), y.natAbs < k → ∃ env', iter [9, 10] (writesC b) env0 0 (execC (tyOf Tryz.prog) (fun _ => [9, 10]) O K 55 0 true b) k ⟨normE [9, 10] (writesC b) env0 ((9, .int .i64 x) :: (10, .int .i64 y) :: env0), [], d⟩ =
      some (.exit 0, ⟨env', [], d⟩) ∧ Go.Eng.look env' 9 = .int .i64 (euc k x y) ∧ Go.Eng.look env' 5 = Go.Eng.look env0 5 ∧ Go.Eng.look env' 7 = Go.Eng.look env0 7 ∧ Go.Eng.look env' 4 = Go.Eng.look env0 4 := by
    clear hn
    simp [loopsF, loopsC, Tryz.f225] at hb
    intro k
    induction k with
    | zero => intro x y h; omega
    | succ k ih =>
      intro x y hk
      by_cases hy : y = 0
      · subst hb
        subst hy
        simp [iter, euc]
      · have hlt : (x.tmod y).natAbs < k := by
          rw [Int.natAbs_tmod]
          have := Nat.mod_lt x.natAbs (show 0 < y.natAbs by omega)
          omega
        obtain ⟨env', e1, e2, e4⟩ := ih y (x.tmod y) hlt
        subst hb
        refine ⟨env', ?_, by rw [e2, euc, if_neg hy], e4⟩
        rw [iter]
        simp [hy]
        simp at e1
        exact e1
  exact key K n m hK
theorem euc_nonneg : ∀ (k x y : Nat), 0 ≤ euc k (x : Int) (y : Int) := by
  intro k
  induction k with
  | zero => intro x y; unfold euc; omega
  | succ k ih =>
    intro x y
    unfold euc
    split
    · omega
    · rw [tmod_nat]; exact ih y (x % y)
theorem Tryz.aPSmall (n : Int) (m : Nat) (hm0 : m ≠ 0) (hl1 : (intS n).length ≤ 18) (hl2 : (natD m).length ≤ 18) (mem : Mem) : ACallsTo Tryz.prog 225 [.str (intS n), .str (natD m)] mem (.str (ratS (mkRat n m))) mem := by
  have hG : fnOf Tryz.prog 225 = some Tryz.f225 := by kernel_rfl
  have hn := intS_small hl1
  have hm : m < 10 ^ 18 := by
    have h1 := natD_lt_pow m
    have h2 : 10 ^ (natD m).length ≤ 10 ^ 18 := Nat.pow_le_pow_right (by omega) hl2
    omega
  refine Tryz.run Tryz.str_ok (lv := fun _ => [9, 10]) (K := m + 1) rfl rfl ?_ mem
  obtain ⟨b, hb⟩ : ∃ b, loopsF Tryz.f225 = [b] := ⟨_, rfl⟩
  obtain ⟨N, hN⟩ : ∃ N : Nat, N = n.natAbs := ⟨_, rfl⟩
  rw [← hN] at hn
  obtain ⟨F, hF⟩ := Tryz.psmall_loop (O := pureO Tryz.strF) (K := m + 1) (N : Int) (m : Int) (by simp) hb
  simp [loopsF, loopsC, Tryz.f225] at hb
  subst hb
  rw [ratS_mkRat n hm0, ← hN]
  have hg := euc_natAbs (m + 1) (N : Int) (m : Int) (by simp)
  have hg0 := euc_nonneg (m + 1) N m
  generalize euc (m + 1) (N : Int) (m : Int) = gz at hF hg hg0
  rw [Int.natAbs_natCast, Int.natAbs_natCast] at hg
  obtain ⟨g, rfl⟩ : ∃ g : Nat, gz = g := ⟨gz.toNat, by omega⟩
  rw [Int.natAbs_natCast] at hg
  rw [← hg]
  have hgp : 0 < g := by rw [hg]; exact Nat.gcd_pos_of_pos_right _ (by omega)
  have hgn : g ∣ N := by rw [hg]; exact Nat.gcd_dvd_left _ _
  have te := tdiv_exact (a := n) hgp (.inr (by rw [← hN]; exact Nat.mod_eq_zero_of_dvd hgn))
  have hq1 : (n / (g : Int)).natAbs ≤ n.natAbs := Int.natAbs_ediv_le_natAbs _ _
  obtain ⟨Z, hZ⟩ : ∃ Z, Z = n / (g : Int) := ⟨_, rfl⟩
  rw [← hZ] at hq1 te ⊢
  obtain ⟨D, hD⟩ : ∃ D, D = m / g := ⟨_, rfl⟩
  have hDm : D ≤ m := by rw [hD]; exact Nat.div_le_self _ _
  rw [← hD]
  have w1 : IntKind.i64.wrap (n.tdiv (g : Int)) = Z := by rw [te.1]; exact wrap_i64 (by omega) (by omega)
  have w1' : IntKind.i64.wrap Z = Z := wrap_i64 (by omega) (by omega)
  have w2 : IntKind.i64.wrap ((m : Int).tdiv (g : Int)) = (D : Int) := by rw [tdiv_nat, ← hD]; exact wrap_i64 (by omega) (by omega)
  have w2' : IntKind.i64.wrap ((m : Int) / (g : Int)) = (D : Int) := by rw [← Int.natCast_ediv, ← hD]; exact wrap_i64 (by omega) (by omega)
  have hf1 : fitsI Z = true := by unfold fitsI; simp; omega
  have hf2 : fitsI (D : Int) = true := by unfold fitsI; simp; omega
  have hDs : intS (D : Int) = natD D := rfl
  have hg0' : ¬ g = 0 := by omega
  have lZ : (intS Z).length + 1 ≤ maxInt ∧ (intS Z).length + 1 + (natD D).length ≤ maxInt := by
    have h1 := intS_length Z
    have h2 := natD_length_le (u := Z.natAbs) (k := 20) (by omega) (by omega)
    have h3 := natD_length_le (u := D) (k := 20) (by omega) (by omega)
    unfold maxInt; omega
  obtain ⟨l1, l2⟩ := lZ
  have ha2 : Lib.atoi (natD m) = some (m : Int) := atoi_intS (m : Int)
  have hmn : ¬ (m : Int) < 0 := by omega
  have w0 : IntKind.i64.wrap (-n) = -n := wrap_i64 (by omega) (by omega)
  have hneg : n < 0 → -n = (N : Int) := by omega
  have hpos : ¬ n < 0 → n = (N : Int) := by omega
  by_cases h0 : n < 0
  · have w0' : IntKind.i64.wrap (-n) = (N : Int) := by rw [w0]; exact hneg h0
    by_cases hD1 : D = 1
    · have hD1I : (D : Int) = 1 := by omega
      rw [if_pos hD1]
      simp [callFn, hG, Tryz.f225, pureO, Tryz.strF, hl1, hl2, atoi_intS, ha2, hmn, h0, w0', hF, hg0', te, w1', w1, w2, w2', hD1I, hf1, Nat.testBit]
    · have hD1I : ¬ (D : Int) = 1 := by omega
      rw [if_neg hD1]
      simp [callFn, hG, Tryz.f225, pureO, Tryz.strF, hl1, hl2, atoi_intS, ha2, hmn, h0, w0', hF, hg0', te, w1', w1, w2, w2', hD1I, hD1, hf1, hf2, hDs, l1, l2, Nat.testBit]
  · have e := hpos h0
    rw [← e] at hF
    by_cases hD1 : D = 1
    · have hD1I : (D : Int) = 1 := by omega
      rw [if_pos hD1]
      simp [callFn, hG, Tryz.f225, pureO, Tryz.strF, hl1, hl2, atoi_intS, ha2, hmn, h0,  hF, hg0', te, w1', w1, w2, w2', hD1I, hf1, Nat.testBit]
    · have hD1I : ¬ (D : Int) = 1 := by omega
      rw [if_neg hD1]
      simp [callFn, hG, Tryz.f225, pureO, Tryz.strF, hl1, hl2, atoi_intS, ha2, hmn, h0,  hF, hg0', te, w1', w1, w2, w2', hD1I, hD1, hf1, hf2, hDs, l1, l2, Nat.testBit]
end Go.Proofs
namespace Go.Proofs
open Go.Eng
noncomputable def Tryz.rgF8 (f : FuncId) (args : List AV) : Option AV :=
  match f, args with
  | 96, [.str s, .str t] => match intP s, intP t with
    | some a, some b => if (natD a.natAbs).length ≤ 10000 ∧ (natD b.natAbs).length ≤ 10000 then some (.str (natD (a.natAbs.gcd b.natAbs))) else none
    | _, _ => none
  | 225, [.str s, .str t] => match intP s, natP t with
    | some n, some m => if m ≠ 0 ∧ (intS n).length ≤ 18 ∧ (natD m).length ≤ 18 then some (.str (ratS (mkRat n m))) else none
    | _, _ => none
  | 92, [.str s] => match ratP s with
    | some q => if s.length ≤ 1000000000 then some (.tuple [.str (intS q.num), .str (natD q.den)]) else none
    | none => none
  | f, args => Tryz.rgF7 f args
theorem Tryz.rg8_ok : OracleOk Tryz.prog (pureO Tryz.rgF8) := pureO_ok fun f args v h mem => by
  unfold Tryz.rgF8 at h
  split at h
  · split at h
    · rename_i m n hm hn
      split at h
      · rename_i hc; cases h; rw [intP_some hm, intP_some hn]; exact Tryz.aRGcd m n hc.1 hc.2 mem
      · cases h
    · cases h
  · split at h
    · rename_i m n hm hn
      split at h
      · rename_i hc; cases h; rw [intP_some hm, natP_some hn]; exact Tryz.aPSmall m n hc.1 hc.2.1 hc.2.2 mem
      · cases h
    · cases h
  · split at h
    · rename_i q hq
      split at h
      · rename_i hl; cases h; rw [ratP_some hq] at hl ⊢; exact Tryz.aPPartsR q hl mem
      · cases h
    · cases h
  · have := Tryz.rg7_ok.fn _ _ mem ⟨v, none, []⟩ (by unfold pureO; simp only; rw [h])
    simpa [CallRes.mem] using this
end Go.Proofs
namespace Go.Proofs
open Go.Eng
noncomputable def Tryz.rgFR (f : FuncId) (args : List AV) : Option AV :=
  match f, args with
  | 92, [.str s] => if s.length ≤ 1000000000 then some (match s.idxOf? 47 with | some i => .tuple [.str (s.take i), .str (s.drop (i + 1))] | none => .tuple [.str s, .str [49]]) else none
  | f, args => Tryz.rgF8 f args
theorem Tryz.rgR_ok : OracleOk Tryz.prog (pureO Tryz.rgFR) := pureO_ok fun f args v h mem => by
  unfold Tryz.rgFR at h
  split at h
  · split at h
    · rename_i hc; cases h; exact Tryz.aPParts _ hc mem
    · cases h
  · have := Tryz.rg8_ok.fn _ _ mem ⟨v, none, []⟩ (by unfold pureO; simp only; rw [h])
    simpa [CallRes.mem] using this
set_option maxHeartbeats 1600000 in
theorem Tryz.aPRight (s : List UInt8) (hl : s.length ≤ 1000000000) (mem : Mem) :
    ACallsTo Tryz.prog 51 [.str s] mem (.bool (chkR s == 0)) mem := by
  have hG : fnOf Tryz.prog 51 = some Tryz.f51 := by kernel_rfl
  refine Tryz.run Tryz.rgR_ok (lv := fun _ => []) (K := 1) rfl rfl ?_ mem
  have hi := indexByte_idxOf s 47
  cases hx : s.idxOf? 47 with
  | none =>
    rw [hx] at hi
    simp only at hi
    rw [chkR_none hx]
    have h49 : okI [49] = true := rfl
    cases ho : okI s with
    | true => simp [callFn, hG, Tryz.f51, pureO, Tryz.rgFR, Tryz.rgF8, Tryz.rgF7, Tryz.rgF6, Tryz.rgF5, Tryz.rgF4, Tryz.rgF3, Tryz.rgF2, Tryz.rgF1, Tryz.strF, hl, hi, hx, ho, h49]
    | false => simp [callFn, hG, Tryz.f51, pureO, Tryz.rgFR, Tryz.rgF8, Tryz.rgF7, Tryz.rgF6, Tryz.rgF5, Tryz.rgF4, Tryz.rgF3, Tryz.rgF2, Tryz.rgF1, Tryz.strF, hl, hx, ho]
  | some i =>
    rw [hx] at hi
    simp only at hi
    have hi0 : ¬ (i : Int) < 0 := by omega
    obtain ⟨a, ha⟩ : ∃ a, a = s.take i := ⟨_, rfl⟩
    obtain ⟨b, hb⟩ : ∃ b, b = s.drop (i + 1) := ⟨_, rfl⟩
    have la : a.length ≤ 1000000000 := by rw [ha, List.length_take]; omega
    have lb : b.length ≤ 1000000000 := by rw [hb, List.length_drop]; omega
    cases ho : okI a with
    | false =>
      rw [chkR_bad1 hx (by rw [← ha]; exact ho)]
      simp [callFn, hG, Tryz.f51, pureO, Tryz.rgFR, Tryz.rgF8, Tryz.rgF7, hl, hx, ← ha, ← hb, la, ho]
    | true =>
      cases ho2 : okI b with
      | false =>
        rw [chkR_bad2 hx (by rw [← hb]; exact ho2)]
        simp [callFn, hG, Tryz.f51, pureO, Tryz.rgFR, Tryz.rgF8, Tryz.rgF7, hl, hx, ← ha, ← hb, la, lb, ho, ho2]
      | true =>
        have hn : ∃ n, intP a = some n ∧ (natD n.natAbs).length ≤ 200 := by
          unfold okI at ho
          cases hx : intP a with
          | none => rw [hx] at ho; cases ho
          | some n => rw [hx] at ho; exact ⟨n, rfl, by simpa using ho⟩
        have hd : ∃ n, intP b = some n ∧ (natD n.natAbs).length ≤ 200 := by
          unfold okI at ho2
          cases hx : intP b with
          | none => rw [hx] at ho2; cases ho2
          | some n => rw [hx] at ho2; exact ⟨n, rfl, by simpa using ho2⟩
        obtain ⟨n, hn, n2⟩ := hn
        obtain ⟨d, hd, d2⟩ := hd
        rw [chkR_slash hx (by rw [← ha]; exact hn) (by rw [← hb]; exact hd) n2 d2]
        have h1 : intP [49] = some 1 := rfl
        have l1 : (natD 1).length ≤ 10000 := by decide
        have hcmp : 0 < sgnI (d - 1) ↔ 1 < d := by
          unfold sgnI
          split
          · constructor <;> intro h <;> omega
          · split <;> constructor <;> intro h <;> omega
        have ha0 : (a == [48]) = decide (n = 0) := by rw [intP_some hn, intS_beq_zero]
        have n3 : (natD n.natAbs).length ≤ 10000 := by omega
        have d3 : (natD d.natAbs).length ≤ 10000 := by omega
        by_cases c1 : 1 < d
        · have c1' : 0 < sgnI (d - 1) := hcmp.2 c1
          by_cases c2 : n = 0
          · have c3 : ¬ n.natAbs.gcd d.natAbs = 1 := by subst c2; simp; omega
            rw [if_neg (fun e => c3 e.2)]
            simp [callFn, hG, Tryz.f51, pureO, Tryz.rgFR, Tryz.rgF8, Tryz.rgF7, Tryz.rgF6, Tryz.rgF5, Tryz.rgF4, Tryz.rgF3, Tryz.rgF2, Tryz.rgF1, Tryz.strF, hl, hx, hi, hi0, ← ha, ← hb, la, lb, ho, ho2, hd, h1, l1, d3, c1', ha0, c2]
          · by_cases c3 : n.natAbs.gcd d.natAbs = 1
            · rw [if_pos ⟨c1, c3⟩]
              simp [callFn, hG, Tryz.f51, pureO, Tryz.rgFR, Tryz.rgF8, Tryz.rgF7, Tryz.rgF6, Tryz.rgF5, Tryz.rgF4, Tryz.rgF3, Tryz.rgF2, Tryz.rgF1, Tryz.strF, hl, hx, hi, hi0, ← ha, ← hb, la, lb, ho, ho2, hn, hd, h1, l1, n3, d3, c1', ha0, c2, natD_beq_one, c3]
            · rw [if_neg (fun e => c3 e.2)]
              simp [callFn, hG, Tryz.f51, pureO, Tryz.rgFR, Tryz.rgF8, Tryz.rgF7, Tryz.rgF6, Tryz.rgF5, Tryz.rgF4, Tryz.rgF3, Tryz.rgF2, Tryz.rgF1, Tryz.strF, hl, hx, hi, hi0, ← ha, ← hb, la, lb, ho, ho2, hn, hd, h1, l1, n3, d3, c1', ha0, c2, natD_beq_one, c3]
        · have c1' : ¬ 0 < sgnI (d - 1) := fun e => c1 (hcmp.1 e)
          rw [if_neg (fun e => c1 e.1)]
          simp [callFn, hG, Tryz.f51, pureO, Tryz.rgFR, Tryz.rgF8, Tryz.rgF7, Tryz.rgF6, Tryz.rgF5, Tryz.rgF4, Tryz.rgF3, Tryz.rgF2, Tryz.rgF1, Tryz.strF, hl, hx, hi, hi0, ← ha, ← hb, la, lb, ho, ho2, hd, h1, l1, d3, c1']
end Go.Proofs
