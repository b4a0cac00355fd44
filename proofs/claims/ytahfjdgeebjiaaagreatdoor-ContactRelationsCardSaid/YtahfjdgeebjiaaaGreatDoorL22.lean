/- Part L22 of a proof: see its last part, YtahfjdgeebjiaaaGreatDoorL55.lean. -/
import Derived.Test.YtahfjdgeebjiaaaGreatDoorL21
set_option linter.all false
namespace Go.Proofs
open Go.Eng
theorem Tryz.div_inner0 {K : Nat} (A B : List Nat) (n : Nat) (a q raw rr : List Nat) (b r t : Nat) (ht : b * t ≤ r) (hrr : rr.take (dig 1000000000 r).length = dig 1000000000 r) (hrl : (dig 1000000000 r).length ≤ rr.length)
    (hK : 0 < K) (hlb : (dig 1000000000 (b * t)).length ≤ 1000000000) {b1 c : Code} (hb : loopsF Tryz.f298 = [b1, c]) (hlv : Tryz.divLv c = [13, 12]) :
    ∃ F : Env → Bool → Env, ∀ env0 d, (Go.Eng.look env0 3 = .ptr 2 0 ∧ Go.Eng.look env0 5 = .slice 9 0 (dig 1000000000 r).length none ∧ Go.Eng.look env0 12 = .int .u64 t ∧ Go.Eng.look env0 13 = .slice 10 0 (dig 1000000000 (b * t)).length none) →
      execC (tyOf Tryz.prog) Tryz.divLv Tryz.bnO4 K 146 2 true (.loop c) ⟨env0, longMem A B n (dig 1000000000 b).length a (dig 1000000000 b) q raw rr [.cells true 1 (iN .u64 (dig 1000000000 (b * t)))], d⟩ =
        some (.exit 4, ⟨F env0 d, longMem A B n (dig 1000000000 b).length a (dig 1000000000 b) q raw rr [.cells true 1 (iN .u64 (dig 1000000000 (b * t)))], d⟩) ∧
      (Go.Eng.look (F env0 d) 13 = .slice 10 0 (dig 1000000000 (b * t)).length none ∧ Go.Eng.look (F env0 d) 12 = .int .u64 (t : Int) ∧ (∀ x ∈ [0, 3, 4, 5, 9, 10, 11], Go.Eng.look (F env0 d) x = Go.Eng.look env0 x)) := by
  refine loop_rule hlv (fun env0 => Go.Eng.look env0 3 = .ptr 2 0 ∧ Go.Eng.look env0 5 = .slice 9 0 (dig 1000000000 r).length none ∧ Go.Eng.look env0 12 = .int .u64 t ∧ Go.Eng.look env0 13 = .slice 10 0 (dig 1000000000 (b * t)).length none)
    (fun env0 env' => Go.Eng.look env' 13 = .slice 10 0 (dig 1000000000 (b * t)).length none ∧ Go.Eng.look env' 12 = .int .u64 (t : Int) ∧ (∀ x ∈ [0, 3, 4, 5, 9, 10, 11], Go.Eng.look env' x = Go.Eng.look env0 x)) ?_
  clear hlv
  rintro env0 dd ⟨h3, h5, h12, h13⟩
  simp [loopsF, loopsC, Tryz.f298] at hb
  obtain ⟨_, hb⟩ := hb
  obtain ⟨K, rfl⟩ : ∃ K', K = K' + 1 := ⟨K - 1, by omega⟩
  have hrs : ∀ l, sliceN .u64 (longMem A B n (dig 1000000000 b).length a (dig 1000000000 b) q raw rr l) (.slice 9 0 (dig 1000000000 r).length none) = some (dig 1000000000 r) := fun l => sliceN_at rfl (by simpa using hrl) (by rw [iN_take, hrr])
  have hps : ∀ l, sliceN .u64 (longMem A B n (dig 1000000000 b).length a (dig 1000000000 b) q raw rr (.cells true 1 (iN .u64 (dig 1000000000 (b * t))) :: l)) (.slice 10 0 (dig 1000000000 (b * t)).length none) = some (dig 1000000000 (b * t)) := fun l => sliceN_at rfl (by simp) (List.take_of_length_le (by simp))
  have lo : ∀ v, lok 1000000000 (dig 1000000000 v) = true := fun v => lok_dig (by omega) v
  have lt : ∀ v, ltrim (dig 1000000000 v) = dig 1000000000 v := fun v => ltrim_dig (by omega) v
  have lv : ∀ v, lval 1000000000 (dig 1000000000 v) = v := fun v => lval_dig (by omega) v
  have hc : ¬ 0 < cmpN (b * t) r := by
    unfold cmpN; split
    · omega
    · rw [if_neg (by omega)]; omega
  simp only [longMem] at hrs hps
  subst hb
  simp [iter, Tryz.bnO4, Tryz.bnO3, Tryz.bnO2, Tryz.bnO1, longMem, h3, h5, h12, h13, hrs, hps, lo, lt, lv, hlb, hc]
def remRow (b : Nat) : List Nat → List Nat
  | [] => []
  | x :: l => if x + 1000000000 * (divL 1000000000 b l).2 < b then x :: dig 1000000000 (divL 1000000000 b l).2 else dig 1000000000 ((x + 1000000000 * (divL 1000000000 b l).2) % b)
theorem remRow_take {b : Nat} : ∀ {l : List Nat}, lok 1000000000 l = true → (remRow b l).take (dig 1000000000 (divL 1000000000 b l).2).length = dig 1000000000 (divL 1000000000 b l).2 ∧ (dig 1000000000 (divL 1000000000 b l).2).length ≤ (remRow b l).length
  | [], _ => by simp [remRow, divL, dig_zero]
  | x :: l, h => by
    rw [lok_cons, Bool.and_eq_true, decide_eq_true_eq] at h
    have e : (divL 1000000000 b (x :: l)).2 = (x + 1000000000 * (divL 1000000000 b l).2) % b := by simp only [divL]; rw [Nat.mul_comm, Nat.add_comm]
    rw [e, remRow]
    split
    · rename_i hlt
      rw [Nat.mod_eq_of_lt hlt, ← cons_dig (by omega) h.1]
      exact ⟨ltrim_take _, ltrim_length_le _⟩
    · exact ⟨List.take_of_length_le (Nat.le_refl _), Nat.le_refl _⟩
def headMem (A B : List Nat) (a : List Nat) (b k : Nat) : Mem :=
  [.cells false 1 (iN .u64 A), .cells false 1 (iN .u64 B), .cells true 0 [.slice 5 0 (dig 1000000000 b).length none], .cells true 0 [.slice 6 0 a.length none], .cells true 1 (iN .u64 a), .cells true 1 (iN .u64 (dig 1000000000 b)), .cells true 1 (iN .u64 (List.replicate k 0 ++ (divL 1000000000 b (a.drop k)).1))]
    ++ if k = a.length then [] else [.cells true 1 (iN .u64 (remRow b (a.drop k)))]
def headR (a : List Nat) (b k : Nat) : AV := if k = a.length then .nilslice else .slice 7 0 (dig 1000000000 (divL 1000000000 b (a.drop k)).2).length none
set_option maxHeartbeats 4000000 in
theorem Tryz.div_outer {K : Nat} (A B a : List Nat) (b top : Nat) (ha : lok 1000000000 a = true) (hl : a.length ≤ 10000000) (hm : 2 ≤ (dig 1000000000 b).length) (hn : (dig 1000000000 b).length ≤ a.length) (htop : (dig 1000000000 b)[(dig 1000000000 b).length - 1]? = some top) (hK : 2000000000 < K)
    {b1 c : Code} (hb : loopsF Tryz.f298 = [b1, c] ∧ Tryz.divLv b1 = [11, 5] ∧ Tryz.divLv c = [13, 12]) :
    ∃ F : Env → Bool → Env, ∀ env0 d, (Go.Eng.look env0 0 = .slice 4 0 a.length none ∧ Go.Eng.look env0 3 = .ptr 2 0 ∧ Go.Eng.look env0 4 = .ptr 3 0 ∧ Go.Eng.look env0 10 = .int .u64 top ∧ Go.Eng.look env0 5 = .nilslice ∧ Go.Eng.look env0 11 = .int .i64 ((a.length : Int) - 1)) →
      execC (tyOf Tryz.prog) Tryz.divLv Tryz.bnO4 K 146 2 true (.loop b1) ⟨env0, headMem A B a b a.length, d⟩ = some (.exit 2, ⟨F env0 d, headMem A B a b 0, d⟩) ∧
      (Go.Eng.look (F env0 d) 5 = headR a b 0 ∧ (∀ x ∈ [3, 4, 9], Go.Eng.look (F env0 d) x = Go.Eng.look env0 x)) := by
  refine loop_rule hb.2.1 (fun env0 => Go.Eng.look env0 0 = .slice 4 0 a.length none ∧ Go.Eng.look env0 3 = .ptr 2 0 ∧ Go.Eng.look env0 4 = .ptr 3 0 ∧ Go.Eng.look env0 10 = .int .u64 top ∧ Go.Eng.look env0 5 = .nilslice ∧ Go.Eng.look env0 11 = .int .i64 ((a.length : Int) - 1))
    (fun env0 env' => Go.Eng.look env' 5 = headR a b 0 ∧ (∀ x ∈ [3, 4, 9], Go.Eng.look env' x = Go.Eng.look env0 x)) ?_
  rintro env0 dd ⟨h0, h3, h4, h10, h5, h11⟩
  have hb1 := hb.1
  simp [loopsF, loopsC, Tryz.f298] at hb1
  obtain ⟨hb1, hb2⟩ := hb1
  have hn0 : normE [11, 5] (writesC b1) env0 ((11, .int .i64 ((a.length : Int) - 1)) :: (5, headR a b a.length) :: env0) = normE [11, 5] (writesC b1) env0 env0 := by simp [normE, h5, h11, headR]
  rw [← hn0]
  have hlen0 : (headMem A B a b a.length).length = 7 := by simp [headMem]
  rw [hlen0]
  refine iter_ind (α := Nat) (fun k => ⟨normE [11, 5] (writesC b1) env0 ((11, .int .i64 ((k : Int) - 1)) :: (5, headR a b k) :: env0), headMem A B a b k, dd⟩) id (fun k => k ≤ a.length) (.exit 2) _ dd _ (by simp) ?_ K a.length (Nat.le_refl _) (by simp; omega)
  intro k hk
  clear hn0 hlen0
  have hbv : 1000000000 ≤ b := by
    have h := pow_le_dig (B := 1000000000) (by omega) b (by rintro rfl; rw [dig_zero] at hm; simp at hm)
    have : 1000000000 ^ 1 ≤ 1000000000 ^ ((dig 1000000000 b).length - 1) := Nat.pow_le_pow_right (by omega) (by omega)
    omega
  cases k with
  | zero =>
    right
    subst hb1
    simp
  | succ i =>
    left
    have hlt : i < a.length := by omega
    obtain ⟨x, hx, hx'⟩ := get_both hlt
    have hxb := lok_get ha hx
    have eA : a.drop i = x :: a.drop (i + 1) := by rw [List.drop_eq_getElem_cons hlt, hx']
    have hne : ¬ i = a.length := by omega
    obtain ⟨d1, d2, d3, d4⟩ := divL_spec' (B := 1000000000) (d := b) (by omega) (a.drop (i + 1)) (lok_drop ha _)
    obtain ⟨r, hr⟩ : ∃ r, r = (divL 1000000000 b (a.drop (i + 1))).2 := ⟨_, rfl⟩
    obtain ⟨q, hq⟩ : ∃ q, q = (divL 1000000000 b (a.drop (i + 1))).1 := ⟨_, rfl⟩
    obtain ⟨raw, hraw⟩ : ∃ raw, raw = remRow b (a.drop (i + 1)) := ⟨_, rfl⟩
    obtain ⟨t1, t2⟩ := remRow_take (b := b) (lok_drop ha (i + 1))
    obtain ⟨r', hr'⟩ : ∃ r', r' = x + 1000000000 * r := ⟨_, rfl⟩
    have hq2 : (divL 1000000000 b (a.drop i)).1 = r' / b :: q := by rw [eA, hq, hr', hr]; simp only [divL]; rw [Nat.mul_comm, Nat.add_comm]
    have hr2 : (divL 1000000000 b (a.drop i)).2 = r' % b := by rw [eA, hr', hr]; simp only [divL]; rw [Nat.mul_comm, Nat.add_comm]
    have hrow2 : remRow b (a.drop i) = if r' < b then x :: dig 1000000000 r else dig 1000000000 (r' % b) := by rw [eA, remRow, ← hr, ← hr']
    have hqz : (List.replicate (i + 1) 0 ++ q : List Nat) = List.replicate i 0 ++ 0 :: q := by rw [List.replicate_succ']; simp
    rw [← hr] at t1 t2 d1
    rw [← hraw] at t1 t2
    rw [← hq] at d4
    have htk : (iN .u64 raw).take (dig 1000000000 r).length = iN .u64 (dig 1000000000 r) := by rw [iN_take, t1]
    have hct : ltrim (x :: dig 1000000000 r) = dig 1000000000 r' := by rw [hr']; exact cons_dig (by omega) hxb
    have hrl : (dig 1000000000 r).length ≤ a.length := by
      have : (dig 1000000000 r).length ≤ (dig 1000000000 b).length := by
        rcases Nat.lt_or_ge (dig 1000000000 b).length (dig 1000000000 r).length with h | h
        · have := dig_length_lt (B := 1000000000) (by omega) h; omega
        · exact h
      omega
    have w1 : IntKind.i64.wrap ((i : Int) - 1) = (i : Int) - 1 := wrap_i64 (by omega) (by omega)
    have hI : (i : Int) < (a.length : Int) := by omega
    have e1 : (((i + 1 : Nat) : Int) - 1) = (i : Int) := by omega
    have hR0 : headR a b i = .slice 7 0 (dig 1000000000 (r' % b)).length none := by unfold headR; rw [if_neg hne, hr2]
    have hM0 : headMem A B a b i = [.cells false 1 (iN .u64 A), .cells false 1 (iN .u64 B), .cells true 0 [.slice 5 0 (dig 1000000000 b).length none], .cells true 0 [.slice 6 0 a.length none], .cells true 1 (iN .u64 a), .cells true 1 (iN .u64 (dig 1000000000 b)), .cells true 1 (iN .u64 (List.replicate i 0 ++ r' / b :: q)),
        .cells true 1 (iN .u64 (if r' < b then x :: dig 1000000000 r else dig 1000000000 (r' % b)))] := by unfold headMem; rw [if_neg hne, hq2, hrow2]; rfl
    have lo : ∀ v, lok 1000000000 (dig 1000000000 v) = true := fun v => lok_dig (by omega) v
    have lt : ∀ v, ltrim (dig 1000000000 v) = dig 1000000000 v := fun v => ltrim_dig (by omega) v
    have lv : ∀ v, lval 1000000000 (dig 1000000000 v) = v := fun v => lval_dig (by omega) v
    have hrl2 : (dig 1000000000 r).length + 1 ≤ 1000000000 := by omega
    have hxl : lok 1000000000 (x :: dig 1000000000 r) = true := by rw [lok_cons, lo]; simp [hxb]
    have hrl' : (dig 1000000000 r').length ≤ (dig 1000000000 r).length + 1 := by
      rw [← hct]; exact ltrim_length_le (x :: dig 1000000000 r)
    have hrl3 : (dig 1000000000 r').length ≤ 1000000000 := by omega
    refine ⟨i, ?_⟩
    rw [e1]
    refine exists_and_fin (r := _ ∧ _) (show i ≤ a.length ∧ id i < id (i + 1) from ⟨by omega, by simp⟩) ?_
    by_cases hfirst : i + 1 = a.length
    · have hd0 : a.drop (i + 1) = [] := by rw [hfirst, List.drop_length]
      have hr0 : r = 0 := by rw [hr, hd0]; rfl
      have hq0 : q = [] := by rw [hq, hd0]; rfl
      have hr'x : r' = x := by omega
      have hlt' : r' < b := by omega
      have hR1 : headR a b (i + 1) = .nilslice := by unfold headR; rw [if_pos hfirst]
      have hM1 : headMem A B a b (i + 1) = [.cells false 1 (iN .u64 A), .cells false 1 (iN .u64 B), .cells true 0 [.slice 5 0 (dig 1000000000 b).length none], .cells true 0 [.slice 6 0 a.length none], .cells true 1 (iN .u64 a), .cells true 1 (iN .u64 (dig 1000000000 b)), .cells true 1 (iN .u64 (List.replicate i 0 ++ 0 :: q))] := by
        unfold headMem; rw [if_pos hfirst, ← hq, hqz]; simp
      rw [hM1, hM0, hR1, hR0, if_pos hlt', Nat.mod_eq_of_lt hlt', Nat.div_eq_of_lt hlt']
      have hc : cmpN r' b < 0 := by unfold cmpN; rw [if_pos hlt']; omega
      rw [hr0, dig_zero] at hct
      rw [hr0, dig_zero]
      have hs8 : ∀ a0 a1 a2 a3 a4 a5 a6 a7 l, sliceN .u64 (a0 :: a1 :: a2 :: a3 :: a4 :: a5 :: a6 :: a7 :: .cells true 1 [.int .u64 (x : Int)] :: l) (.slice 8 0 1 none) = some [x] := fun a0 a1 a2 a3 a4 a5 a6 a7 l => sliceN_at (A := [x]) rfl (by simp) rfl
      have hs8' : ∀ a0 a1 a2 a3 a4 a5 a6 a7 l, sliceN .u64 (a0 :: a1 :: a2 :: a3 :: a4 :: a5 :: a6 :: a7 :: .cells true 1 [.int .u64 (x : Int)] :: l) (.slice 8 0 (dig 1000000000 r').length none) = some (dig 1000000000 r') := fun a0 a1 a2 a3 a4 a5 a6 a7 l => by
        have h1 := ltrim_length_le [x]
        rw [hct] at h1
        refine sliceN_at rfl (by simpa using h1) ?_
        have : ([.int .u64 (x : Int)] : List AV) = iN .u64 [x] := rfl
        rw [this, iN_take, ← hct, ltrim_take]
      have hs5 : ∀ a0 a1 a2 a3 a4 l, sliceN .u64 (a0 :: a1 :: a2 :: a3 :: a4 :: .cells true 1 (iN .u64 (dig 1000000000 b)) :: l) (.slice 5 0 (dig 1000000000 b).length none) = some (dig 1000000000 b) := fun a0 a1 a2 a3 a4 l => sliceN_at rfl (by simp) (List.take_of_length_le (by simp))
      subst hb1
      simp [Tryz.bnO4, Tryz.bnO3, Tryz.bnO2, Tryz.bnO1, h0, h3, h4, h10, hx', hI, hlt, hs8, hs8', hs5, hct, lo, lt, lv, hc, w1, hrl3, iN_cons]
    · have hR1 : headR a b (i + 1) = .slice 7 0 (dig 1000000000 r).length none := by unfold headR; rw [if_neg hfirst, ← hr]
      have hM1 : headMem A B a b (i + 1) = [.cells false 1 (iN .u64 A), .cells false 1 (iN .u64 B), .cells true 0 [.slice 5 0 (dig 1000000000 b).length none], .cells true 0 [.slice 6 0 a.length none], .cells true 1 (iN .u64 a), .cells true 1 (iN .u64 (dig 1000000000 b)), .cells true 1 (iN .u64 (List.replicate i 0 ++ 0 :: q)), .cells true 1 (iN .u64 raw)] := by
        unfold headMem; rw [if_neg hfirst, ← hq, ← hraw, hqz]; rfl
      have hs9 : ∀ a0 a1 a2 a3 a4 a5 a6 a7 a8 l, sliceN .u64 (a0 :: a1 :: a2 :: a3 :: a4 :: a5 :: a6 :: a7 :: a8 :: .cells true 1 (.int .u64 (x : Int) :: iN .u64 (dig 1000000000 r)) :: l) (.slice 9 0 (1 + (dig 1000000000 r).length) none) = some (x :: dig 1000000000 r) := fun a0 a1 a2 a3 a4 a5 a6 a7 a8 l =>
        sliceN_at (A := x :: dig 1000000000 r) rfl (by simp; omega) (List.take_of_length_le (by simp; omega))
      have hs9' : ∀ a0 a1 a2 a3 a4 a5 a6 a7 a8 l, sliceN .u64 (a0 :: a1 :: a2 :: a3 :: a4 :: a5 :: a6 :: a7 :: a8 :: .cells true 1 (.int .u64 (x : Int) :: iN .u64 (dig 1000000000 r)) :: l) (.slice 9 0 (dig 1000000000 r').length none) = some (dig 1000000000 r') := fun a0 a1 a2 a3 a4 a5 a6 a7 a8 l => by
        refine sliceN_at rfl (by simpa using hrl') ?_
        rw [← iN_cons, iN_take, ← hct, ltrim_take]
      have hs5 : ∀ a0 a1 a2 a3 a4 l, sliceN .u64 (a0 :: a1 :: a2 :: a3 :: a4 :: .cells true 1 (iN .u64 (dig 1000000000 b)) :: l) (.slice 5 0 (dig 1000000000 b).length none) = some (dig 1000000000 b) := fun a0 a1 a2 a3 a4 l => sliceN_at rfl (by simp) (List.take_of_length_le (by simp))
      have g1 : (1 + (dig 1000000000 r).length) * 8 ≤ 140737488355328 := by omega
      have g2 : 1 + (dig 1000000000 r).length ≤ 140737488355328 := by omega
      rw [hM1, hM0, hR1, hR0]
      by_cases hlt' : r' < b
      · have hc : cmpN r' b < 0 := by unfold cmpN; rw [if_pos hlt']; omega
        rw [if_pos hlt', Nat.mod_eq_of_lt hlt', Nat.div_eq_of_lt hlt']
        subst hb1
        simp [Tryz.bnO4, Tryz.bnO3, Tryz.bnO2, Tryz.bnO1, h0, h3, h4, h10, hx', hI, hlt, hs9, hs9', hs5, hct, lo, lt, lv, hc, w1, hrl2, hrl3, t2, htk, g1, g2, iN_cons]
      · rw [if_neg hlt']
        have hc : ¬ cmpN r' b < 0 := by unfold cmpN; rw [if_neg hlt']; split <;> omega
        have hrb : r' < 1000000000 * b := by omega
        have hL := dig_length_bounds (B := 1000000000) (by omega) rfl hrb (by omega)
        obtain ⟨m, hmm⟩ : ∃ m, m = (dig 1000000000 b).length := ⟨_, rfl⟩
        obtain ⟨L, hLL⟩ : ∃ L, L = (dig 1000000000 r').length := ⟨_, rfl⟩
        obtain ⟨p1, hp1⟩ : ∃ p1, p1 = L - 1 := ⟨_, rfl⟩
        have hp1L : p1 < (dig 1000000000 r').length := by omega
        have wp1 : IntKind.i64.wrap (((dig 1000000000 r').length : Int) - 1) = (p1 : Int) := by rw [wrap_i64 (by omega) (by omega)]; omega
        have hp1I : (p1 : Int) < ((dig 1000000000 r').length : Int) := by omega
        obtain ⟨D1, hD1, hD1'⟩ := get_both hp1L
        have hD1b := lok_get (lo r') hD1
        have hcell : ∀ (j v : Nat), (dig 1000000000 r')[j]? = some v → (AV.int IntKind.u64 (x : Int) :: iN .u64 (dig 1000000000 r))[j]? = some (AV.int IntKind.u64 (v : Int)) := fun j v hv => by
          rw [← hct, ltrim_prefix, List.getElem?_take] at hv
          split at hv
          · rw [← iN_cons, iN_get, hv]; rfl
          · cases hv
        have hc1 := hcell _ _ hD1
        obtain ⟨D, hDD, hDb⟩ : ∃ D, ((L = m ∧ D = D1) ∨ (L = m + 1 ∧ ∃ l, (dig 1000000000 r')[m - 1]? = some l ∧ D = D1 * 1000000000 + l)) ∧ D < 1000000000 * 1000000000 := by
          rcases hL with h | h
          · exact ⟨D1, .inl ⟨by omega, rfl⟩, by omega⟩
          · obtain ⟨l, hl1, _⟩ := get_both (l := dig 1000000000 r') (i := m - 1) (by omega)
            have := lok_get (lo r') hl1
            exact ⟨D1 * 1000000000 + l, .inr ⟨by omega, l, hl1, rfl⟩, by omega⟩
        obtain ⟨gt, g3, g4⟩ := guess_ok (B := 1000000000) (r := r') (b := b) (m := m) (D := D) (top := top) (by omega) hmm.symm (by omega) (by rw [hmm]; exact htop) hrb (by omega) (by
          rcases hDD with ⟨h1, rfl⟩ | ⟨h1, l, h2, rfl⟩
          · left; exact ⟨by omega, by rw [show m - 1 = p1 by omega]; exact hD1⟩
          · right; exact ⟨by omega, D1, l, by rw [show m = p1 by omega]; exact hD1, h2, rfl⟩)
        obtain ⟨g, hg⟩ : ∃ g, g = D / top := ⟨_, rfl⟩
        obtain ⟨d0, hd0⟩ : ∃ d0, d0 = min g 999999999 := ⟨_, rfl⟩
        obtain ⟨t, ht⟩ : ∃ t, t = r' / b := ⟨_, rfl⟩
        rw [← hg, ← ht] at g3
        rw [← ht] at g4
        have htd : t ≤ d0 := by omega
        have hd0B : d0 < 1000000000 := by omega
        have hbt : b * t ≤ r' := by rw [ht]; exact Nat.mul_div_le r' b
        have hb0 : 0 < b := by omega
        have hd0K : d0 < K := by omega
        have hK0 : 0 < K := by omega
        have hd0I : (d0 : Int) < 1000000000 := by omega
        have hsub : r' - b * t = r' % b := by
          have := Nat.mod_add_div r' b
          rw [← ht] at this; omega
        have mono : ∀ u v, u ≤ v → (dig 1000000000 u).length ≤ (dig 1000000000 v).length := fun u v h => by
          rcases Nat.lt_or_ge (dig 1000000000 v).length (dig 1000000000 u).length with h' | h'
          · have := dig_length_lt (B := 1000000000) (by omega) h'; omega
          · exact h'
        have hlb : ∀ d, d ≤ d0 → (dig 1000000000 (b * d)).length ≤ 100000000 := fun d hd => by
          have h1 : b * d < 1000000000 ^ (m + 1) := by
            have h2 := dig_lt_pow (B := 1000000000) (by omega) b
            rw [← hmm] at h2
            rw [Nat.pow_succ]
            exact Nat.mul_lt_mul_of_lt_of_lt h2 (by omega)
          have := dig_length_le_of_lt (B := 1000000000) (by omega) h1
          omega
        have hlbb : ∀ d, d ≤ d0 → 0 < d → (dig 1000000000 b).length ≤ (dig 1000000000 (b * d)).length := fun d _ hd => mono _ _ (Nat.le_mul_of_pos_right b hd)
        have hrowtk : (x :: dig 1000000000 r).take (dig 1000000000 r').length = dig 1000000000 r' := by rw [← hct, ltrim_take]
        have htopb := lok_get (lo b) htop
        have hgD : g ≤ D := by rw [hg]; exact Nat.div_le_self _ _
        have wg : IntKind.u64.wrap (g : Int) = (g : Int) := wrap_u64 (by omega) (by omega)
        have wD : IntKind.u64.wrap ((D : Int) / (top : Int)) = (g : Int) := by rw [← Int.natCast_ediv, ← hg]; exact wg
        have wD' : IntKind.u64.wrap ((D : Int).tdiv (top : Int)) = (g : Int) := by rw [tdiv_nat, ← hg]; exact wg
        have htop0 : ¬ top = 0 := by omega
        have hmin : (if (999999999 : Int) < (g : Int) then (999999999 : Int) else (g : Int)) = (d0 : Int) := by split <;> omega
        have hlen1 : (dig 1000000000 r').length ≤ 100000000 := by omega
        have hlen2 : (dig 1000000000 (b * t)).length ≤ (dig 1000000000 r').length := mono _ _ hbt
        have hlen3 : (dig 1000000000 b).length ≤ 100000000 := by omega
        have hlenb := hlb d0 (Nat.le_refl _)
        have htk2 : (List.replicate i 0 ++ 0 :: q).take i = List.replicate i 0 := List.take_left' (by simp)
        have hdr2 : (List.replicate i 0 ++ 0 :: q).drop (i + 1) = q := by rw [List.drop_append, List.drop_of_length_le (by simp)]; simp
        have hql : i < (List.replicate i 0 ++ 0 :: q).length := by simp
        have hs10 : ∀ (v : Nat) a0 a1 a2 a3 a4 a5 a6 a7 a8 a9 l, sliceN .u64 (a0 :: a1 :: a2 :: a3 :: a4 :: a5 :: a6 :: a7 :: a8 :: a9 :: .cells true 1 (iN .u64 (dig 1000000000 v)) :: l) (.slice 10 0 (dig 1000000000 v).length none) = some (dig 1000000000 v) := fun v a0 a1 a2 a3 a4 a5 a6 a7 a8 a9 l => sliceN_at rfl (by simp) (List.take_of_length_le (by simp))
        have hs11 : ∀ (v : Nat) a0 a1 a2 a3 a4 a5 a6 a7 a8 a9 a10 l, sliceN .u64 (a0 :: a1 :: a2 :: a3 :: a4 :: a5 :: a6 :: a7 :: a8 :: a9 :: a10 :: .cells true 1 (iN .u64 (dig 1000000000 v)) :: l) (.slice 11 0 (dig 1000000000 v).length none) = some (dig 1000000000 v) := fun v a0 a1 a2 a3 a4 a5 a6 a7 a8 a9 a10 l => sliceN_at rfl (by simp) (List.take_of_length_le (by simp))
        rw [← ht]
        rw [hmm] at hDD
        rw [hLL] at hDD
        subst hb1
        rcases Nat.lt_or_ge t d0 with htlt | htge
        · obtain ⟨F, hF⟩ := Tryz.div_inner (K := K) A B a.length a (List.replicate i 0 ++ 0 :: q) raw (x :: dig 1000000000 r) b r' d0 t ht hrowtk (by simpa using hrl') hb0 htlt hd0B hd0K hlb hlbb hb.1 hb.2.2
          simp only [longMem, iN_cons] at hF
          subst hb2
          rcases hDD with ⟨h1, rfl⟩ | ⟨h1, l, h2, h3'⟩
          · have hng : ¬ (dig 1000000000 b).length < (dig 1000000000 r').length := by omega
            clear h1
            simp [Tryz.bnO4, Tryz.bnO3, Tryz.bnO2, Tryz.bnO1, h0, h3, h4, h10, hx', hI, hlt, hs9, hs9', hs5, hct, lo, lt, lv, hc, w1, hrl2, hrl3, t2, htk, g1, g2, iN_cons, hng, hc1, wp1, hp1I, wD, wD', htop0, hmin, hlen1, hlen2, hlen3, hlenb, hd0I, hF, hs10, hs11, hbt, hsub, iN_take, iN_drop, htk2, hdr2, hql, Nat.testBit]
            rw [iN_append, iN_cons]
          · have hng : (dig 1000000000 b).length < (dig 1000000000 r').length := by omega
            obtain ⟨p2, hp2⟩ : ∃ p2, p2 = m - 1 := ⟨_, rfl⟩
            rw [← hmm, ← hp2] at h2
            have hc2 := hcell _ _ h2
            have hlb2 := lok_get (lo r') h2
            have wp2 : IntKind.i64.wrap (((dig 1000000000 r').length : Int) - 2) = (p2 : Int) := by rw [wrap_i64 (by omega) (by omega)]; omega
            have wl1 : IntKind.u64.wrap ((D1 : Int) * 1000000000) = (D1 : Int) * 1000000000 := wrap_u64 (by omega) (by omega)
            have wl2 : IntKind.u64.wrap ((D1 : Int) * 1000000000 + (l : Int)) = (D : Int) := by rw [wrap_u64 (by omega) (by omega)]; omega
            have hp2I : (p2 : Int) < ((dig 1000000000 r').length : Int) := by omega
            clear h1
            simp [Tryz.bnO4, Tryz.bnO3, Tryz.bnO2, Tryz.bnO1, h0, h3, h4, h10, hx', hI, hlt, hs9, hs9', hs5, hct, lo, lt, lv, hc, w1, hrl2, hrl3, t2, htk, g1, g2, iN_cons, hng, hc2, wp2, hp2I, wl1, wl2, hc1, wp1, hp1I, wD, wD', htop0, hmin, hlen1, hlen2, hlen3, hlenb, hd0I, hF, hs10, hs11, hbt, hsub, iN_take, iN_drop, htk2, hdr2, hql, Nat.testBit]
            rw [iN_append, iN_cons]
        · have htd0 : t = d0 := by omega
          rw [← htd0] at hlenb hd0I hmin
          obtain ⟨F, hF⟩ := Tryz.div_inner0 (K := K) A B a.length a (List.replicate i 0 ++ 0 :: q) raw (x :: dig 1000000000 r) b r' t hbt hrowtk (by simpa using hrl') hK0 (by omega) hb.1 hb.2.2
          simp only [longMem, iN_cons] at hF
          subst hb2
          rcases hDD with ⟨h1, rfl⟩ | ⟨h1, l, h2, h3'⟩
          · have hng : ¬ (dig 1000000000 b).length < (dig 1000000000 r').length := by omega
            clear h1
            simp [Tryz.bnO4, Tryz.bnO3, Tryz.bnO2, Tryz.bnO1, h0, h3, h4, h10, hx', hI, hlt, hs9, hs9', hs5, hct, lo, lt, lv, hc, w1, hrl2, hrl3, t2, htk, g1, g2, iN_cons, hng, hc1, wp1, hp1I, wD, wD', htop0, hmin, hlen1, hlen2, hlen3, hlenb, hd0I, hF, hs10, hs11, hbt, hsub, iN_take, iN_drop, htk2, hdr2, hql, Nat.testBit]
            rw [iN_append, iN_cons]
          · have hng : (dig 1000000000 b).length < (dig 1000000000 r').length := by omega
            obtain ⟨p2, hp2⟩ : ∃ p2, p2 = m - 1 := ⟨_, rfl⟩
            rw [← hmm, ← hp2] at h2
            have hc2 := hcell _ _ h2
            have hlb2 := lok_get (lo r') h2
            have wp2 : IntKind.i64.wrap (((dig 1000000000 r').length : Int) - 2) = (p2 : Int) := by rw [wrap_i64 (by omega) (by omega)]; omega
            have wl1 : IntKind.u64.wrap ((D1 : Int) * 1000000000) = (D1 : Int) * 1000000000 := wrap_u64 (by omega) (by omega)
            have wl2 : IntKind.u64.wrap ((D1 : Int) * 1000000000 + (l : Int)) = (D : Int) := by rw [wrap_u64 (by omega) (by omega)]; omega
            have hp2I : (p2 : Int) < ((dig 1000000000 r').length : Int) := by omega
            clear h1
            simp [Tryz.bnO4, Tryz.bnO3, Tryz.bnO2, Tryz.bnO1, h0, h3, h4, h10, hx', hI, hlt, hs9, hs9', hs5, hct, lo, lt, lv, hc, w1, hrl2, hrl3, t2, htk, g1, g2, iN_cons, hng, hc2, wp2, hp2I, wl1, wl2, hc1, wp1, hp1I, wD, wD', htop0, hmin, hlen1, hlen2, hlen3, hlenb, hd0I, hF, hs10, hs11, hbt, hsub, iN_take, iN_drop, htk2, hdr2, hql, Nat.testBit]
            rw [iN_append, iN_cons]
end Go.Proofs
namespace Go.Proofs
open Go.Eng
set_option maxHeartbeats 4000000 in
theorem Tryz.divN_end (A B : List Nat) (top0 : Nat) (hA : lok 1000000000 A = true) (hB : lok 1000000000 B = true) (hl : A.length ≤ 1000000) (tA : ltrim A = A) (tB : ltrim B = B) (hm : 2 ≤ B.length) (htop : B[B.length - 1]? = some top0) (hle : lval 1000000000 B ≤ lval 1000000000 A) :
    ∃ q, ltrim q = dig 1000000000 (lval 1000000000 A / lval 1000000000 B) ∧ callFn (tyOf Tryz.prog) Tryz.divLv (fnOf Tryz.prog) Tryz.bnO4 2000000001 298 [.slice 0 0 A.length none, .slice 1 0 B.length none] [.cells false 1 (iN .u64 A), .cells false 1 (iN .u64 B)] =
      some (if lval 1000000000 A % lval 1000000000 B = 0 then ⟨.tuple [.slice 2 0 (ltrim q).length none, .nilslice], none, [.cells true 1 (iN .u64 q)]⟩ else
        ⟨.tuple [.slice 2 0 (ltrim q).length none, .slice 3 0 (dig 1000000000 (lval 1000000000 A % lval 1000000000 B)).length none], none, [.cells true 1 (iN .u64 q), .cells true 1 (iN .u64 (dig 1000000000 (lval 1000000000 A % lval 1000000000 B)))]⟩) := by
  have hG : fnOf Tryz.prog 298 = some Tryz.f298 := by kernel_rfl
  obtain ⟨b1, c, hb⟩ : ∃ b1 c, loopsF Tryz.f298 = [b1, c] ∧ Tryz.divLv b1 = [11, 5] ∧ Tryz.divLv c = [13, 12] := ⟨_, _, rfl, by decide, by decide⟩
  have dA := dig_self (B := 1000000000) (by omega) hA tA
  have dB := dig_self (B := 1000000000) (by omega) hB tB
  obtain ⟨av, hav⟩ : ∃ av, av = lval 1000000000 A := ⟨_, rfl⟩
  obtain ⟨bv, hbv⟩ : ∃ bv, bv = lval 1000000000 B := ⟨_, rfl⟩
  rw [← hav] at dA hle ⊢
  rw [← hbv] at dB hle ⊢
  have htb := lok_get hB htop
  obtain ⟨f, hf⟩ : ∃ f, f = 1000000000 / (top0 + 1) := ⟨_, rfl⟩
  have hf1 : 1 ≤ f := by rw [hf, Nat.le_div_iff_mul_le (by omega)]; omega
  have hbig : 1000000000 ≤ bv := by
    have h := pow_le_dig (B := 1000000000) (by omega) bv (by rintro rfl; rw [dig_zero] at dB; rw [← dB] at hm; simp at hm)
    rw [dB] at h
    have : 1000000000 ^ 1 ≤ 1000000000 ^ (B.length - 1) := Nat.pow_le_pow_right (by omega) (by omega)
    omega
  have htp : 0 < top0 := by
    rcases Nat.eq_zero_or_pos top0 with h | h
    · have h2 : ltrim B = ltrim (B.take (B.length - 1)) := by
        have hlt : B.length - 1 < B.length := by omega
        have ht := (List.getElem?_eq_some_iff.1 htop).2
        conv => lhs; rw [← List.take_append_drop (B.length - 1) B, List.drop_eq_getElem_cons hlt, ht, List.drop_of_length_le (by omega), h]
        exact ltrim_snoc_zero _
      have h3 := ltrim_length_le (B.take (B.length - 1))
      rw [← h2, tB, List.length_take] at h3
      omega
    · exact h
  have hfB : f < 1000000000 := by rw [hf, Nat.div_lt_iff_lt_mul (by omega)]; omega
  have mono : ∀ u v, u ≤ v → (dig 1000000000 u).length ≤ (dig 1000000000 v).length := fun u v h => by
    rcases Nat.lt_or_ge (dig 1000000000 v).length (dig 1000000000 u).length with h' | h'
    · have := dig_length_lt (B := 1000000000) (by omega) h'; omega
    · exact h'
  have hmB : 2 ≤ (dig 1000000000 (bv * f)).length := by
    have := mono bv (bv * f) (Nat.le_mul_of_pos_right bv hf1)
    rw [dB] at this; omega
  have hmA : (dig 1000000000 (bv * f)).length ≤ (dig 1000000000 (av * f)).length := mono _ _ (Nat.mul_le_mul_right _ hle)
  have hlA : (dig 1000000000 (av * f)).length ≤ A.length + 1 := by
    have h1 : av * f < 1000000000 ^ (A.length + 1) := by
      have h2 := lval_lt hA
      rw [← hav] at h2
      rw [Nat.pow_succ]
      exact Nat.mul_lt_mul_of_lt_of_lt h2 hfB
    exact dig_length_le_of_lt (by omega) h1
  obtain ⟨top, htop2, _⟩ := get_both (l := dig 1000000000 (bv * f)) (i := (dig 1000000000 (bv * f)).length - 1) (by omega)
  obtain ⟨F, hF⟩ := Tryz.div_outer (K := 2000000001) A B (dig 1000000000 (av * f)) (bv * f) top (lok_dig (by omega) _) (by omega) hmB hmA htop2 (by omega) hb
  obtain ⟨a, ha⟩ : ∃ a, a = dig 1000000000 (av * f) := ⟨_, rfl⟩
  obtain ⟨bf, hbf⟩ : ∃ bf, bf = bv * f := ⟨_, rfl⟩
  rw [← ha, ← hbf] at hF hmA
  rw [← hbf] at htop2 hmB
  rw [← ha] at hlA
  have hbf0 : 0 < bf := by rw [hbf]; exact Nat.mul_pos (by omega) (by omega)
  obtain ⟨i1, i2, i3, i4⟩ := divL_spec' (B := 1000000000) hbf0 a (by rw [ha]; exact lok_dig (by omega) _)
  have hva : lval 1000000000 a = av * f := by rw [ha]; exact lval_dig (by omega) _
  rw [hva] at i2
  obtain ⟨q, hq⟩ : ∃ q, q = (divL 1000000000 bf a).1 := ⟨_, rfl⟩
  obtain ⟨rm, hrm⟩ : ∃ rm, rm = (divL 1000000000 bf a).2 := ⟨_, rfl⟩
  rw [← hq, ← hrm] at i2
  rw [← hq] at i3 i4
  rw [← hrm] at i1
  have hqv : lval 1000000000 q = av / bv := by
    have h1 : (av * f) / bf = lval 1000000000 q := by rw [← i2, Nat.mul_comm, Nat.mul_add_div hbf0, Nat.div_eq_of_lt i1, Nat.add_zero]
    rw [← h1, hbf, Nat.mul_div_mul_right _ _ (by omega)]
  have hrv : rm = (av % bv) * f := by
    have h1 : (av * f) % bf = rm := by rw [← i2, Nat.mul_comm, Nat.mul_add_mod, Nat.mod_eq_of_lt i1]
    rw [← h1, hbf, Nat.mul_mod_mul_right]
  have hrf : rm / f = av % bv := by rw [hrv, Nat.mul_div_cancel _ (by omega)]
  refine ⟨q, by rw [← dig_lval (by omega) i3, hqv], ?_⟩
  have hn0 : ¬ 0 = a.length := by omega
  obtain ⟨rt1, rt2⟩ := remRow_take (b := bf) (l := a) (by rw [ha]; exact lok_dig (by omega) _)
  obtain ⟨row, hrow⟩ : ∃ row, row = remRow bf a := ⟨_, rfl⟩
  rw [← hrow, ← hrm] at rt1 rt2
  have hH0 : headMem A B a bf 0 = [.cells false 1 (iN .u64 A), .cells false 1 (iN .u64 B), .cells true 0 [.slice 5 0 (dig 1000000000 bf).length none], .cells true 0 [.slice 6 0 a.length none], .cells true 1 (iN .u64 a), .cells true 1 (iN .u64 (dig 1000000000 bf)), .cells true 1 (iN .u64 q), .cells true 1 (iN .u64 row)] := by
    unfold headMem; rw [if_neg hn0, List.drop_zero, ← hq, ← hrow]; rfl
  have hHn : headMem A B a bf a.length = [.cells false 1 (iN .u64 A), .cells false 1 (iN .u64 B), .cells true 0 [.slice 5 0 (dig 1000000000 bf).length none], .cells true 0 [.slice 6 0 a.length none], .cells true 1 (iN .u64 a), .cells true 1 (iN .u64 (dig 1000000000 bf)), .cells true 1 (iN .u64 (List.replicate a.length 0))] := by
    unfold headMem; rw [if_pos rfl, List.drop_length]; simp [divL]
  have hR0 : headR a bf 0 = .slice 7 0 (dig 1000000000 rm).length none := by unfold headR; rw [if_neg hn0, List.drop_zero, ← hrm]
  rw [hH0, hHn, hR0] at hF
  obtain ⟨hb1, _⟩ := hb
  simp [loopsF, loopsC, Tryz.f298] at hb1
  obtain ⟨hb1, _⟩ := hb1
  subst hb1
  have lo : ∀ v, lok 1000000000 (dig 1000000000 v) = true := fun v => lok_dig (by omega) v
  have lt : ∀ v, ltrim (dig 1000000000 v) = dig 1000000000 v := fun v => ltrim_dig (by omega) v
  have lv : ∀ v, lval 1000000000 (dig 1000000000 v) = v := fun v => lval_dig (by omega) v
  have hs0 : ∀ l, sliceN .u64 (.cells false 1 (iN .u64 A) :: l) (.slice 0 0 A.length none) = some A := fun l => sliceN_at rfl (by simp) (List.take_of_length_le (by simp))
  have hs1 : ∀ x l, sliceN .u64 (x :: .cells false 1 (iN .u64 B) :: l) (.slice 1 0 B.length none) = some B := fun x l => sliceN_at rfl (by simp) (List.take_of_length_le (by simp))
  have hs6 : ∀ a0 a1 a2 a3 a4 a5 l, sliceN .u64 (a0 :: a1 :: a2 :: a3 :: a4 :: a5 :: .cells true 1 (iN .u64 q) :: l) (.slice 6 0 a.length none) = some q := fun a0 a1 a2 a3 a4 a5 l => sliceN_at rfl (by simp [i4]) (List.take_of_length_le (by simp [i4]))
  have hs7 : ∀ a0 a1 a2 a3 a4 a5 a6 l, sliceN .u64 (a0 :: a1 :: a2 :: a3 :: a4 :: a5 :: a6 :: .cells true 1 (iN .u64 row) :: l) (.slice 7 0 (dig 1000000000 rm).length none) = some (dig 1000000000 rm) := fun a0 a1 a2 a3 a4 a5 a6 l => sliceN_at rfl (by simpa using rt2) (by rw [iN_take, rt1])
  have hs8 : ∀ a0 a1 a2 a3 a4 a5 a6 a7 l, sliceN .u64 (a0 :: a1 :: a2 :: a3 :: a4 :: a5 :: a6 :: a7 :: .cells true 1 [.int .u64 (f : Int)] :: l) (.slice 8 0 1 none) = some [f] := fun a0 a1 a2 a3 a4 a5 a6 a7 l => sliceN_at (A := [f]) rfl (by simp) rfl
  have hc : ¬ cmpN av bv < 0 := by unfold cmpN; rw [if_neg (by omega)]; split <;> omega
  obtain ⟨p, hp⟩ : ∃ p, p = B.length - 1 := ⟨_, rfl⟩
  rw [← hp] at htop
  have hpB : p < B.length := by omega
  have htop' : B[p] = top0 := (List.getElem?_eq_some_iff.1 htop).2
  obtain ⟨p2, hp2⟩ : ∃ p2, p2 = (dig 1000000000 bf).length - 1 := ⟨_, rfl⟩
  rw [← hp2] at htop2
  have hp2B : p2 < (dig 1000000000 bf).length := by omega
  have htop2' : (dig 1000000000 bf)[p2] = top := (List.getElem?_eq_some_iff.1 htop2).2
  have hlB : B.length ≤ A.length := by
    rw [← dA, ← dB]; exact mono _ _ hle
  have wp : IntKind.i64.wrap ((B.length : Int) - 1) = (p : Int) := by rw [wrap_i64 (by omega) (by omega)]; omega
  have wp2 : IntKind.i64.wrap (((dig 1000000000 bf).length : Int) - 1) = (p2 : Int) := by rw [wrap_i64 (by omega) (by omega)]; omega
  have hbl : (dig 1000000000 bf).length ≤ 1000001 := by omega
  have wan : IntKind.i64.wrap ((a.length : Int) - 1) = (a.length : Int) - 1 := wrap_i64 (by omega) (by omega)
  have hpI : (p : Int) < (B.length : Int) := by omega
  have hp2I : (p2 : Int) < ((dig 1000000000 bf).length : Int) := by omega
  obtain ⟨t1, ht1⟩ : ∃ t1 : Nat, t1 = top0 + 1 := ⟨_, rfl⟩
  have wt : IntKind.u64.wrap ((top0 : Int) + 1) = (t1 : Int) := by rw [wrap_u64 (by omega) (by omega)]; omega
  rw [← ht1] at hf
  have ht10 : ¬ t1 = 0 := by omega
  have wf0 : IntKind.u64.wrap (f : Int) = (f : Int) := wrap_u64 (by omega) (by omega)
  have wf : IntKind.u64.wrap ((1000000000 : Int) / (t1 : Int)) = (f : Int) := by
    rw [show ((1000000000 : Int) / (t1 : Int)) = ((1000000000 / t1 : Nat) : Int) from rfl, ← hf]; exact wf0
  have wf' : IntKind.u64.wrap ((1000000000 : Int).tdiv (t1 : Int)) = (f : Int) := by
    rw [show ((1000000000 : Int).tdiv (t1 : Int)) = ((1000000000 / t1 : Nat) : Int) from rfl, ← hf]; exact wf0
  have hB1 : ¬ (B.length : Int) = 1 := by omega
  have hfI : (f : Int) < 1000000000 := by omega
  have hl8 : A.length ≤ 100000000 := by omega
  have hl9 : A.length ≤ 1000000000 := by omega
  have hlB8 : B.length ≤ 100000000 := by omega
  have hq9 : q.length ≤ 1000000000 := by omega
  have h8 : 8 * (a.length : Int) ≤ 281474976710656 := by omega
  have h9 : (a.length : Int) ≤ 281474976710656 := by omega
  have hrl8 : (dig 1000000000 rm).length ≤ 100000000 := by
    have : (dig 1000000000 rm).length ≤ (dig 1000000000 bf).length := mono _ _ (by omega)
    omega
  have hf0 : 0 < f := hf1
  by_cases hz : av % bv = 0
  · have hrm0 : rm = 0 := by rw [hrv, hz, Nat.zero_mul]
    have hrmf : rm < f := by omega
    rw [if_pos hz]
    simp [callFn, hG, Tryz.f298, Tryz.bnO4, Tryz.bnO3, Tryz.bnO2, Tryz.bnO1, hs0, hs1, hs6, hs7, hs8, hA, hB, ← hav, ← hbv, ← ha, ← hbf, tA, tB, hc, lo, lt, lv, wp, wp2, wan, hpI, hp2I, htop', htop2', hpB, hp2B, wt, ht10, wf, wf', hB1, hfI, hl8, hl9, hlB8, hq9, h8, h9, hF, hrl8, hf0, hfB, hrmf, iN_zcells, Nat.testBit]
  · have hrmf : ¬ rm < f := by
      have : f ≤ av % bv * f := Nat.le_mul_of_pos_left f (by omega)
      omega
    rw [if_neg hz]
    simp [callFn, hG, Tryz.f298, Tryz.bnO4, Tryz.bnO3, Tryz.bnO2, Tryz.bnO1, hs0, hs1, hs6, hs7, hs8, hA, hB, ← hav, ← hbv, ← ha, ← hbf, tA, tB, hc, lo, lt, lv, wp, wp2, wan, hpI, hp2I, htop', htop2', hpB, hp2B, wt, ht10, wf, wf', hB1, hfI, hl8, hl9, hlB8, hq9, h8, h9, hF, hrl8, hf0, hfB, hrmf, hrf, iN_zcells, Nat.testBit]
    exact ⟨rfl, rfl⟩
end Go.Proofs
namespace Go.Proofs
open Go.Eng
theorem Tryz.aDivN {M : Mem} {x y : AV} {A B : List Nat} (hA : lok 1000000000 A = true) (hB : lok 1000000000 B = true) (hl : A.length ≤ 1000000) (tA : ltrim A = A) (tB : ltrim B = B) (hm : 2 ≤ B.length) (hle : lval 1000000000 B ≤ lval 1000000000 A) (hx : RowAt .u64 M x A) (hy : RowAt .u64 M y B) :
    if lval 1000000000 A % lval 1000000000 B = 0 then ACallsTo Tryz.prog 298 [x, y] M (.tuple [.slice M.length 0 (dig 1000000000 (lval 1000000000 A / lval 1000000000 B)).length none, .nilslice]) (M ++ [.cells true 1 (iN .u64 (dig 1000000000 (lval 1000000000 A / lval 1000000000 B)))])
    else ACallsTo Tryz.prog 298 [x, y] M (.tuple [.slice M.length 0 (dig 1000000000 (lval 1000000000 A / lval 1000000000 B)).length none, .slice (M.length + 1) 0 (dig 1000000000 (lval 1000000000 A % lval 1000000000 B)).length none])
      (M ++ [.cells true 1 (iN .u64 (dig 1000000000 (lval 1000000000 A / lval 1000000000 B))), .cells true 1 (iN .u64 (dig 1000000000 (lval 1000000000 A % lval 1000000000 B)))]) := by
  obtain ⟨top, htop, _⟩ := get_both (l := B) (i := B.length - 1) (by omega)
  obtain ⟨q, hq, h⟩ := Tryz.divN_end A B top hA hB hl tA tB hm htop hle
  have := (callFn_sound Tryz.mixed (tyOf_ok _) Tryz.bnO4_ok (fnOf_ok _) h).1
  split
  · rename_i hz
    rw [if_pos hz] at this
    simp only [CallRes.mem, Option.getD_none, List.cons_append, List.nil_append] at this
    have h2 := ACallsTo.truncs (m2 := [.cells false 1 (iN .u64 A), .cells false 1 (iN .u64 B), .cells true 1 (iN .u64 (ltrim q))]) this rfl (fun b s hb => by
      match b with
      | 0 => simp at hb; subst hb; exact ⟨_, rfl, .inl rfl⟩
      | 1 => simp at hb; subst hb; exact ⟨_, rfl, .inl rfl⟩
      | 2 => simp at hb; subst hb; exact ⟨_, rfl, .row (ltrim_isPrefix _)⟩
      | b + 3 => simp at hb)
    obtain ⟨b, c, rfl, rfl, h3⟩ := ACallsTo.rows2 (new := [.cells true 1 (iN .u64 (ltrim q))]) rfl h2 hx hy
    rw [hq] at h3
    simpa [AV.ren, AV.rens, back] using h3
  · rename_i hz
    rw [if_neg hz] at this
    simp only [CallRes.mem, Option.getD_none, List.cons_append, List.nil_append] at this
    have h2 := ACallsTo.truncs (m2 := [.cells false 1 (iN .u64 A), .cells false 1 (iN .u64 B), .cells true 1 (iN .u64 (ltrim q)), .cells true 1 (iN .u64 (dig 1000000000 (lval 1000000000 A % lval 1000000000 B)))]) this rfl (fun b s hb => by
      match b with
      | 0 => simp at hb; subst hb; exact ⟨_, rfl, .inl rfl⟩
      | 1 => simp at hb; subst hb; exact ⟨_, rfl, .inl rfl⟩
      | 2 => simp at hb; subst hb; exact ⟨_, rfl, .row (ltrim_isPrefix _)⟩
      | 3 => simp at hb; subst hb; exact ⟨_, rfl, .inl rfl⟩
      | b + 4 => simp at hb)
    obtain ⟨b, c, rfl, rfl, h3⟩ := ACallsTo.rows2 (new := [.cells true 1 (iN .u64 (ltrim q)), .cells true 1 (iN .u64 (dig 1000000000 (lval 1000000000 A % lval 1000000000 B)))]) rfl h2 hx hy
    rw [hq] at h3
    simpa [AV.ren, AV.rens, back] using h3
noncomputable def Tryz.bnO5 : Oracle := fun c args M => match c, args with
  | .fn 298, [x, y] => match sliceN .u64 M x, sliceN .u64 M y with
    | some A, some B => if lok 1000000000 A = true ∧ lok 1000000000 B = true ∧ A.length ≤ 1000000 ∧ ltrim A = A ∧ ltrim B = B ∧ 0 < lval 1000000000 B then
        (if lval 1000000000 A < lval 1000000000 B then some ⟨.tuple [.nilslice, x], none, []⟩
        else if 2 ≤ B.length ∧ lval 1000000000 A % lval 1000000000 B = 0 then some ⟨.tuple [.slice M.length 0 (dig 1000000000 (lval 1000000000 A / lval 1000000000 B)).length none, .nilslice], none, [.cells true 1 (iN .u64 (dig 1000000000 (lval 1000000000 A / lval 1000000000 B)))]⟩
        else some ⟨.tuple [.slice M.length 0 (dig 1000000000 (lval 1000000000 A / lval 1000000000 B)).length none, .slice (M.length + 1) 0 (dig 1000000000 (lval 1000000000 A % lval 1000000000 B)).length none], none, [.cells true 1 (iN .u64 (dig 1000000000 (lval 1000000000 A / lval 1000000000 B))), .cells true 1 (iN .u64 (dig 1000000000 (lval 1000000000 A % lval 1000000000 B)))]⟩) else none
    | _, _ => none
  | c, args => Tryz.bnO3 c args M
theorem Tryz.bnO5_ok : OracleOk Tryz.prog Tryz.bnO5 := by
  refine oracleOk_of fun c args M r h => ?_
  unfold Tryz.bnO5 at h
  split at h
  · split at h
    · rename_i A B hA hB
      split at h
      · rename_i hc
        obtain ⟨c1, c2, c3, c4, c5, c6⟩ := hc
        split at h
        · rename_i hlt
          cases h
          refine soundAt_call ?_
          rw [List.append_nil]
          exact Tryz.aDivLess c1 c2 (by omega) c4 c5 hlt (sliceN_some hA) (sliceN_some hB)
        · rename_i hlt
          by_cases hm : 2 ≤ B.length
          · have := Tryz.aDivN c1 c2 c3 c4 c5 hm (by omega) (sliceN_some hA) (sliceN_some hB)
            split at h
            · rename_i hz
              rw [if_pos hz.2] at this
              cases h
              exact soundAt_call this
            · rename_i hz
              rw [if_neg (fun e => hz ⟨hm, e⟩)] at this
              cases h
              exact soundAt_call this
          · rw [if_neg (fun e => hm e.1)] at h
            obtain ⟨d, rfl⟩ : ∃ d, B = [d] := by
              match B, hm, c6 with
              | [], _, c6 => simp [lval] at c6
              | [d], _, _ => exact ⟨d, rfl⟩
              | _ :: _ :: _, hm, _ => simp at hm
            have hv : lval 1000000000 [d] = d := by simp [lval]
            rw [hv] at c6 hlt h
            have hd : d < 1000000000 := by simpa [lok] using c2
            cases h
            exact soundAt_call (Tryz.aDiv1 c6 hd c1 (by omega) c4 (by omega) (sliceN_some hA) (sliceN_some hB))
      · cases h
    · cases h
  · exact soundAt_of Tryz.bnO3_ok h
end Go.Proofs
