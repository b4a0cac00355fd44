/- Part L18 of a proof: see its last part, YtahfjdgeebjiaaaGreatDoorL55.lean. -/
import Derived.Test.YtahfjdgeebjiaaaGreatDoorL17
import Derived.Test.YtahfjdgeebjiaaaGreatDoorL11
import Derived.Test.YtahfjdgeebjiaaaGreatDoorL07
set_option linter.all false
namespace Go.Proofs
open Go.Eng
theorem ltrim_take_pred {A : List Nat} {n : Nat} (h : A[n]? = some 0) : ltrim (A.take (n + 1)) = ltrim (A.take n) := by
  rw [List.take_add_one, h]
  exact ltrim_snoc_zero _
theorem ltrim_take_last {A : List Nat} {n d : Nat} (h : A[n]? = some d) (hd : d ≠ 0) : ltrim (A.take (n + 1)) = A.take (n + 1) := by
  rw [List.take_add_one, h]
  exact ltrim_snoc hd _
theorem Tryz.trim_loop {O : Oracle} {K : Nat} {lv : Code → List Nat} (A : List Nat) (hl : A.length ≤ 1000000000) (hK : A.length < K) {b : Code} (hb : loopsF Tryz.f305 = [b]) (hlv : lv b = [0]) :
    ∃ F : Env → Bool → Env, ∀ env0 d, Go.Eng.look env0 0 = .slice 0 0 A.length none →
      execC (tyOf Tryz.prog) lv O K 21 1 true (.loop b) ⟨env0, [.cells false 1 (iN .u64 A)], d⟩ = some (.exit 0, ⟨F env0 d, [.cells false 1 (iN .u64 A)], d⟩) ∧ Go.Eng.look (F env0 d) 0 = .slice 0 0 (ltrim A).length none := by
  refine loop_rule hlv (fun env0 => Go.Eng.look env0 0 = .slice 0 0 A.length none) (fun _ env' => Go.Eng.look env' 0 = .slice 0 0 (ltrim A).length none) ?_
  clear hlv
  intro env0 d h0
  simp [loopsF, loopsC, Tryz.f305] at hb
  have hn : normE [0] (writesC b) env0 ((0, .slice 0 0 A.length none) :: env0) = normE [0] (writesC b) env0 env0 := by simp [normE, h0]
  rw [← hn]
  refine iter_ind (α := Nat) (fun n => ⟨normE [0] (writesC b) env0 ((0, .slice 0 0 n none) :: env0), [.cells false 1 (iN .u64 A)], d⟩) id (fun n => n ≤ A.length ∧ ltrim (A.take n) = ltrim A) (.exit 0) _ d _ (by simp) ?_ K A.length ⟨Nat.le_refl _, by rw [List.take_length]⟩ hK
  rintro n ⟨hn1, hn2⟩
  clear hn
  subst hb
  cases n with
  | zero =>
    right
    rw [← hn2]
    simp [ltrim]
  | succ n =>
    have hlt : n < A.length := by omega
    obtain ⟨x, hx⟩ : ∃ x, A[n]? = some x := ⟨A[n], by simp [hlt]⟩
    have hw : IntKind.i64.wrap (n : Int) = (n : Int) := wrap_i64 (by omega) (by omega)
    have h1 : (n : Int) < (n : Int) + 1 := by omega
    have h2 : 0 < (n : Int) + 1 := by omega
    by_cases hx0 : x = 0
    · subst hx0
      left
      refine ⟨n, ?_⟩
      have h3 : (n : Int) ≤ (n : Int) + 1 := by omega
      have h4 : n + 1 ≤ A.length := by omega
      simp [hw, h1, h2, h3, h4, hx]
      exact ⟨by omega, by rw [← ltrim_take_pred hx]; exact hn2⟩
    · right
      rw [← hn2, ltrim_take_last hx hx0]
      have h4 : min (n + 1) A.length = n + 1 := by omega
      simp [hw, h1, h2, h4, hx, hx0]
theorem Tryz.aTrim (A : List Nat) (hl : A.length ≤ 1000000000) : ACallsTo Tryz.prog 305 [.slice 0 0 A.length none] [.cells false 1 (iN .u64 A)] (.slice 0 0 (ltrim A).length none) [.cells false 1 (iN .u64 A)] := by
  have hG : fnOf Tryz.prog 305 = some Tryz.f305 := by kernel_rfl
  obtain ⟨b, hb⟩ : ∃ b, loopsF Tryz.f305 = [b] := ⟨_, rfl⟩
  obtain ⟨F, hF⟩ := Tryz.trim_loop (O := noOracle) (K := A.length + 1) (lv := fun _ => [0]) A hl (by omega) hb rfl
  simp [loopsF, loopsC, Tryz.f305] at hb
  subst hb
  have h : callFn (tyOf Tryz.prog) (fun _ => [0]) (fnOf Tryz.prog) noOracle (A.length + 1) 305 [.slice 0 0 A.length none] [.cells false 1 (iN .u64 A)] = some ⟨.slice 0 0 (ltrim A).length none, none, []⟩ := by
    simp [callFn, hG, Tryz.f305, hF]
  have := (callFn_sound Tryz.mixed (tyOf_ok _) (noOracle_ok _) (fnOf_ok _) h).1
  simpa [CallRes.mem] using this
end Go.Proofs
namespace Go.Proofs
open Go.Eng
theorem cmpN_at {B n a b : Nat} {X Y : List Nat} (hX : lok B X = true) (hY : lok B Y = true) (hlen : X.length = Y.length) (hd : X.drop (n + 1) = Y.drop (n + 1)) (ha : X[n]? = some a) (hb : Y[n]? = some b) (hab : a ≠ b) :
    cmpN (lval B X) (lval B Y) = if a < b then -1 else 1 := by
  have hn : n < X.length := (List.getElem?_eq_some_iff.1 ha).1
  have eX : X = X.take n ++ ([a] ++ X.drop (n + 1)) := by
    conv => lhs; rw [← List.take_append_drop (n + 1) X, List.take_add_one, ha]
    simp
  have eY : Y = Y.take n ++ ([b] ++ Y.drop (n + 1)) := by
    conv => lhs; rw [← List.take_append_drop (n + 1) Y, List.take_add_one, hb]
    simp
  have h1 := lval_lt (lok_take hX n)
  have h2 := lval_lt (lok_take hY n)
  have l1 : (X.take n).length = n := by simp; omega
  have l2 : (Y.take n).length = n := by simp; omega
  rw [l1] at h1
  rw [l2] at h2
  have vX : lval B X = lval B (X.take n) + B ^ n * (a + B * lval B (X.drop (n + 1))) := by
    conv => lhs; rw [eX, lval_append, lval_append, l1]
    simp [lval]
  have vY : lval B Y = lval B (Y.take n) + B ^ n * (b + B * lval B (X.drop (n + 1))) := by
    conv => lhs; rw [eY, lval_append, lval_append, l2, ← hd]
    simp [lval]
  rw [vX, vY]
  generalize B * lval B (X.drop (n + 1)) = D
  generalize B ^ n = p at *
  split
  · rename_i hlt
    have : p * (a + D + 1) ≤ p * (b + D) := Nat.mul_le_mul_left _ (by omega)
    rw [Nat.mul_add, Nat.mul_one] at this
    unfold cmpN
    rw [if_pos (by omega)]
  · rename_i hlt
    have : p * (b + D + 1) ≤ p * (a + D) := Nat.mul_le_mul_left _ (by omega)
    rw [Nat.mul_add, Nat.mul_one] at this
    unfold cmpN
    rw [if_neg (by omega), if_pos (by omega)]
theorem drop_pred {X Y : List Nat} {n a : Nat} (h : X.drop (n + 1) = Y.drop (n + 1)) (ha : X[n]? = some a) (hb : Y[n]? = some a) : X.drop n = Y.drop n := by
  have h1 : n < X.length := (List.getElem?_eq_some_iff.1 ha).1
  have h2 : n < Y.length := (List.getElem?_eq_some_iff.1 hb).1
  rw [List.drop_eq_getElem_cons h1, List.drop_eq_getElem_cons h2, h]
  have := (List.getElem?_eq_some_iff.1 ha).2
  have := (List.getElem?_eq_some_iff.1 hb).2
  simp_all
theorem Tryz.order_loop {O : Oracle} {K : Nat} {lv : Code → List Nat} (A B : List Nat) (hA : lok 1000000000 A = true) (hB : lok 1000000000 B = true) (hl : A.length ≤ 1000000000) (hlen : A.length = B.length) (hK : A.length < K) {b : Code} (hb : loopsF Tryz.f300 = [b]) (hlv : lv b = [5]) :
    ∃ F : Env → Bool → Env, ∀ env0 d, (Go.Eng.look env0 0 = .slice 0 0 A.length none ∧ Go.Eng.look env0 1 = .slice 1 0 A.length none ∧ Go.Eng.look env0 5 = .int .i64 ((A.length : Int) - 1)) →
      execC (tyOf Tryz.prog) lv O K 41 2 true (.loop b) ⟨env0, [.cells false 1 (iN .u64 A), .cells false 1 (iN .u64 B)], d⟩ = some (if A = B then .exit 0 else .ret, ⟨F env0 d, [.cells false 1 (iN .u64 A), .cells false 1 (iN .u64 B)], d⟩) ∧
        (A ≠ B → Go.Eng.look (F env0 d) 4 = .int .i64 (cmpN (lval 1000000000 A) (lval 1000000000 B))) := by
  refine loop_rule hlv (fun env0 => Go.Eng.look env0 0 = .slice 0 0 A.length none ∧ Go.Eng.look env0 1 = .slice 1 0 A.length none ∧ Go.Eng.look env0 5 = .int .i64 ((A.length : Int) - 1)) (fun _ env' => A ≠ B → Go.Eng.look env' 4 = .int .i64 (cmpN (lval 1000000000 A) (lval 1000000000 B))) ?_
  clear hlv
  rintro env0 d ⟨h0, h1, h5⟩
  simp [loopsF, loopsC, Tryz.f300] at hb
  have hn : normE [5] (writesC b) env0 ((5, .int .i64 ((A.length : Int) - 1)) :: env0) = normE [5] (writesC b) env0 env0 := by simp [normE, h5]
  rw [← hn]
  refine iter_ind (α := Nat) (fun n => ⟨normE [5] (writesC b) env0 ((5, .int .i64 ((n : Int) - 1)) :: env0), [.cells false 1 (iN .u64 A), .cells false 1 (iN .u64 B)], d⟩) id (fun n => n ≤ A.length ∧ A.drop n = B.drop n) (if A = B then .exit 0 else .ret) _ d _ (by split <;> simp) ?_ K A.length ⟨Nat.le_refl _, by rw [List.drop_length, hlen, List.drop_length]⟩ hK
  rintro n ⟨hn1, hn2⟩
  clear hn
  subst hb
  cases n with
  | zero =>
    right
    rw [List.drop_zero, List.drop_zero] at hn2
    simp [hn2]
  | succ n =>
    have hlt : n < A.length := by omega
    have hltB : n < B.length := by omega
    obtain ⟨x, hx, hx'⟩ := get_both hlt
    obtain ⟨y, hy, hy'⟩ := get_both hltB
    have e1 : (((n + 1 : Nat) : Int) - 1) = (n : Int) := by omega
    have e2 : IntKind.i64.wrap ((n : Int) - 1) = (n : Int) - 1 := wrap_i64 (by omega) (by omega)
    rw [e1]
    by_cases hxy : x = y
    · left
      subst hxy
      refine ⟨n, ?_⟩
      simp [h0, h1, hx, hy, hx', hy', hlt, hltB, e2]
      exact ⟨by omega, drop_pred hn2 hx hy⟩
    · right
      have hne : A ≠ B := by rintro rfl; rw [hx] at hy; cases hy; exact hxy rfl
      have hc := cmpN_at hA hB hlen hn2 hx hy hxy
      have hxy' : ¬ ((x : Int) = (y : Int)) := by omega
      by_cases hlt2 : x < y
      · rw [if_pos hlt2] at hc
        simp [h0, h1, hx, hy, hx', hy', hlt, hltB, hxy', hlt2, hne, hc]
      · rw [if_neg hlt2] at hc
        simp [h0, h1, hx, hy, hx', hy', hlt, hltB, hxy', hlt2, hne, hc]
theorem Tryz.aOrder (A B : List Nat) (hA : lok 1000000000 A = true) (hB : lok 1000000000 B = true) (hl : A.length ≤ 1000000000) (tA : ltrim A = A) (tB : ltrim B = B) :
    ACallsTo Tryz.prog 300 [.slice 0 0 A.length none, .slice 1 0 B.length none] [.cells false 1 (iN .u64 A), .cells false 1 (iN .u64 B)] (.int .i64 (cmpN (lval 1000000000 A) (lval 1000000000 B))) [.cells false 1 (iN .u64 A), .cells false 1 (iN .u64 B)] := by
  have hG : fnOf Tryz.prog 300 = some Tryz.f300 := by kernel_rfl
  obtain ⟨b, hb⟩ : ∃ b, loopsF Tryz.f300 = [b] := ⟨_, rfl⟩
  have h : callFn (tyOf Tryz.prog) (fun _ => [5]) (fnOf Tryz.prog) noOracle (A.length + 1) 300 [.slice 0 0 A.length none, .slice 1 0 B.length none] [.cells false 1 (iN .u64 A), .cells false 1 (iN .u64 B)] = some ⟨.int .i64 (cmpN (lval 1000000000 A) (lval 1000000000 B)), none, []⟩ := by
    have dA : dig 1000000000 (lval 1000000000 A) = A := by rw [dig_lval (by omega) hA, tA]
    have dB : dig 1000000000 (lval 1000000000 B) = B := by rw [dig_lval (by omega) hB, tB]
    by_cases hlen : A.length = B.length
    · have hF := Tryz.order_loop (O := noOracle) (K := A.length + 1) (lv := fun _ => [5]) A B hA hB hl hlen (by omega) hb rfl
      simp [loopsF, loopsC, Tryz.f300] at hb
      subst hb
      obtain ⟨F, hF⟩ := hF
      have e1 : IntKind.i64.wrap ((B.length : Int) - 1) = (B.length : Int) - 1 := wrap_i64 (by omega) (by omega)
      by_cases hAB : A = B
      · subst hAB
        have hc : cmpN (lval 1000000000 A) (lval 1000000000 A) = 0 := by unfold cmpN; simp
        rw [if_pos rfl] at hF
        simp [callFn, hG, Tryz.f300, hF, e1, hc]
      · rw [if_neg hAB] at hF
        simp only [hlen] at hF
        simp [callFn, hG, Tryz.f300, hF, hlen, e1, hAB]
    · have hlen' : ¬ ((A.length : Int) = B.length) := by omega
      by_cases hlt : A.length < B.length
      · have hv : lval 1000000000 A < lval 1000000000 B := dig_length_lt (B := 1000000000) (by omega) (by rw [dA, dB]; exact hlt)
        have hc : cmpN (lval 1000000000 A) (lval 1000000000 B) = -1 := by unfold cmpN; rw [if_pos hv]
        simp [callFn, hG, Tryz.f300, hlen, hlen', hlt, hc]
      · have hv : lval 1000000000 B < lval 1000000000 A := dig_length_lt (B := 1000000000) (by omega) (by rw [dA, dB]; omega)
        have hc : cmpN (lval 1000000000 A) (lval 1000000000 B) = 1 := by unfold cmpN; rw [if_neg (by omega), if_pos hv]
        simp [callFn, hG, Tryz.f300, hlen, hlen', hlt, hc]
  have := (callFn_sound Tryz.mixed (tyOf_ok _) (noOracle_ok _) (fnOf_ok _) h).1
  simpa [CallRes.mem] using this
end Go.Proofs
