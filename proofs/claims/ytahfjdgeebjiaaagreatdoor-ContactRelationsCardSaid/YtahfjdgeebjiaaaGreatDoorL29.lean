/- Part L29 of a proof: see its last part, YtahfjdgeebjiaaaGreatDoorL55.lean. -/
import Derived.Test.YtahfjdgeebjiaaaGreatDoorL28
set_option linter.all false
namespace Go.Proofs
open Go.Eng
def closeS (mn : Bool) (v : Nat) : List UInt8 := if v = 0 then [48] else if mn then 45 :: natD v else natD v
theorem closeS_intS (z : Int) : closeS (decide (z < 0)) z.natAbs = intS z := by
  unfold closeS
  by_cases h0 : z = 0
  · subst h0; rfl
  · rw [if_neg (by omega)]
    by_cases h : z < 0
    · rw [decide_eq_true h, if_pos rfl]
      have := intS_neg_pos (n := -z) (by omega)
      rw [Int.neg_neg] at this
      rw [this, intS_natAbs (by omega), Int.natAbs_neg]
    · rw [decide_eq_false h, if_neg (by simp), intS_natAbs (by omega)]
theorem Tryz.close_oracle (v : Nat) (mn : Bool) (hv : 0 < v) (hl : (dig 1000000000 v).length ≤ 1000000) {ps : Array Tmp} {asg body : Code} (hb : rangesF Tryz.f264 = [(ps, asg, body)]) :
    ∃ O : Oracle, OracleOk Tryz.prog O ∧ ∀ env0, (Go.Eng.look env0 1 = .ptr 1 0 ∧ Go.Eng.look env0 3 = .ptr 2 0 ∧ env0.flatMap (fun e => e.2.refs 5) = []) →
      O (.fn 340) [.yield 4, .ptr 3 0] [.cells false 1 (iN .u64 (dig 1000000000 v)), .cells true 0 [.bool mn, .slice 0 0 (dig 1000000000 v).length none], .cells true Tryz.bEs [.nilptr, .nilslice], .cells true 0 [.slice 0 0 (dig 1000000000 v).length none], .loop ⟨.ready, none, env0, 34, ps, asg, body⟩] = some ⟨.tuple [], some [.cells false 1 (iN .u64 (dig 1000000000 v)), .cells true 0 [.bool mn, .slice 0 0 (dig 1000000000 v).length none], .cells true Tryz.bEs [.ptr 2 0, .slice 5 0 (natD v).length none], .cells true 0 [.slice 0 0 (dig 1000000000 v).length none], .loop ⟨.ready, none, env0, 34, ps, asg, body⟩], [.cells true 6001 (iB (natD v))]⟩ := by
  refine oracle_family (ι := Env) (fun env0 => Go.Eng.look env0 1 = .ptr 1 0 ∧ Go.Eng.look env0 3 = .ptr 2 0 ∧ env0.flatMap (fun e => e.2.refs 5) = []) (fun _ => .fn 340) (fun _ => [.yield 4, .ptr 3 0]) (fun env0 => [.cells false 1 (iN .u64 (dig 1000000000 v)), .cells true 0 [.bool mn, .slice 0 0 (dig 1000000000 v).length none], .cells true Tryz.bEs [.nilptr, .nilslice], .cells true 0 [.slice 0 0 (dig 1000000000 v).length none], .loop ⟨.ready, none, env0, 34, ps, asg, body⟩]) (fun env0 => ⟨.tuple [], some [.cells false 1 (iN .u64 (dig 1000000000 v)), .cells true 0 [.bool mn, .slice 0 0 (dig 1000000000 v).length none], .cells true Tryz.bEs [.ptr 2 0, .slice 5 0 (natD v).length none], .cells true 0 [.slice 0 0 (dig 1000000000 v).length none], .loop ⟨.ready, none, env0, 34, ps, asg, body⟩], [.cells true 6001 (iB (natD v))]⟩) ?_ ?_
  · rintro env0 ⟨h1, h3, he⟩
    refine ⟨?_, fun q hq => by cases hq; rfl⟩
    exact Tryz.close_range v mn hv hl hb env0 h1 h3 he
  · intro i j _ _ _ _ h
    simp only [List.cons.injEq, Slot.loop.injEq, LoopA.mk.injEq, and_true, true_and] at h
    rw [h]
theorem Tryz.close_oracleS (v : Nat) (mn : Bool) (hv : 0 < v) (hl : (dig 1000000000 v).length ≤ 1000000) {ps : Array Tmp} {asg body : Code} (hb : rangesF Tryz.f264 = [(ps, asg, body)]) :
    ∃ O : Oracle, OracleOk Tryz.prog O ∧ ∀ env0, (Go.Eng.look env0 1 = .ptr 1 0 ∧ Go.Eng.look env0 3 = .ptr 2 0 ∧ env0.flatMap (fun e => e.2.refs 7) = []) →
      O (.fn 340) [.yield 6, .ptr 5 0] [.cells false 1 (iN .u64 (dig 1000000000 v)), .cells true 0 [.bool mn, .slice 0 0 (dig 1000000000 v).length none], .cells true Tryz.bEs [.ptr 2 0, .slice 4 0 1 none], .cells true 1 (iB [45]), .cells true 6001 (iB [45]), .cells true 0 [.slice 0 0 (dig 1000000000 v).length none], .loop ⟨.ready, none, env0, 34, ps, asg, body⟩] = some ⟨.tuple [], some [.cells false 1 (iN .u64 (dig 1000000000 v)), .cells true 0 [.bool mn, .slice 0 0 (dig 1000000000 v).length none], .cells true Tryz.bEs [.ptr 2 0, .slice 7 0 (45 :: natD v).length none], .cells true 1 (iB [45]), .absent, .cells true 0 [.slice 0 0 (dig 1000000000 v).length none], .loop ⟨.ready, none, env0, 34, ps, asg, body⟩], [.cells true 6001 (iB (45 :: natD v))]⟩ := by
  refine oracle_family (ι := Env) (fun env0 => Go.Eng.look env0 1 = .ptr 1 0 ∧ Go.Eng.look env0 3 = .ptr 2 0 ∧ env0.flatMap (fun e => e.2.refs 7) = []) (fun _ => .fn 340) (fun _ => [.yield 6, .ptr 5 0]) (fun env0 => [.cells false 1 (iN .u64 (dig 1000000000 v)), .cells true 0 [.bool mn, .slice 0 0 (dig 1000000000 v).length none], .cells true Tryz.bEs [.ptr 2 0, .slice 4 0 1 none], .cells true 1 (iB [45]), .cells true 6001 (iB [45]), .cells true 0 [.slice 0 0 (dig 1000000000 v).length none], .loop ⟨.ready, none, env0, 34, ps, asg, body⟩]) (fun env0 => ⟨.tuple [], some [.cells false 1 (iN .u64 (dig 1000000000 v)), .cells true 0 [.bool mn, .slice 0 0 (dig 1000000000 v).length none], .cells true Tryz.bEs [.ptr 2 0, .slice 7 0 (45 :: natD v).length none], .cells true 1 (iB [45]), .absent, .cells true 0 [.slice 0 0 (dig 1000000000 v).length none], .loop ⟨.ready, none, env0, 34, ps, asg, body⟩], [.cells true 6001 (iB (45 :: natD v))]⟩) ?_ ?_
  · rintro env0 ⟨h1, h3, he⟩
    refine ⟨?_, fun q hq => by cases hq; rfl⟩
    exact Tryz.close_rangeS v mn hv hl hb env0 h1 h3 he
  · intro i j _ _ _ _ h
    simp only [List.cons.injEq, Slot.loop.injEq, LoopA.mk.injEq, and_true, true_and] at h
    rw [h]
theorem Tryz.close_run (v : Nat) (mn : Bool) (hv : 0 < v) (hl : (dig 1000000000 v).length ≤ 1000000) :
    ∃ O : Oracle, OracleOk Tryz.prog O ∧ callFn (tyOf Tryz.prog) (fun _ => []) (fnOf Tryz.prog) ((Tryz.bnO6.or Tryz.bldO).or O) 1 264 [.agg [.bool mn, .slice 0 0 (dig 1000000000 v).length none]] [.cells false 1 (iN .u64 (dig 1000000000 v))] =
      some ⟨.str (if mn then 45 :: natD v else natD v), some [.cells false 1 (iN .u64 (dig 1000000000 v))], []⟩ := by
  have hG : fnOf Tryz.prog 264 = some Tryz.f264 := by kernel_rfl
  obtain ⟨ps, asg, body, hb⟩ : ∃ ps asg body, rangesF Tryz.f264 = [(ps, asg, body)] := ⟨_, _, _, rfl⟩
  have hne : dig 1000000000 v ≠ [] := by rw [ne_eq, dig_eq_nil (by omega)]; omega
  have hlen : (natD v).length ≤ 90000000 := by
    have h1 := lval_lt (lok_dig (B := 1000000000) (by omega) v)
    rw [lval_dig (by omega)] at h1
    have h2 : (1000000000 : Nat) ^ (dig 1000000000 v).length = 10 ^ (9 * (dig 1000000000 v).length) := by rw [Nat.pow_mul]
    rw [h2] at h1
    have h3 := List.length_pos_iff.2 hne
    have h4 := natD_length_le (by omega) h1
    omega
  have hnd := natD_ne v
  cases mn with
  | false =>
    obtain ⟨O, hO, hOr⟩ := Tryz.close_oracle v false hv hl hb
    refine ⟨O, hO, ?_⟩
    obtain ⟨A, hA⟩ : ∃ A, A = dig 1000000000 v := ⟨_, rfl⟩
    obtain ⟨t, ht⟩ : ∃ t, t = natD v := ⟨_, rfl⟩
    rw [← hA] at hne
    rw [← hA, ← ht] at hOr
    rw [← hA]
    rw [← ht] at hlen hnd
    simp only [Bool.false_eq_true, if_false, ← ht]
    have hA0 : ¬ A.length = 0 := fun e => hne (List.eq_nil_of_length_eq_zero e)
    have ht1 : t.length ≤ 100000000 := by omega
    simp [rangesF, rangesC, Tryz.f264] at hb
    obtain ⟨rfl, rfl, rfl⟩ := hb
    simp [callFn, hG, Tryz.f264, Oracle.or, Tryz.bnO6, Tryz.bnO5, Tryz.bnO3, Tryz.bnO2, Tryz.bnO1, Tryz.bldO, pureO, Tryz.numF, Tryz.strF, hne, hA0, execC_range, hOr, exitOf, bytesA_iB, ht1, hnd]
  | true =>
    obtain ⟨O, hO, hOr⟩ := Tryz.close_oracleS v true hv hl hb
    refine ⟨O, hO, ?_⟩
    obtain ⟨A, hA⟩ : ∃ A, A = dig 1000000000 v := ⟨_, rfl⟩
    obtain ⟨t, ht⟩ : ∃ t, t = 45 :: natD v := ⟨_, rfl⟩
    have hlen' : t.length ≤ 100000000 := by rw [ht, List.length_cons]; omega
    have hnd' : t ≠ [] := by rw [ht]; simp
    rw [← hA] at hne
    rw [← hA, ← ht] at hOr
    rw [← hA]
    simp only [if_true, ← ht]
    have hA0 : ¬ A.length = 0 := fun e => hne (List.eq_nil_of_length_eq_zero e)
    simp [rangesF, rangesC, Tryz.f264] at hb
    obtain ⟨rfl, rfl, rfl⟩ := hb
    simp [callFn, hG, Tryz.f264, Oracle.or, Tryz.bnO6, Tryz.bnO5, Tryz.bnO3, Tryz.bnO2, Tryz.bnO1, Tryz.bldO, pureO, Tryz.numF, Tryz.strF, hne, hA0, execC_range, hOr, exitOf, bytesA_iB, hlen', hnd']
end Go.Proofs
namespace Go.Proofs
open Go.Eng
theorem Tryz.close_zero (mn : Bool) : callFn (tyOf Tryz.prog) (fun _ => []) (fnOf Tryz.prog) noOracle 1 264 [.agg [.bool mn, .slice 0 0 0 none]] [.cells false 1 []] = some ⟨.str [48], none, []⟩ := by
  have hG : fnOf Tryz.prog 264 = some Tryz.f264 := by kernel_rfl
  simp [callFn, hG, Tryz.f264]
theorem Tryz.aCloseNil (mn : Bool) (M : Mem) : ACallsTo Tryz.prog 264 [.agg [.bool mn, .nilslice]] M (.str [48]) M := by
  have hG : fnOf Tryz.prog 264 = some Tryz.f264 := by kernel_rfl
  refine Tryz.run (noOracle_ok _) (lv := fun _ => []) (K := 1) rfl rfl ?_ M
  simp [callFn, hG, Tryz.f264]
theorem Tryz.aCloseM {M : Mem} {x : AV} {A : List Nat} (mn : Bool) (hA : lok 1000000000 A = true) (tA : ltrim A = A) (hl : A.length ≤ 1000000) (hx : RowAt .u64 M x A) :
    ACallsTo Tryz.prog 264 [.agg [.bool mn, x]] M (.str (closeS mn (lval 1000000000 A))) M := by
  obtain ⟨b, o, cs, rfl, hb, ht⟩ := hx
  have hlt := (List.getElem?_eq_some_iff.1 hb).1
  have small : ACallsTo Tryz.prog 264 [.agg [.bool mn, .slice 0 0 A.length none]] [.cells false 1 (iN .u64 A)] (.str (closeS mn (lval 1000000000 A))) ([.cells false 1 (iN .u64 A)] ++ []) := by
    by_cases hv : lval 1000000000 A = 0
    · have e : A = [] := by
        have := dig_self (by omega) hA tA
        rw [hv, dig_zero] at this
        exact this.symm
      subst e
      have := (callFn_sound Tryz.mixed (tyOf_ok _) (noOracle_ok _) (fnOf_ok _) (Tryz.close_zero mn)).1
      simpa [CallRes.mem, closeS, lval] using this
    · have e := dig_self (by omega) hA tA
      obtain ⟨O, hO, h⟩ := Tryz.close_run (lval 1000000000 A) mn (by omega) (by rw [e]; exact hl)
      rw [e] at h
      have := (callFn_sound Tryz.mixed (tyOf_ok _) ((Tryz.bnO6_ok.or Tryz.bldO_ok).or hO) (fnOf_ok _) h).1
      simpa [CallRes.mem, closeS, hv] using this
  have := ACallsTo.frame (M := M) [b] (m := [.cells false 1 (iN .u64 A)]) rfl (by simpa using hlt) (by simp) (fun i s hs => by
    cases i with
    | zero => simp at hs; subst hs; exact .row hb ht
    | succ i => simp at hs) rfl small
  simpa [AV.rens, AV.ren, back] using this
noncomputable def Tryz.bnO7 : Oracle := fun c args M => match c, args with
  | .fn 264, [.agg [.bool mn, .nilslice]] => some ⟨.str (closeS mn 0), none, []⟩
  | .fn 264, [.agg [.bool mn, x]] => match sliceN .u64 M x with
    | some A => if lok 1000000000 A = true ∧ ltrim A = A ∧ A.length ≤ 1000000 then some ⟨.str (closeS mn (lval 1000000000 A)), none, []⟩ else none
    | none => none
  | .fn 262, [.str s] => match intP s with
    | some z => if (natD z.natAbs).length ≤ 1000000 then some ⟨.agg [.bool (decide (z < 0)), .slice M.length 0 (dig 1000000000 z.natAbs).length none], none, [.cells true 1 (iN .u64 (dig 1000000000 z.natAbs))]⟩ else none
    | none => none
  | c, args => Tryz.bnO6 c args M
theorem Tryz.bnO7_ok : OracleOk Tryz.prog Tryz.bnO7 := by
  refine oracleOk_of fun c args M r h => ?_
  unfold Tryz.bnO7 at h
  split at h
  · cases h
    refine soundAt_call ?_
    rw [List.append_nil]
    exact Tryz.aCloseNil _ M
  · split at h
    · rename_i hA
      split at h
      · rename_i hc
        obtain ⟨c1, c2, c3⟩ := hc
        cases h
        refine soundAt_call ?_
        rw [List.append_nil]
        exact Tryz.aCloseM _ c1 c2 c3 (sliceN_some hA)
      · cases h
    · cases h
  · split at h
    · rename_i hz
      split at h
      · rename_i hl
        cases h
        rw [intP_some hz]
        exact soundAt_call (Tryz.aOpenM _ hl M)
      · cases h
    · cases h
  · exact soundAt_of Tryz.bnO6_ok h
end Go.Proofs
