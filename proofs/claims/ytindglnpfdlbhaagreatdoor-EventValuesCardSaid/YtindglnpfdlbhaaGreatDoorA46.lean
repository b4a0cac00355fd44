/- Part A46 of a proof: see its last part, YtindglnpfdlbhaaGreatDoorA51.lean. -/
import Derived.Test.YtindglnpfdlbhaaGreatDoorA42
import Derived.Test.YtindglnpfdlbhaaGreatDoorA45
set_option linter.all false
namespace Go.Proofs
open Go.Eng
open Classical in
noncomputable def Tryz.evO3 : Oracle := fun c args M => match c, args with
  | .fn 11, [] => some ⟨.bool true, none, []⟩
  | .fn 12, [x, .str u] => match sliceK M x with
    | some L => if briefK L ∧ L.length ≤ 1000000000 ∧ u.length ≤ 40 then some ⟨.tuple [.str (evV L u).1, .int .i64 (evV L u).2], none, []⟩ else none
    | none => none
  | .fn 13, [x] => match sliceK M x with
    | some L => if briefK L ∧ L.length ≤ 1000000000 then some ⟨.int .i64 (knE L), none, []⟩ else none
    | none => none
  | .fn 15, [x, .str u] => match sliceK M x with
    | some L => match ratsK L, ratP u with
      | some Q, some r => if valOk Q r then some ⟨.str (ratS (lawV r Q)), none, []⟩ else none
      | _, _ => none
    | none => none
  | c, args => pureO Tryz.rgF12 c args M
theorem Tryz.evO3_ok : OracleOk Tryz.prog Tryz.evO3 := by
  refine oracleOk_of fun c args M r h => ?_
  unfold Tryz.evO3 at h
  split at h
  · cases h
    refine soundAt_call ?_
    rw [List.append_nil]; exact Tryz.aKnown M
  · split at h
    · rename_i L hL
      split at h
      · rename_i hc
        cases h
        refine soundAt_call ?_
        rw [List.append_nil]
        exact Tryz.aEValue2 L _ hc.1 hc.2.1 hc.2.2 M _ hL
      · cases h
    · cases h
  · split at h
    · rename_i L hL
      split at h
      · rename_i hc
        cases h
        refine soundAt_call ?_
        rw [List.append_nil]
        rcases sliceK_some hL with hx | ⟨rfl, rfl⟩
        · exact rows1K (rest := []) rfl rfl (Tryz.aKnots L (fun k hk => by have := hc.1 k hk; omega) hc.2) hx
        · exact Tryz.aKnotsNil M
      · cases h
    · cases h
  · split at h
    · rename_i L hL
      split at h
      · rename_i Q r' hQ hr
        split at h
        · rename_i hc
          cases h
          refine soundAt_call ?_
          rw [List.append_nil, ratP_some hr]
          have hLQ := ratsK_some hQ
          rcases sliceK_some hL with hx | ⟨rfl, rfl⟩
          · subst hLQ
            have := Tryz.aValueLaw Q r' hc
            rw [← kT_length] at this
            exact rows1K (rest := [.str (ratS r')]) rfl rfl this hx
          · cases Q with
            | nil => exact Tryz.aValueLawNil _ M
            | cons q Q => cases hLQ
        · cases h
      · cases h
    · cases h
  · exact soundAt_of Tryz.rg12_ok h
def briefB (L : List (List UInt8 × List UInt8)) : Bool := L.all fun k => decide (k.1.length ≤ 40) && decide (k.2.length ≤ 40)
theorem briefB_iff {L : List (List UInt8 × List UInt8)} : briefB L = true ↔ briefK L := by
  simp [briefB, briefK]
set_option maxHeartbeats 4000000 in
set_option maxRecDepth 100000 in
theorem Tryz.ev_loop {K : Nat} (L : List (List UInt8 × List UInt8)) (hl : L.length ≤ 1000000000) (hK : L.length < K) {b : Code} (hb : loopsF Tryz.f3 = [b]) :
    ∃ F : Env → Bool → Env, ∀ env0 d, (Go.Eng.look env0 0 = .slice 0 0 L.length none ∧ Go.Eng.look env0 5 = .int .i64 0) →
      execC (tyOf Tryz.prog) (fun _ => [5]) Tryz.evO3 K 87 1 true (.loop b) ⟨env0, [.cells false 2 (kC L)], d⟩ = some (if briefB L = true then .exit 0 else .ret, ⟨F env0 d, [.cells false 2 (kC L)], d⟩) ∧
        (∀ t, t = 0 ∨ t = 1 → Go.Eng.look (F env0 d) t = Go.Eng.look env0 t) ∧ (briefB L = false → Go.Eng.look (F env0 d) 4 = .bool true) := by
  refine loop_rule rfl (fun env0 => Go.Eng.look env0 0 = .slice 0 0 L.length none ∧ Go.Eng.look env0 5 = .int .i64 0) (fun env0 env' => (∀ t, t = 0 ∨ t = 1 → Go.Eng.look env' t = Go.Eng.look env0 t) ∧ (briefB L = false → Go.Eng.look env' 4 = .bool true)) ?_
  rintro env0 d ⟨h0, h5⟩
  simp [loopsF, loopsC, Tryz.f3] at hb
  have hn : normE [5] (writesC b) env0 ((5, .int .i64 ((0 : Nat) : Int)) :: env0) = normE [5] (writesC b) env0 env0 := by simp [normE, h5]
  rw [← hn]
  have kl : (kC L).length = 2 * L.length := kC_length L
  refine iter_ind (α := Nat) (fun n => ⟨normE [5] (writesC b) env0 ((5, .int .i64 (n : Int)) :: env0), [.cells false 2 (kC L)], d⟩) (fun n => L.length - n) (fun n => n ≤ L.length ∧ briefB L = briefB (L.drop n)) (if briefB L = true then .exit 0 else .ret) _ d _ (by split <;> simp) ?_ K 0 ⟨by omega, by rw [List.drop_zero]⟩ (by omega)
  rintro n ⟨hn1, he⟩
  clear hn
  subst hb
  by_cases hlt : n < L.length
  · obtain ⟨k, hk⟩ : ∃ k, L[n]? = some k := ⟨L[n], List.getElem?_eq_getElem hlt⟩
    obtain ⟨k1, k2, k3⟩ := kC_at hk
    have hd : L.drop n = k :: L.drop (n + 1) := by
      rw [List.getElem?_eq_some_iff] at hk
      obtain ⟨h1, h2⟩ := hk
      rw [← h2]; exact List.drop_eq_getElem_cons h1
    have w1 : IntKind.i64.wrap ((n : Int) + 1) = ((n + 1 : Nat) : Int) := by rw [wrap_i64 (by omega) (by omega)]; omega
    rw [hd] at he
    have hb2 : briefB (k :: L.drop (n + 1)) = ((decide (k.1.length ≤ 40) && decide (k.2.length ≤ 40)) && briefB (L.drop (n + 1))) := rfl
    rw [hb2] at he
    by_cases c1 : k.1.length ≤ 40
    · have c1' : ¬ 40 < k.1.length := by omega
      have c1I : ¬ (40 : Int) < k.1.length := by omega
      by_cases c2 : k.2.length ≤ 40
      · have c2' : ¬ 40 < k.2.length := by omega
        have c2I : ¬ (40 : Int) < k.2.length := by omega
        left
        obtain ⟨v, hv⟩ : ∃ v, v = n + 1 := ⟨_, rfl⟩
        rw [← hv] at w1 he
        refine ⟨v, ?_⟩
        simp [h0, hlt, k2, k3, w1, c1', c1I, c2', c2I, kC_refs]
        exact ⟨⟨by omega, by rw [he]; simp [c1, c2]⟩, by omega⟩
      · have c2' : 40 < k.2.length := by omega
        have c2I : (40 : Int) < k.2.length := by omega
        right
        have : briefB L = false := by rw [he]; simp [c2]
        rw [this]
        simp [h0, hlt, k2, k3, w1, c1', c1I, c2', c2I, kC_refs]
    · have c1' : 40 < k.1.length := by omega
      have c1I : (40 : Int) < k.1.length := by omega
      right
      have : briefB L = false := by rw [he]; simp [c1]
      rw [this]
      simp [h0, hlt, k2, k3, w1, c1', c1I, kC_refs]
  · right
    have e : L.drop n = [] := List.drop_of_length_le (by omega)
    rw [e] at he
    have : briefB L = true := he
    rw [this]
    simp [h0, hlt]
end Go.Proofs
namespace Go.Proofs
open Go.Eng
set_option maxHeartbeats 4000000 in
set_option maxRecDepth 100000 in
theorem Tryz.ev_main (L : List (List UInt8 × List UInt8)) (u : List UInt8) (hl : L.length ≤ 22) (hu : u.length ≤ 40) (h6 : 6 < L.length → 19 ≤ L.length) :
    callFn (tyOf Tryz.prog) (fun _ => [5]) (fnOf Tryz.prog) Tryz.evO3 (L.length + 1) 3 [.slice 0 0 L.length none, .str u] [.cells false 2 (kC L)] = some ⟨.bool true, none, []⟩ := by
  have hG : fnOf Tryz.prog 3 = some Tryz.f3 := by kernel_rfl
  obtain ⟨b, hb⟩ : ∃ b, loopsF Tryz.f3 = [b] := ⟨_, rfl⟩
  obtain ⟨F, hF⟩ := Tryz.ev_loop (K := L.length + 1) L (by omega) (by omega) hb
  simp [loopsF, loopsC, Tryz.f3] at hb
  subst hb
  have c22 : ¬ (22 : Int) < L.length := by omega
  have c22' : ¬ 22 < L.length := by omega
  have c40 : ¬ (40 : Int) < u.length := by omega
  have c40' : ¬ 40 < u.length := by omega
  have hsl : ∀ l, sliceK (.cells false 2 (kC L) :: l) (.slice 0 0 L.length none) = some L := fun l => sliceK_at rfl (by rw [kC_length]; omega) (List.take_of_length_le (by rw [kC_length]; omega))
  have hl2 : L.length ≤ 1000000000 := by omega
  have hu2 : u.length ≤ 1000000000 := by omega
  have key : ∀ (c6 : Bool), decide ((6 : Int) < L.length) = c6 → decide (6 < L.length) = c6 → (c6 = true → decide ((L.length : Int) < 19) = false ∧ decide (L.length < 19) = false) → callFn (tyOf Tryz.prog) (fun _ => [5]) (fnOf Tryz.prog) Tryz.evO3 (L.length + 1) 3 [.slice 0 0 L.length none, .str u] [.cells false 2 (kC L)] = some ⟨.bool true, none, []⟩ := by
    intro c6 g1 g2 g3
    cases hbr : briefB L with
    | false =>
      rw [hbr, if_neg (by simp)] at hF
      have hF1 := fun env0 d h => (hF env0 d h).1
      have hF2 := fun env0 d h => (hF env0 d h).2.2 rfl
      clear hF
      cases c6 with
      | true =>
        obtain ⟨g4, g5⟩ := g3 rfl
        simp [callFn, hG, Tryz.f3, Tryz.evO3, g1, g2, g4, g5, c22, c22', c40, c40', hF1, hF2]
      | false =>
        simp [callFn, hG, Tryz.f3, Tryz.evO3, g1, g2, c22, c22', c40, c40', hF1, hF2]
    | true =>
      rw [hbr, if_pos rfl] at hF
      have hF1 := fun env0 d h => (hF env0 d h).1
      have hF2 := fun env0 d h => (hF env0 d h).2.1 0 (.inl rfl)
      have hF3 := fun env0 d h => (hF env0 d h).2.1 1 (.inr rfl)
      clear hF
      have hB := briefB_iff.1 hbr
      have g4 : c6 = true → decide ((L.length : Int) < 19) = false := fun h => (g3 h).1
      have g5 : c6 = true → decide (L.length < 19) = false := fun h => (g3 h).2
      by_cases h1 : knE L = 0
      · by_cases h2 : chkR u = 0
        · obtain ⟨Q, r, hQ, ha, hur, hQl, hev⟩ := evV_ok h1 h2
          have hev1 : (evV L u).1 = ratS (lawV r Q) := by rw [hev]
          have hev2 : (evV L u).2 = 0 := by rw [hev]
          have hrp : ratP u = some r := by rw [hur, ratP_ratS]
          have hrk : ratsK L = some Q := by rw [hQ, ratsK_kT]
          have hv : valOk Q r := by
            rw [hQ] at hB
            have := lineOk_of hB ha (by omega)
            exact ⟨this.1, big_of_length (by rw [← hur]; exact hu), ha, this.2.1⟩
          cases c6 with
          | true => simp [callFn, hG, Tryz.f3, Tryz.evO3, g1, g2, g4, g5, c22, c22', c40, c40', hF1, hF2, hF3, hsl, hB, hl2, hu, h1, h2, hev1, hev2, hrp, hrk, hv, pureO, Tryz.rgF12, hu2]
          | false => simp [callFn, hG, Tryz.f3, Tryz.evO3, g1, g2, c22, c22', c40, c40', hF1, hF2, hF3, hsl, hB, hl2, hu, h1, h2, hev1, hev2, hrp, hrk, hv, pureO, Tryz.rgF12, hu2]
        · have hev : evV L u = ([], chkR u) := by unfold evV; rw [if_neg (by rw [h1]; simp), if_pos h2]
          have hc2 : chkR u = 2 := (chkR_zero u).resolve_left h2
          have hb2 : (chkR u == 0) = false := by rw [hc2]; rfl
          have hev1 : (evV L u).1 = [] := by rw [hev]
          have hev2 : (evV L u).2 = 2 := by rw [hev, hc2]
          cases c6 with
          | true => simp [callFn, hG, Tryz.f3, Tryz.evO3, g1, g2, g4, g5, c22, c22', c40, c40', hF1, hF2, hF3, hsl, hB, hl2, hu, h1, hb2, hev1, hev2, pureO, Tryz.rgF12, hu2]
          | false => simp [callFn, hG, Tryz.f3, Tryz.evO3, g1, g2, c22, c22', c40, c40', hF1, hF2, hF3, hsl, hB, hl2, hu, h1, hb2, hev1, hev2, pureO, Tryz.rgF12, hu2]
      · have hev : evV L u = ([], knE L) := by unfold evV; rw [if_pos h1]
        have hev1 : (evV L u).1 = [] := by rw [hev]
        have hev2 : (evV L u).2 = knE L := by rw [hev]
        cases c6 with
        | true => simp [callFn, hG, Tryz.f3, Tryz.evO3, g1, g2, g4, g5, c22, c22', c40, c40', hF1, hF2, hF3, hsl, hB, hl2, hu, h1, hev1, hev2]
        | false => simp [callFn, hG, Tryz.f3, Tryz.evO3, g1, g2, c22, c22', c40, c40', hF1, hF2, hF3, hsl, hB, hl2, hu, h1, hev1, hev2]
  by_cases h : 6 < L.length
  · exact key true (by simp; omega) (by simp; omega) (fun _ => ⟨by simp; have := h6 h; omega, by simp; have := h6 h; omega⟩)
  · exact key false (by simp; omega) (by simp; omega) (fun h => by cases h)
set_option maxHeartbeats 4000000 in
theorem Tryz.ev_early (x : AV) (n : Nat) (u : List UInt8) (m : Mem) (hx : x = .slice 0 0 n none ∨ (x = .nilslice ∧ n = 0)) (hc : (6 < n ∧ (n < 19 ∨ 22 < n)) ∨ 40 < u.length) :
    callFn (tyOf Tryz.prog) (fun _ => [5]) (fnOf Tryz.prog) Tryz.evO3 1 3 [x, .str u] m = some ⟨.bool true, none, []⟩ := by
  have hG : fnOf Tryz.prog 3 = some Tryz.f3 := by kernel_rfl
  rcases hx with rfl | ⟨rfl, rfl⟩
  · by_cases c6 : 6 < n
    · have c6I : (6 : Int) < n := by omega
      by_cases c19 : n < 19
      · have c19I : (n : Int) < 19 := by omega
        simp [callFn, hG, Tryz.f3, Tryz.evO3, c6, c6I, c19, c19I]
      · have c19I : ¬ (n : Int) < 19 := by omega
        by_cases c22 : 22 < n
        · have c22I : (22 : Int) < n := by omega
          simp [callFn, hG, Tryz.f3, Tryz.evO3, c6, c6I, c19, c19I, c22, c22I]
        · have c22I : ¬ (22 : Int) < n := by omega
          have c40 : 40 < u.length := by omega
          have c40I : (40 : Int) < u.length := by omega
          simp [callFn, hG, Tryz.f3, Tryz.evO3, c6, c6I, c19, c19I, c22, c22I, c40, c40I]
    · have c6I : ¬ (6 : Int) < n := by omega
      have c40 : 40 < u.length := by omega
      have c40I : (40 : Int) < u.length := by omega
      simp [callFn, hG, Tryz.f3, Tryz.evO3, c6, c6I, c40, c40I]
  · have c40 : 40 < u.length := by omega
    have c40I : (40 : Int) < u.length := by omega
    simp [callFn, hG, Tryz.f3, Tryz.evO3, c40, c40I]
set_option maxHeartbeats 4000000 in
theorem Tryz.ev_nil (u : List UInt8) (hu : u.length ≤ 40) : callFn (tyOf Tryz.prog) (fun _ => [5]) (fnOf Tryz.prog) Tryz.evO3 1 3 [.nilslice, .str u] [] = some ⟨.bool true, none, []⟩ := by
  have hG : fnOf Tryz.prog 3 = some Tryz.f3 := by kernel_rfl
  have c40 : ¬ (40 : Int) < u.length := by omega
  have c40' : ¬ 40 < u.length := by omega
  have hu2 : u.length ≤ 1000000000 := by omega
  have hsl : sliceK [] .nilslice = some [] := rfl
  have hB : briefK [] := by intro k hk; cases hk
  have hk0 : knE [] = 0 := rfl
  by_cases h2 : chkR u = 0
  · obtain ⟨Q, r, hQ, ha, hur, hQl, hev⟩ := evV_ok hk0 h2
    have hev1 : (evV [] u).1 = ratS (lawV r Q) := by rw [hev]
    have hev2 : (evV [] u).2 = 0 := by rw [hev]
    have hrp : ratP u = some r := by rw [hur, ratP_ratS]
    have hrk : ratsK [] = some Q := by rw [hQ, ratsK_kT]
    have hv : valOk Q r := by
      rw [hQ] at hB
      have := lineOk_of hB ha (by omega)
      exact ⟨this.1, big_of_length (by rw [← hur]; exact hu), ha, this.2.1⟩
    simp [callFn, hG, Tryz.f3, Tryz.evO3, c40, c40', execC_loop, iter, hsl, hB, hu, hk0, h2, hev1, hev2, hrp, hrk, hv, pureO, Tryz.rgF12, hu2]
  · have hev : evV [] u = ([], chkR u) := by unfold evV; rw [if_neg (by rw [hk0]; simp), if_pos h2]
    have hc2 : chkR u = 2 := (chkR_zero u).resolve_left h2
    have hb2 : (chkR u == 0) = false := by rw [hc2]; rfl
    have hev1 : (evV [] u).1 = [] := by rw [hev]
    have hev2 : (evV [] u).2 = 2 := by rw [hev, hc2]
    simp [callFn, hG, Tryz.f3, Tryz.evO3, c40, c40', execC_loop, iter, hsl, hB, hu, hk0, hb2, hev1, hev2, pureO, Tryz.rgF12, hu2]
theorem Tryz.aEventValues (L : List (List UInt8 × List UInt8)) (u : List UInt8) : ACallsTo Tryz.prog 3 [.slice 0 0 L.length none, .str u] [.cells false 2 (kC L)] (.bool true) [.cells false 2 (kC L)] := by
  by_cases hc : (6 < L.length ∧ (L.length < 19 ∨ 22 < L.length)) ∨ 40 < u.length
  · have := (callFn_sound Tryz.mixed (tyOf_ok _) Tryz.evO3_ok (fnOf_ok _) (Tryz.ev_early _ L.length u [.cells false 2 (kC L)] (.inl rfl) hc)).1
    simpa [CallRes.mem] using this
  · have := (callFn_sound Tryz.mixed (tyOf_ok _) Tryz.evO3_ok (fnOf_ok _) (Tryz.ev_main L u (by omega) (by omega) (by omega))).1
    simpa [CallRes.mem] using this
theorem Tryz.aEventValuesNil (u : List UInt8) : ACallsTo Tryz.prog 3 [.nilslice, .str u] [] (.bool true) [] := by
  by_cases hc : 40 < u.length
  · have := (callFn_sound Tryz.mixed (tyOf_ok _) Tryz.evO3_ok (fnOf_ok _) (Tryz.ev_early _ 0 u [] (.inr ⟨rfl, rfl⟩) (.inr hc))).1
    simpa [CallRes.mem] using this
  · have := (callFn_sound Tryz.mixed (tyOf_ok _) Tryz.evO3_ok (fnOf_ok _) (Tryz.ev_nil u (by omega))).1
    simpa [CallRes.mem] using this
end Go.Proofs
