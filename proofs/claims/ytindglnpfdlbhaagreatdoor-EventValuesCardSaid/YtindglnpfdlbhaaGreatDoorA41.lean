/- Part A41 of a proof: see its last part, YtindglnpfdlbhaaGreatDoorA51.lean. -/
import Derived.Test.YtindglnpfdlbhaaGreatDoorA40
set_option linter.all false
namespace Go.Proofs
open Go.Eng
def knotsA : List AV → Option (List (List UInt8 × List UInt8))
  | [] => some []
  | .str a :: .str b :: l => match knotsA l with
    | some r => some ((a, b) :: r)
    | none => none
  | _ => none
theorem knotsA_kC : ∀ L : List (List UInt8 × List UInt8), knotsA (kC L) = some L
  | [] => rfl
  | k :: L => by simp [kC, knotsA, knotsA_kC L]
theorem knotsA_some : ∀ {cs : List AV} {L : List (List UInt8 × List UInt8)}, knotsA cs = some L → cs = kC L
  | [], L, h => by cases h; rfl
  | [v], L, h => by cases v <;> cases h
  | v :: u :: l, L, h => by
    unfold knotsA at h
    split at h
    · rename_i h1; cases h1
    · rename_i a b l' h1
      cases h1
      split at h
      · rename_i r hr
        cases h
        rw [kC, knotsA_some hr]
      · cases h
    · cases h
def RowK (M : Mem) (x : AV) (L : List (List UInt8 × List UInt8)) : Prop := ∃ b o cs, x = .slice b 0 L.length none ∧ M[b]? = some (.cells o 2 cs) ∧ cs.take (2 * L.length) = kC L
def sliceK (M : Mem) : AV → Option (List (List UInt8 × List UInt8))
  | .slice b 0 n none => match M[b]? with
    | some (.cells _ 2 cs) => if 2 * n ≤ cs.length then knotsA (cs.take (2 * n)) else none
    | _ => none
  | .nilslice => some []
  | _ => none
theorem sliceK_some {M : Mem} {x : AV} {L : List (List UInt8 × List UInt8)} (h : sliceK M x = some L) : RowK M x L ∨ (x = .nilslice ∧ L = []) := by
  unfold sliceK at h
  split at h
  · rename_i b n
    split at h
    · rename_i o cs hb
      split at h
      · rename_i hn
        have hA := knotsA_some h
        have hl : n = L.length := by
          have := congrArg List.length hA
          rw [kC_length, List.length_take] at this
          omega
        subst hl
        exact .inl ⟨b, o, cs, rfl, hb, hA⟩
      · cases h
    · cases h
  · cases h; exact .inr ⟨rfl, rfl⟩
  · cases h
theorem sliceK_at {M : Mem} {b n : Nat} {ow : Bool} {cs : List AV} {L : List (List UInt8 × List UInt8)} (h : M[b]? = some (.cells ow 2 cs)) (hn : 2 * n ≤ cs.length) (hA : cs.take (2 * n) = kC L) : sliceK M (.slice b 0 n none) = some L := by
  simp only [sliceK, h]
  rw [if_pos hn, hA, knotsA_kC]
theorem kC_unders (n : Nat) : ∀ L : List (List UInt8 × List UInt8), AV.unders n (kC L) = true
  | [] => by simp [kC, AV.unders]
  | k :: L => by simp [kC, AV.unders, AV.under, kC_unders n L]
theorem kC_closed : ∀ {L : List (List UInt8 × List UInt8)} {i : Nat} {v : AV} (f : Nat → Option Nat), (kC L)[i]? = some v → v.ren f = v := by
  intro L i v f h
  have h1 := kC_ren f L
  rw [rens_eq_map] at h1
  have : ((kC L).map (AV.ren f))[i]? = (kC L)[i]? := by rw [h1]
  rw [List.getElem?_map, h] at this
  simpa using this
theorem rowK_sub {ks : List Nat} {M : Mem} {b : Nat} {o : Bool} {cs : List AV} {L : List (List UInt8 × List UInt8)} (h : M[b]? = some (.cells o 2 cs)) (ht : cs.take (2 * L.length) = kC L) : SubSlot ks M b (.cells false 2 (kC L)) := by
  refine ⟨kC_unders _ _, o, cs, h, fun j v hv => ?_⟩
  have hj : j < 2 * L.length := by
    have := (List.getElem?_eq_some_iff.1 hv).1
    rw [kC_length] at this; exact this
  have : cs[j]? = (kC L)[j]? := by rw [← ht, List.getElem?_take_of_lt hj]
  rw [this, hv, kC_closed _ hv]
theorem rows1K {P : Program} {f : FuncId} {L : List (List UInt8 × List UInt8)} {M : Mem} {x : AV} {rest : List AV} {v : AV} (hr : AV.closeds rest = true) (hv : v.closed = true)
    (h : ACallsTo P f (.slice 0 0 L.length none :: rest) [.cells false 2 (kC L)] v [.cells false 2 (kC L)]) (hx : RowK M x L) : ACallsTo P f (x :: rest) M v M := by
  obtain ⟨b, o, cs, rfl, hb, ht⟩ := hx
  have hlt := (List.getElem?_eq_some_iff.1 hb).1
  have hu : AV.unders [b].length (.slice 0 0 L.length none :: rest) = true := by
    show (decide (0 < 1) && AV.unders 1 rest) = true
    rw [closeds_unders hr]; rfl
  have := ACallsTo.frame (M := M) (new := []) [b] (m := [.cells false 2 (kC L)]) rfl (by simpa using hlt) hu (fun i s hs => by
    cases i with
    | zero => simp at hs; subst hs; exact rowK_sub hb ht
    | succ i => simp at hs) rfl (by simpa using h)
  have hvr : v.ren (back [b] M.length) = v := by
    have := rens_closeds (vs := [v]) (ρ := back [b] M.length) (by simp [AV.closeds, hv])
    simpa [AV.rens] using this
  simpa [AV.rens, AV.ren, back, rens_closeds hr, hvr] using this
end Go.Proofs
namespace Go.Proofs
open Go.Eng
def ratsK : List (List UInt8 × List UInt8) → Option (List (Rat × Rat))
  | [] => some []
  | k :: l => match ratP k.1, ratP k.2, ratsK l with
    | some a, some b, some r => some ((a, b) :: r)
    | _, _, _ => none
theorem ratsK_kT : ∀ Q : List (Rat × Rat), ratsK (kT Q) = some Q
  | [] => rfl
  | q :: Q => by
    have := ratsK_kT Q
    simp only [kT, List.map_cons, ratsK, ratP_ratS] at this ⊢
    rw [this]
theorem ratsK_some : ∀ {L : List (List UInt8 × List UInt8)} {Q : List (Rat × Rat)}, ratsK L = some Q → L = kT Q
  | [], Q, h => by cases h; rfl
  | k :: L, Q, h => by
    unfold ratsK at h
    split at h
    · rename_i a b r h1 h2 h3
      cases h
      have e := ratsK_some h3
      obtain ⟨k1, k2⟩ := k
      simp only at h1 h2
      rw [e, ratP_some h1, ratP_some h2]
      rfl
    · cases h
theorem Tryz.aEPassedNil (u : List UInt8) (M : Mem) : ACallsTo Tryz.prog 122 [.nilslice, .str u] M (.int .i64 0) M := by
  have hG : fnOf Tryz.prog 122 = some Tryz.f122 := by kernel_rfl
  refine Tryz.run (noOracle_ok _) (lv := fun _ => [5, 10]) (K := 1) rfl rfl ?_ M
  simp [callFn, hG, Tryz.f122, execC_loop, iter]
theorem Tryz.aELineNil (n : Int) (M : Mem) : ACallsTo Tryz.prog 90 [.nilslice, .int .i64 n] M (.tuple [.str [48], .str [48]]) M := by
  have hG : fnOf Tryz.prog 90 = some Tryz.f90 := by kernel_rfl
  refine Tryz.run (noOracle_ok _) (lv := fun _ => []) (K := 1) rfl rfl ?_ M
  simp [callFn, hG, Tryz.f90]
theorem Tryz.aECheckKnotsNil (M : Mem) : ACallsTo Tryz.prog 44 [.nilslice] M (.int .i64 0) M := by
  have hG : fnOf Tryz.prog 44 = some Tryz.f44 := by kernel_rfl
  refine Tryz.run (noOracle_ok _) (lv := fun _ => [10]) (K := 1) rfl rfl ?_ M
  simp [callFn, hG, Tryz.f44, execC_loop, iter]
def lineOk (Q : List (Rat × Rat)) : Prop := bigK 40 Q ∧ Q.length ≤ 1000000000 ∧ ∀ i a b, Q[i]? = some a → Q[i + 1]? = some b → b.1 - a.1 ≠ 0
theorem fineK_of {Q : List (Rat × Rat)} (h : bigK 40 Q) : fineK Q := fun q hq => ⟨fine_of_big (by decide) (by decide) (h q hq).1, fine_of_big (by decide) (by decide) (h q hq).2⟩
open Classical in
noncomputable def Tryz.evO1 : Oracle := fun c args M => match c, args with
  | .fn 122, [x, .str u] => match sliceK M x with
    | some L => match ratsK L, ratP u with
      | some Q, some r => if lineOk Q ∧ fine r then some ⟨.int .i64 (passedV Q r), none, []⟩ else none
      | _, _ => none
    | none => none
  | .fn 90, [x, .int .i64 n] => match sliceK M x with
    | some L => match ratsK L with
      | some Q => if lineOk Q ∧ 0 ≤ n ∧ n.toNat ≤ Q.length then some ⟨.tuple [.str (ratS (lineV Q n.toNat).1), .str (ratS (lineV Q n.toNat).2)], none, []⟩ else none
      | _ => none
    | none => none
  | c, args => pureO Tryz.ratF4 c args M
theorem Tryz.evO1_ok : OracleOk Tryz.prog Tryz.evO1 := by
  refine oracleOk_of fun c args M r h => ?_
  unfold Tryz.evO1 at h
  split at h
  · split at h
    · rename_i L hL
      split at h
      · rename_i Q r' hQ hr
        split at h
        · rename_i hc
          cases h
          refine soundAt_call ?_
          rw [List.append_nil, ratP_some hr]
          have hLQ := ratsK_some hQ
          rcases sliceK_some hL with hx | ⟨rfl, rfl⟩
          · subst hLQ
            have := Tryz.aEPassed Q r' (fineK_of hc.1.1) hc.2 hc.1.2.1
            rw [← kT_length] at this
            exact rows1K (rest := [.str (ratS r')]) rfl rfl this hx
          · cases Q with
            | nil => exact Tryz.aEPassedNil _ M
            | cons q Q => cases hLQ
        · cases h
      · cases h
    · cases h
  · split at h
    · rename_i L hL
      split at h
      · rename_i Q hQ
        split at h
        · rename_i hc
          obtain ⟨hc, h0, hn⟩ := hc
          cases h
          refine soundAt_call ?_
          rw [List.append_nil]
          have hLQ := ratsK_some hQ
          rcases sliceK_some hL with hx | ⟨rfl, rfl⟩
          · subst hLQ
            have := Tryz.aELine Q _ hn hc.1 hc.2.1 hc.2.2
            rw [← kT_length, Int.toNat_of_nonneg h0] at this
            exact rows1K (rest := [.int .i64 _]) rfl rfl this hx
          · cases Q with
            | nil => exact Tryz.aELineNil _ M
            | cons q Q => cases hLQ
        · cases h
      · cases h
    · cases h
  · exact soundAt_of Tryz.rat4_ok h
theorem lineV_big {Q : List (Rat × Rat)} {n : Nat} (h : lineOk Q) (hn : n ≤ Q.length) : big 700 (lineV Q n).1 ∧ big 700 (lineV Q n).2 := by
  obtain ⟨h1, h2, h3⟩ := h
  have get : ∀ i, i < Q.length → ∃ q, Q[i]? = some q ∧ big 40 q.1 ∧ big 40 q.2 := fun i hi => ⟨Q[i], List.getElem?_eq_getElem hi, h1 _ (List.getElem_mem hi)⟩
  have z : big 700 0 := big_zero (by decide)
  unfold lineV
  by_cases h0 : Q = []
  · rw [if_pos h0]; exact ⟨z, z⟩
  · have hp : 0 < Q.length := List.length_pos_iff.2 h0
    rw [if_neg h0]
    by_cases hz : n = 0
    · rw [if_pos hz]
      obtain ⟨q, hq, q1, q2⟩ := get 0 hp
      rw [getD_of hq]; exact ⟨q2.mono (by decide), z⟩
    · rw [if_neg hz]
      obtain ⟨m, rfl⟩ : ∃ m, n = m + 1 := ⟨n - 1, by omega⟩
      obtain ⟨a, ha, a1, a2⟩ := get m (by omega)
      rw [show m + 1 - 1 = m by omega, getD_of ha]
      by_cases hE : m + 1 = Q.length
      · rw [if_pos hE]; exact ⟨a2.mono (by decide), z⟩
      · rw [if_neg hE]
        obtain ⟨b, hb, b1, b2⟩ := get (m + 1) (by omega)
        rw [getD_of hb]
        unfold slopeV
        have d3 := big_div (big_sub b2 a2) (big_sub b1 a1)
        have d4 := big_mul d3 (a1.mono (by omega))
        have d5 := big_sub (a2.mono (by omega)) d4
        exact ⟨d5.mono (by decide), d3.mono (by decide)⟩
set_option maxHeartbeats 1600000 in
theorem Tryz.aEValueM (Q : List (Rat × Rat)) (u : Rat) (h : lineOk Q) (hu : big 40 u) (M : Mem) (x : AV) (hx : sliceK M x = some (kT Q)) :
    ACallsTo Tryz.prog 46 [x, .str (ratS u)] M (.str (ratS (valueV Q u))) M := by
  have hG : fnOf Tryz.prog 46 = some Tryz.f46 := by kernel_rfl
  have hn := passedV_le Q u
  obtain ⟨l1, l2⟩ := lineV_big h hn
  have m1 := big_mul l2 (hu.mono (by omega))
  obtain ⟨f1, f2⟩ : fine (lineV Q (passedV Q u)).1 := fine_of_big (by decide) (by decide) l1
  obtain ⟨g1, g2⟩ : fine (lineV Q (passedV Q u)).2 := fine_of_big (by decide) (by decide) l2
  obtain ⟨i1, i2⟩ : fine ((lineV Q (passedV Q u)).2 * u) := fine_of_big (by decide) (by decide) m1
  obtain ⟨j1, j2⟩ : fine u := fine_of_big (by decide) (by decide) hu
  have hfu : fine u := ⟨j1, j2⟩
  have hp : (0 : Int) ≤ (passedV Q u : Int) := by omega
  obtain ⟨n, hnn⟩ : ∃ n, n = passedV Q u := ⟨_, rfl⟩
  unfold valueV
  rw [← hnn] at f1 f2 g1 g2 i1 i2 hn hp ⊢
  obtain ⟨c, hc⟩ : ∃ c, c = (lineV Q n).1 := ⟨_, rfl⟩
  obtain ⟨s, hs⟩ : ∃ c, c = (lineV Q n).2 := ⟨_, rfl⟩
  rw [← hc] at f1 f2 ⊢
  rw [← hs] at g1 g2 i1 i2 ⊢
  have hr : callFn (tyOf Tryz.prog) (fun _ => []) (fnOf Tryz.prog) Tryz.evO1 1 46 [x, .str (ratS u)] M = some ⟨.str (ratS (c + s * u)), none, []⟩ := by
    simp [callFn, hG, Tryz.f46, Tryz.evO1, hx, ratsK_kT, ratP_ratS, h, hfu, ← hnn, hn, hp, ← hc, ← hs, pureO, Tryz.ratF4, Tryz.ratF3, f1, f2, g1, g2, i1, i2, j1, j2]
  have := (callFn_sound Tryz.mixed (tyOf_ok _) Tryz.evO1_ok (fnOf_ok _) hr).1
  simpa [CallRes.mem] using this
end Go.Proofs
namespace Go.Proofs
open Go.Eng
theorem ckE_zero : ∀ {L : List (List UInt8 × List UInt8)} {p : Option Rat}, ckE p L = 0 → ∃ Q, L = kT Q ∧ asc Q ∧ ∀ r, p = some r → ∀ q ∈ Q.head?, r < q.1
  | [], p, _ => ⟨[], rfl, trivial, by simp⟩
  | k :: l, p, h => by
    rw [ckE] at h
    split at h
    · rename_i hc
      obtain ⟨a, ha, has, _⟩ := chkR_rat hc.1
      obtain ⟨b, hb, hbs, _⟩ := chkR_rat hc.2
      rw [ha] at h
      simp only [Option.getD_some] at h
      split at h
      · rename_i hr
        obtain ⟨Q, hQ, hasc, hhead⟩ := ckE_zero h
        refine ⟨(a, b) :: Q, ?_, ?_, ?_⟩
        · obtain ⟨k1, k2⟩ := k
          simp only at has hbs
          rw [hQ, has, hbs]; rfl
        · cases Q with
          | nil => trivial
          | cons c Q => exact ⟨hhead a rfl c (by simp), hasc⟩
        · rintro r rfl q hq
          simp at hq; subst hq
          simpa [risesB] using hr
      · cases h
    · cases h
theorem asc_get : ∀ {Q : List (Rat × Rat)}, asc Q → ∀ i a b, Q[i]? = some a → Q[i + 1]? = some b → a.1 < b.1
  | [], _, i, a, b, ha, _ => by simp at ha
  | [q], _, i, a, b, _, hb => by simp at hb
  | q :: q2 :: Q, h, i, a, b, ha, hb => by
    cases i with
    | zero => simp at ha hb; subst ha hb; exact h.1
    | succ i => exact asc_get h.2 i a b (by simpa using ha) (by simpa using hb)
def briefK (L : List (List UInt8 × List UInt8)) : Prop := ∀ k ∈ L, k.1.length ≤ 40 ∧ k.2.length ≤ 40
theorem brief_kT {Q : List (Rat × Rat)} (h : briefK (kT Q)) : ∀ q ∈ Q, (ratS q.1).length ≤ 40 ∧ (ratS q.2).length ≤ 40 := by
  intro q hq
  exact h (ratS q.1, ratS q.2) (List.mem_map.2 ⟨q, hq, rfl⟩)
theorem lineOk_of {Q : List (Rat × Rat)} (h : briefK (kT Q)) (ha : asc Q) (hl : Q.length ≤ 1000000000) : lineOk Q := by
  refine ⟨fun q hq => ?_, hl, fun i a b h1 h2 => ?_⟩
  · obtain ⟨b1, b2⟩ := brief_kT h q hq
    exact ⟨big_of_length b1, big_of_length b2⟩
  · have := asc_get ha i a b h1 h2
    grind
def sml (v : Rat) : Prop := v.num.natAbs < 10 ^ 200 ∧ v.den < 10 ^ 200
theorem sml_of_length {v : Rat} (h : (ratS v).length ≤ 40) : sml v := by
  obtain ⟨h1, h2⟩ := small_of_length h
  exact ⟨Nat.lt_of_lt_of_le h1 (by decide), Nat.lt_of_lt_of_le h2 (by decide)⟩
theorem lawL_small {u : Rat} (hu : (ratS u).length ≤ 40) : ∀ {l : List (Rat × Rat)} {a : Rat × Rat}, asc (a :: l) → (∀ q ∈ a :: l, (ratS q.1).length ≤ 40 ∧ (ratS q.2).length ≤ 40) → sml (lawL u a l)
  | [], a, _, h => by
    simp only [lawL]
    exact sml_of_length (h a (by simp)).2
  | b :: l, a, ha, h => by
    simp only [lawL]
    obtain ⟨a1, a2⟩ := h a (by simp)
    obtain ⟨b1, b2⟩ := h b (by simp)
    split
    · exact segment_small hu a1 a2 b1 b2 ha.1
    · exact lawL_small hu ha.2 fun q hq => h q (by simp at hq ⊢; right; exact hq)
theorem lawV_small {u : Rat} {Q : List (Rat × Rat)} (hu : (ratS u).length ≤ 40) (ha : asc Q) (h : briefK (kT Q)) : sml (lawV u Q) := by
  have h' := brief_kT h
  cases Q with
  | nil => simp only [lawV]; exact ⟨by decide, by decide⟩
  | cons a l =>
    simp only [lawV]
    split
    · exact sml_of_length (h' a (by simp)).2
    · exact lawL_small hu ha h'
theorem chkR_small {v : Rat} (h : sml v) : chkR (ratS v) = 0 := by
  unfold chkR
  rw [ratP_ratS]
  exact if_pos ⟨natD_length_big (by decide) h.1, natD_length_big (by decide) h.2⟩
def evV (L : List (List UInt8 × List UInt8)) (u : List UInt8) : List UInt8 × Int :=
  if knE L ≠ 0 then ([], knE L) else if chkR u ≠ 0 then ([], chkR u) else (ratS (lawV ((ratP u).getD 0) ((ratsK L).getD [])), 0)
theorem evV_ok {L : List (List UInt8 × List UInt8)} {u : List UInt8} (h1 : knE L = 0) (h2 : chkR u = 0) : ∃ Q r, L = kT Q ∧ asc Q ∧ u = ratS r ∧ Q.length ≤ 20 ∧ evV L u = (ratS (lawV r Q), 0) := by
  have h0 := h1
  unfold knE at h1
  split at h1
  · cases h1
  · rename_i hl
    obtain ⟨Q, hQ, ha, _⟩ := ckE_zero h1
    obtain ⟨r, hr, hrs, _⟩ := chkR_rat h2
    refine ⟨Q, r, hQ, ha, hrs, by rw [hQ, kT_length] at hl; omega, ?_⟩
    unfold evV
    rw [if_neg (by rw [h0]; simp), if_neg (by rw [h2]; simp), hr, hQ, ratsK_kT]
    rfl
open Classical in
noncomputable def Tryz.evO2 : Oracle := fun c args M => match c, args with
  | .fn 44, [x] => match sliceK M x with
    | some L => if briefK L ∧ L.length ≤ 1000000000 then some ⟨.int .i64 (knE L), none, []⟩ else none
    | none => none
  | .fn 46, [x, .str u] => match sliceK M x with
    | some L => match ratsK L, ratP u with
      | some Q, some r => if lineOk Q ∧ big 40 r then some ⟨.str (ratS (valueV Q r)), none, []⟩ else none
      | _, _ => none
    | none => none
  | c, args => pureO Tryz.ratF4 c args M
theorem Tryz.evO2_ok : OracleOk Tryz.prog Tryz.evO2 := by
  refine oracleOk_of fun c args M r h => ?_
  unfold Tryz.evO2 at h
  split at h
  · split at h
    · rename_i L hL
      split at h
      · rename_i hc
        cases h
        refine soundAt_call ?_
        rw [List.append_nil]
        rcases sliceK_some hL with hx | ⟨rfl, rfl⟩
        · exact rows1K (rest := []) rfl rfl (Tryz.aECheckKnots L (fun k hk => by have := hc.1 k hk; omega) hc.2) hx
        · exact Tryz.aECheckKnotsNil M
      · cases h
    · cases h
  · split at h
    · rename_i L hL
      split at h
      · rename_i Q r' hQ hr
        split at h
        · rename_i hc
          cases h
          refine soundAt_call ?_
          rw [List.append_nil, ratP_some hr]
          exact Tryz.aEValueM Q r' hc.1 hc.2 M _ (by rw [hL, ratsK_some hQ])
        · cases h
      · cases h
    · cases h
  · exact soundAt_of Tryz.rat4_ok h
set_option maxHeartbeats 1600000 in
theorem Tryz.aEValue2 (L : List (List UInt8 × List UInt8)) (u : List UInt8) (hL : briefK L) (hl : L.length ≤ 1000000000) (hu : u.length ≤ 40) (M : Mem) (x : AV) (hx : sliceK M x = some L) :
    ACallsTo Tryz.prog 12 [x, .str u] M (.tuple [.str (evV L u).1, .int .i64 (evV L u).2]) M := by
  have hG : fnOf Tryz.prog 12 = some Tryz.f12 := by kernel_rfl
  have hu2 : u.length ≤ 1000000000 := by omega
  have hr : callFn (tyOf Tryz.prog) (fun _ => []) (fnOf Tryz.prog) Tryz.evO2 1 12 [x, .str u] M = some ⟨.tuple [.str (evV L u).1, .int .i64 (evV L u).2], none, []⟩ := by
    by_cases h1 : knE L = 0
    · by_cases h2 : chkR u = 0
      · obtain ⟨Q, r, hQ, ha, hur, hQl, hev⟩ := evV_ok h1 h2
        rw [hev]
        subst hQ hur
        have hok := lineOk_of hL ha (by omega)
        have hbr := big_of_length hu
        have hs := lawV_small hu ha hL
        have hck := chkR_small hs
        have hlen : (ratS (lawV r Q)).length ≤ 1000000000 := by
          have := big_length (k := 200) (by decide) hs
          omega
        rw [← valueV_law ha] at hck hlen ⊢
        simp [callFn, hG, Tryz.f12, Tryz.evO2, hx, hL, hl, h1, h2, hu2, ratsK_kT, ratP_ratS, hok, hbr, pureO, Tryz.ratF4, hck, hlen]
      · have hev : evV L u = ([], chkR u) := by unfold evV; rw [if_neg (by rw [h1]; simp), if_pos h2]
        rw [hev]
        simp [callFn, hG, Tryz.f12, Tryz.evO2, hx, hL, hl, h1, h2, hu2, pureO, Tryz.ratF4]
    · have hev : evV L u = ([], knE L) := by unfold evV; rw [if_pos h1]
      rw [hev]
      simp [callFn, hG, Tryz.f12, Tryz.evO2, hx, hL, hl, h1]
  have := (callFn_sound Tryz.mixed (tyOf_ok _) Tryz.evO2_ok (fnOf_ok _) hr).1
  simpa [CallRes.mem] using this
end Go.Proofs
