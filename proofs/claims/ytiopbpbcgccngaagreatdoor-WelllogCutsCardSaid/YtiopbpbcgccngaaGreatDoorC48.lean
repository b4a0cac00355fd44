/- Part C48 of a proof: see its last part, YtiopbpbcgccngaaGreatDoorC54.lean. -/
import Derived.Test.YtiopbpbcgccngaaGreatDoorC47
set_option linter.all false
namespace Go.Proofs
open Go.Eng
def mergeL (L : List Iv) : List Iv := mgL (mgV none L)
theorem mgV_some : ∀ (l : List Iv) (acc : List Iv) (z : Iv), ∃ acc' z', mgV (some (acc, z)) l = some (acc', z')
  | [], acc, z => ⟨acc, z, rfl⟩
  | x :: l, acc, z => by
    rw [mgV]
    split
    · exact mgV_some l _ _
    · exact mgV_some l _ _
theorem mgV_ne {L : List Iv} (h : L ≠ []) : ∃ acc z, mgV none L = some (acc, z) ∧ mergeL L = acc ++ [z] := by
  cases L with
  | nil => exact absurd rfl h
  | cons x L =>
    obtain ⟨acc, z, e⟩ := mgV_some L [] x
    have e' : mgV none (x :: L) = some (acc, z) := by rw [mgV]; exact e
    refine ⟨acc, z, e', ?_⟩
    unfold mergeL; rw [e']; rfl
theorem Tryz.aMmergeP (L : List Iv) (hl : L.length ≤ 1000000) (hne : L ≠ []) :
    ACallsTo Tryz.prog 52 [.slice 0 0 L.length none] [.cells false 3 (ivC L)] (.slice 1 0 (mergeL L).length none) [.cells false 3 (ivC L), .cells true 3 (ivC (mergeL L))] := by
  have hG : fnOf Tryz.prog 52 = some Tryz.f52 := by kernel_rfl
  obtain ⟨b, hb⟩ : ∃ b, loopsF Tryz.f52 = [b] := ⟨_, rfl⟩
  obtain ⟨F, hF⟩ := Tryz.merge_loop (O := noOracle) (K := L.length + 1) L hl (by omega) hb
  simp [loopsF, loopsC, Tryz.f52] at hb
  subst hb
  have hF1 := fun env0 d h => (hF env0 d h).1
  have hF2 := fun env0 d h => (hF env0 d h).2
  clear hF
  obtain ⟨acc, z, e1, e2⟩ := mgV_ne hne
  rw [e1] at hF1 hF2
  simp only [mgM, mgO, mgR_eq, ← e2] at hF1 hF2
  have hal : (mergeL L).length = acc.length + 1 := by rw [e2]; simp
  rw [← hal] at hF2
  obtain ⟨R, hR⟩ : ∃ R, R = mergeL L := ⟨_, rfl⟩
  rw [← hR] at hF1 hF2 ⊢
  have h : callFn (tyOf Tryz.prog) (fun _ => [3, 9]) (fnOf Tryz.prog) noOracle (L.length + 1) 52 [.slice 0 0 L.length none] [.cells false 3 (ivC L)] = some ⟨.slice 1 0 R.length none, none, [.cells true 3 (ivC R)]⟩ := by
    simp [callFn, hG, Tryz.f52, hF1, hF2, ivC_ren, ivC_refs]
  have := (callFn_sound Tryz.mixed (tyOf_ok _) (noOracle_ok _) (fnOf_ok _) h).1
  simpa [CallRes.mem] using this
theorem Tryz.aMmergeNil (M : Mem) : ACallsTo Tryz.prog 52 [.nilslice] M .nilslice M := by
  have hG : fnOf Tryz.prog 52 = some Tryz.f52 := by kernel_rfl
  refine Tryz.run (noOracle_ok _) (lv := fun _ => [3, 9]) (K := 1) rfl rfl ?_ M
  simp [callFn, hG, Tryz.f52, execC_loop, iter]
theorem Tryz.aMlmergeP (L : List Iv) (hl : L.length ≤ 1000000) (hne : L ≠ []) :
    ACallsTo Tryz.prog 23 [.slice 0 0 L.length none] [.cells false 3 (ivC L)] (.slice 1 0 (mergeL L).length none) [.cells false 3 (ivC L), .cells true 3 (ivC (mergeL L))] := by
  have hG : fnOf Tryz.prog 23 = some Tryz.f23 := by kernel_rfl
  obtain ⟨b, hb⟩ : ∃ b, loopsF Tryz.f23 = [b] := ⟨_, rfl⟩
  obtain ⟨F, hF⟩ := Tryz.lmerge_loop (O := noOracle) (K := L.length + 1) L hl (by omega) hb
  simp [loopsF, loopsC, Tryz.f23] at hb
  subst hb
  have hF1 := fun env0 d h => (hF env0 d h).1
  have hF2 := fun env0 d h => (hF env0 d h).2
  clear hF
  obtain ⟨acc, z, e1, e2⟩ := mgV_ne hne
  rw [e1] at hF1 hF2
  simp only [mgM, mgO, mgR_eq, ← e2] at hF1 hF2
  have hal : (mergeL L).length = acc.length + 1 := by rw [e2]; simp
  rw [← hal] at hF2
  obtain ⟨R, hR⟩ : ∃ R, R = mergeL L := ⟨_, rfl⟩
  rw [← hR] at hF1 hF2 ⊢
  have h : callFn (tyOf Tryz.prog) (fun _ => [3, 9]) (fnOf Tryz.prog) noOracle (L.length + 1) 23 [.slice 0 0 L.length none] [.cells false 3 (ivC L)] = some ⟨.slice 1 0 R.length none, none, [.cells true 3 (ivC R)]⟩ := by
    simp [callFn, hG, Tryz.f23, hF1, hF2, ivC_ren, ivC_refs]
  have := (callFn_sound Tryz.mixed (tyOf_ok _) (noOracle_ok _) (fnOf_ok _) h).1
  simpa [CallRes.mem] using this
theorem Tryz.aMlmergeNil (M : Mem) : ACallsTo Tryz.prog 23 [.nilslice] M .nilslice M := by
  have hG : fnOf Tryz.prog 23 = some Tryz.f23 := by kernel_rfl
  refine Tryz.run (noOracle_ok _) (lv := fun _ => [3, 9]) (K := 1) rfl rfl ?_ M
  simp [callFn, hG, Tryz.f23, execC_loop, iter]
end Go.Proofs
namespace Go.Proofs
open Go.Eng
theorem mgV_mgL : ∀ (l acc : List Iv) (z : Iv) (P : List Iv → Prop), P (acc ++ z :: l) → (∀ (acc : List Iv) (z x : Iv) (l : List Iv), z.1 = x.1 → z.2.2 = x.2.1 → P (acc ++ z :: x :: l) → P (acc ++ (z.1, z.2.1, x.2.2) :: l)) → P (mgL (mgV (some (acc, z)) l))
  | [], acc, z, P, h, _ => h
  | x :: l, acc, z, P, h, hs => by
    rw [mgV]
    split
    · rename_i hc
      exact mgV_mgL l acc _ P (hs acc z x l hc.1 hc.2 h) hs
    · refine mgV_mgL l (acc ++ [z]) x P ?_ hs
      rw [List.append_assoc]; exact h
theorem mergeL_ind {P : List Iv → Prop} (hs : ∀ (acc : List Iv) (z x : Iv) (l : List Iv), z.1 = x.1 → z.2.2 = x.2.1 → P (acc ++ z :: x :: l) → P (acc ++ (z.1, z.2.1, x.2.2) :: l)) {L : List Iv} (h : P L) : P (mgL (mgV none L)) := by
  cases L with
  | nil => exact h
  | cons x L =>
    rw [mgV]
    exact mgV_mgL L [] x P h hs
theorem logE_app : ∀ (acc : List Iv) (p : Option Rat) (r r' : List Iv), (∀ p', logE p' r = 0 → logE p' r' = 0) → logE p (acc ++ r) = 0 → logE p (acc ++ r') = 0
  | [], p, r, r', h, h1 => h p h1
  | y :: acc, p, r, r', h, h1 => by
    rw [List.cons_append, logE] at h1 ⊢
    split at h1
    · rename_i h0
      rw [if_pos h0]
      exact logE_app acc _ r r' h h1
    · rename_i h0; exact absurd h1 h0
theorem ivE_zero {p : Option Rat} {x : Iv} (h : ivE p x = 0) : ¬ (x.1 ≠ [] ∧ isNameB x.1 = false) ∧ chkR x.2.1 = 0 ∧ chkR x.2.2 = 0 ∧ ¬ sgnR ((ratP x.2.1).getD 0) < 0 ∧ (ratP x.2.1).getD 0 < (ratP x.2.2).getD 0 ∧ aheadB p ((ratP x.2.1).getD 0) = false := by
  unfold ivE at h
  split at h
  · cases h
  · rename_i h1
    split at h
    · rename_i h2
      split at h
      · cases h
      · rename_i h3
        split at h
        · cases h
        · rename_i h4
          refine ⟨h1, h2.1, h2.2, h3, ?_, ?_⟩
          · exact Rat.not_le.1 fun e => h4 (.inl e)
          · cases hb : aheadB p ((ratP x.2.1).getD 0) with
            | false => rfl
            | true => exact absurd (Or.inr hb) h4
    · cases h
theorem ivE_mk {p : Option Rat} {x : Iv} (h1 : ¬ (x.1 ≠ [] ∧ isNameB x.1 = false)) (h2 : chkR x.2.1 = 0) (h3 : chkR x.2.2 = 0) (h4 : ¬ sgnR ((ratP x.2.1).getD 0) < 0) (h5 : (ratP x.2.1).getD 0 < (ratP x.2.2).getD 0) (h6 : aheadB p ((ratP x.2.1).getD 0) = false) : ivE p x = 0 := by
  unfold ivE
  rw [if_neg h1, if_pos ⟨h2, h3⟩, if_neg h4, if_neg]
  rintro (e | e)
  · exact absurd h5 (Rat.not_lt.2 e)
  · rw [h6] at e; cases e
theorem logE_join (p : Option Rat) (z x : Iv) (l : List Iv) (h2 : z.2.2 = x.2.1) (h : logE p (z :: x :: l) = 0) : logE p ((z.1, z.2.1, x.2.2) :: l) = 0 := by
  rw [logE] at h
  split at h
  · rename_i hz
    rw [logE] at h
    split at h
    · rename_i hx
      obtain ⟨a1, a2, a3, a4, a5, a6⟩ := ivE_zero hz
      obtain ⟨b1, b2, b3, b4, b5, b6⟩ := ivE_zero hx
      rw [← h2] at b5
      have h0 : ivE p (z.1, z.2.1, x.2.2) = 0 := ivE_mk a1 a2 b3 a4 (by show (ratP z.2.1).getD 0 < (ratP x.2.2).getD 0; grind) a6
      rw [logE, if_pos h0]
      exact h
    · rename_i hx; exact absurd h hx
  · rename_i hz; exact absurd h hz
theorem mergeL_logE {L : List Iv} {p : Option Rat} (h : logE p L = 0) : logE p (mgL (mgV none L)) = 0 :=
  mergeL_ind (P := fun L => logE p L = 0) (fun acc z x l _ e2 h => logE_app acc p _ _ (fun p' h' => logE_join p' z x l e2 h') h) h
theorem mergeL_len (L : List Iv) : (mgL (mgV none L)).length ≤ L.length :=
  mergeL_ind (P := fun R => R.length ≤ L.length) (fun acc z x l _ _ h => by simp at h ⊢; omega) (Nat.le_refl _)
theorem mergeL_short {L : List Iv} (h : shortIv L) : shortIv (mgL (mgV none L)) :=
  mergeL_ind (P := shortIv) (fun acc z x l _ _ h y hy => by
    simp only [List.mem_append, List.mem_cons] at hy
    rcases hy with hy | rfl | hy
    · exact h y (by simp [hy])
    · obtain ⟨a1, a2, _⟩ := h z (by simp)
      obtain ⟨_, _, b3⟩ := h x (by simp)
      exact ⟨a1, a2, b3⟩
    · exact h y (by simp [hy])) h
theorem mergeL_logR {L : List Iv} (h : logR L = 0) : logR (mgL (mgV none L)) = 0 := by
  unfold logR at h ⊢
  have hl := mergeL_len L
  split at h
  · cases h
  · rw [if_neg (by omega)]; exact mergeL_logE h
def njL : List Iv → Prop
  | [] => True
  | [_] => True
  | x :: y :: l => ¬ (x.1 = y.1 ∧ x.2.2 = y.2.1) ∧ njL (y :: l)
theorem mgV_nj : ∀ (l acc : List Iv) (z : Iv), njL (z :: l) → mgL (mgV (some (acc, z)) l) = acc ++ z :: l
  | [], acc, z, _ => rfl
  | x :: l, acc, z, h => by
    rw [njL] at h
    rw [mgV, if_neg h.1, mgV_nj l _ _ h.2, List.append_assoc]
    rfl
theorem nj_swap : ∀ (acc : List Iv) (z z' : Iv), z.1 = z'.1 → z.2.1 = z'.2.1 → njL (acc ++ [z]) → njL (acc ++ [z'])
  | [], _, _, _, _, _ => by simp [njL]
  | [y], z, z', h1, h2, h => by
    simp only [List.cons_append, List.nil_append, njL] at h ⊢
    rw [← h1, ← h2]; exact h
  | y :: w :: acc, z, z', h1, h2, h => by
    simp only [List.cons_append, njL] at h ⊢
    exact ⟨h.1, nj_swap (w :: acc) z z' h1 h2 h.2⟩
theorem nj_add : ∀ (acc : List Iv) (z x : Iv), ¬ (z.1 = x.1 ∧ z.2.2 = x.2.1) → njL (acc ++ [z]) → njL (acc ++ [z] ++ [x])
  | [], z, x, h, _ => by simp only [List.nil_append, List.cons_append, njL]; exact ⟨h, trivial⟩
  | [y], z, x, h1, h => by
    simp only [List.cons_append, List.nil_append, njL] at h ⊢
    exact ⟨h.1, h1, trivial⟩
  | y :: w :: acc, z, x, h1, h => by
    simp only [List.cons_append, njL] at h ⊢
    exact ⟨h.1, nj_add (w :: acc) z x h1 h.2⟩
theorem mgV_isNj : ∀ (l acc : List Iv) (z : Iv), njL (acc ++ [z]) → njL (mgL (mgV (some (acc, z)) l))
  | [], acc, z, h => h
  | x :: l, acc, z, h => by
    rw [mgV]
    split
    · exact mgV_isNj l _ _ (nj_swap acc z _ rfl rfl h)
    · rename_i hc
      exact mgV_isNj l _ _ (nj_add acc z x hc h)
theorem mergeL_twice (L : List Iv) : mgL (mgV none (mgL (mgV none L))) = mgL (mgV none L) := by
  have h : njL (mgL (mgV none L)) := by
    cases L with
    | nil => trivial
    | cons x L => rw [mgV]; exact mgV_isNj L [] x (by simp [njL])
  cases hR : mgL (mgV none L) with
  | nil => rfl
  | cons y R =>
    rw [hR] at h
    rw [mgV, mgV_nj R [] y h]; rfl
end Go.Proofs
namespace Go.Proofs
open Go.Eng
def cutI (a b : Rat) (x : Iv) : Option Iv :=
  if (if (ratP x.2.1).getD 0 < a then a else (ratP x.2.1).getD 0) < (if b < (ratP x.2.2).getD 0 then b else (ratP x.2.2).getD 0) then some (x.1, ratS (if (ratP x.2.1).getD 0 < a then a else (ratP x.2.1).getD 0), ratS (if b < (ratP x.2.2).getD 0 then b else (ratP x.2.2).getD 0)) else none
def cutL (a b : Rat) (L : List Iv) : List Iv := L.filterMap (cutI a b)
noncomputable def Tryz.w25O : Oracle := fun c args M => match c, args with
  | .fn 25, [.str s, .str t] => match ratP s, ratP t with
    | some a, some b => if (natD a.num.natAbs).length ≤ 40000 ∧ (natD a.den).length ≤ 40000 ∧ (natD b.num.natAbs).length ≤ 40000 ∧ (natD b.den).length ≤ 40000 then some ⟨.str (ratS (if a < b then b else a)), none, []⟩ else none
    | _, _ => none
  | .fn 26, [.str s, .str t] => match ratP s, ratP t with
    | some a, some b => if (natD a.num.natAbs).length ≤ 40000 ∧ (natD a.den).length ≤ 40000 ∧ (natD b.num.natAbs).length ≤ 40000 ∧ (natD b.den).length ≤ 40000 then some ⟨.str (ratS (if b < a then b else a)), none, []⟩ else none
    | _, _ => none
  | c, args => Tryz.w6O c args M
theorem Tryz.w25_ok : OracleOk Tryz.prog Tryz.w25O := by
  refine oracleOk_of fun c args M r h => ?_
  unfold Tryz.w25O at h
  split at h
  · split at h
    · rename_i a b ha hb
      split at h
      · rename_i hc
        cases h
        refine soundAt_call ?_
        rw [List.append_nil, ratP_some ha, ratP_some hb]
        exact Tryz.aMaxR a b ⟨hc.1, hc.2.1⟩ ⟨hc.2.2.1, hc.2.2.2⟩ M
      · cases h
    · cases h
  · split at h
    · rename_i a b ha hb
      split at h
      · rename_i hc
        cases h
        refine soundAt_call ?_
        rw [List.append_nil, ratP_some ha, ratP_some hb]
        exact Tryz.aMinR a b ⟨hc.1, hc.2.1⟩ ⟨hc.2.2.1, hc.2.2.2⟩ M
      · cases h
    · cases h
  · exact soundAt_of Tryz.w6_ok h
def fineD2 (d : Rat) : Prop := (natD d.num.natAbs).length ≤ 200 ∧ (natD d.den).length ≤ 200
def ctM (L : List Iv) : List Iv → Mem
  | [] => [.cells false 3 (ivC L)]
  | a :: l => [.cells false 3 (ivC L), .cells true 3 (ivC (a :: l))]
def ctO (b : Nat) : List Iv → AV
  | [] => .nilslice
  | _ :: l => .slice b 0 (l.length + 1) none
set_option maxHeartbeats 6400000 in
theorem Tryz.cut_loop {O : Oracle} {K : Nat} (hmax : ∀ args M, O (.fn 25) args M = Tryz.w25O (.fn 25) args M) (hmin : ∀ args M, O (.fn 26) args M = Tryz.w25O (.fn 26) args M) (hcmp : ∀ args M, O (.fn 24) args M = Tryz.w25O (.fn 24) args M)
    (L : List Iv) (hL : ∀ x ∈ L, rightIv x) (qs qt : Rat) (hqs : fineD2 qs) (hqt : fineD2 qt) (hl : L.length ≤ 1000000) (hK : L.length < K) {b : Code} (hb : loopsF Tryz.f21 = [b]) :
    ∃ F : Env → Bool → Env, ∀ env0 d, (Go.Eng.look env0 1 = .str (ratS qs) ∧ Go.Eng.look env0 2 = .str (ratS qt) ∧ Go.Eng.look env0 9 = .nilslice ∧ Go.Eng.look env0 31 = .slice 0 0 L.length none ∧ Go.Eng.look env0 32 = .int .i64 L.length ∧ Go.Eng.look env0 33 = .int .i64 0) →
      execC (tyOf Tryz.prog) (fun _ => [9, 33]) O K 59 1 true (.loop b) ⟨env0, [.cells false 3 (ivC L)], d⟩ = some (.exit 1, ⟨F env0 d, ctM L (cutL qs qt L), d⟩) ∧
        (Go.Eng.look (F env0 d) 9 = ctO 1 (cutL qs qt L)) := by
  refine loop_rule rfl (fun env0 => Go.Eng.look env0 1 = .str (ratS qs) ∧ Go.Eng.look env0 2 = .str (ratS qt) ∧ Go.Eng.look env0 9 = .nilslice ∧ Go.Eng.look env0 31 = .slice 0 0 L.length none ∧ Go.Eng.look env0 32 = .int .i64 L.length ∧ Go.Eng.look env0 33 = .int .i64 0) (fun env0 env' => Go.Eng.look env' 9 = ctO 1 (cutL qs qt L)) ?_
  rintro env0 d ⟨h1, h2, h9, h31, h32, h33⟩
  simp [loopsF, loopsC, Tryz.f21] at hb
  have hn : normE [9, 33] (writesC b) env0 ((9, ctO 1 []) :: (33, .int .i64 ((0 : Nat) : Int)) :: env0) = normE [9, 33] (writesC b) env0 env0 := by simp [normE, h9, h33, ctO]
  rw [← hn]
  have kl : (ivC L).length = L.length * 3 := ivC_length L
  refine iter_ind (α := Nat × List Iv) (fun s => ⟨normE [9, 33] (writesC b) env0 ((9, ctO 1 s.2) :: (33, .int .i64 (s.1 : Int)) :: env0), ctM L s.2, d⟩) (fun s => L.length - s.1) (fun s => s.1 ≤ L.length ∧ s.2.length ≤ s.1 ∧ cutL qs qt L = s.2 ++ cutL qs qt (L.drop s.1)) (.exit 1) _ d _ (by simp) ?_ K (0, []) ⟨by simp, by simp, by rw [List.drop_zero]; rfl⟩ (by simp only; omega)
  rintro ⟨n, out⟩ ⟨hn1, hn3, he⟩
  simp only at hn1 hn3 he ⊢
  clear hn
  subst hb
  by_cases hlt : n < L.length
  · left
    obtain ⟨k, hk⟩ : ∃ k, L[n]? = some k := ⟨L[n], List.getElem?_eq_getElem hlt⟩
    obtain ⟨k1, _, _, _⟩ := ivC_at hk
    obtain ⟨a, z, hab⟩ := hL k (List.mem_of_getElem? hk)
    obtain ⟨e1, e2, ⟨a1, a2⟩, ⟨z1, z2⟩⟩ := ivN_some hab
    have hd : L.drop n = k :: L.drop (n + 1) := by
      rw [List.getElem?_eq_some_iff] at hk
      obtain ⟨h1, h2⟩ := hk
      rw [← h2]; exact List.drop_eq_getElem_cons h1
    rw [hd] at he
    have w1 : IntKind.i64.wrap ((n : Int) + 1) = ((n + 1 : Nat) : Int) := by rw [wrap_i64 (by omega) (by omega)]; omega
    have k5 : n * 3 + 3 ≤ (ivC L).length := by omega
    obtain ⟨u, f, t⟩ := k
    simp only at k1 e1 e2
    subst e1 e2
    obtain ⟨s1, s2⟩ := hqs
    obtain ⟨t1, t2⟩ := hqt
    have s1' : (natD qs.num.natAbs).length ≤ 40000 := by omega
    have s2' : (natD qs.den).length ≤ 40000 := by omega
    have t1' : (natD qt.num.natAbs).length ≤ 40000 := by omega
    have t2' : (natD qt.den).length ≤ 40000 := by omega
    obtain ⟨x, hx⟩ : ∃ x, x = if a < qs then qs else a := ⟨_, rfl⟩
    obtain ⟨y, hy⟩ : ∃ y, y = if qt < z then qt else z := ⟨_, rfl⟩
    have x1 : (natD x.num.natAbs).length ≤ 40000 := by rw [hx]; split <;> omega
    have x2 : (natD x.den).length ≤ 40000 := by rw [hx]; split <;> omega
    have y1 : (natD y.num.natAbs).length ≤ 40000 := by rw [hy]; split <;> omega
    have y2 : (natD y.den).length ≤ 40000 := by rw [hy]; split <;> omega
    have hci : cutI qs qt (u, ratS a, ratS z) = if x < y then some (u, ratS x, ratS y) else none := by
      unfold cutI; simp only [ratP_ratS, Option.getD_some, ← hx, ← hy]
    by_cases hxy : x < y
    · have c1 := cmpQ_lt.2 hxy
      have hcl : cutL qs qt ((u, ratS a, ratS z) :: L.drop (n + 1)) = (u, ratS x, ratS y) :: cutL qs qt (L.drop (n + 1)) := by
        unfold cutL; rw [List.filterMap_cons, hci, if_pos hxy]
      rw [hcl] at he
      refine ⟨(n + 1, out ++ [(u, ratS x, ratS y)]), ?_⟩
      refine exists_and_fin (show (n + 1 ≤ L.length ∧ (out ++ [(u, ratS x, ratS y)]).length ≤ n + 1 ∧ cutL qs qt L = (out ++ [(u, ratS x, ratS y)]) ++ cutL qs qt (L.drop (n + 1))) ∧ L.length - (n + 1) < L.length - n from ⟨⟨by omega, by simp; omega, by rw [he, List.append_assoc]; rfl⟩, by omega⟩) ?_
      clear he hci hcl
      cases out with
      | nil =>
        simp [h1, h2, h31, h32, hlt, k1, k5, hmax, hmin, hcmp, Tryz.w25O, Tryz.w6O, pureO, Tryz.w5F, Tryz.ratF4, Tryz.ratF3, ratP_ratS, ← hx, ← hy, a1, a2, z1, z2, s1', s2', t1', t2', x1, x2, y1, y2, c1, w1, ivC, ivC_refs, ivC_ren, ctM, ctO, Nat.testBit]
      | cons c out =>
        obtain ⟨m, hm⟩ : ∃ m, m = out.length := ⟨_, rfl⟩
        have hl1 : (ivC (c :: out)).length = (m + 1) * 3 := by rw [ivC_length, hm]; rfl
        have hl2 : (ivC (c :: out)).take ((m + 1) * 3) = ivC (c :: out) := List.take_of_length_le (by omega)
        simp only [List.length_cons] at hn3
        have b1 : (m + 1 + 1) * 48 ≤ 140737488355328 := by omega
        have b2 : m + 1 + 1 ≤ 140737488355328 := by omega
        have b3 : m ≤ 140737488355326 := by omega
        have hap : ∀ x, ivC (c :: (out ++ [x])) = ivC (c :: out) ++ [.str x.1, .str x.2.1, .str x.2.2] := fun x => by rw [← List.cons_append, ivC_append]; rfl
        have hlen : (out ++ [(u, ratS x, ratS y)]).length = m + 1 := by rw [hm]; simp
        obtain ⟨C, hC⟩ : ∃ C, C = ivC (c :: out) := ⟨_, rfl⟩
        have hC1 : ∀ f, AV.rens f C = C := fun f => by rw [hC]; exact ivC_ren f _
        have hC2 : ∀ n, AV.refsL n C = [] := fun n => by rw [hC]; exact ivC_refs n _
        rw [← hC] at hl1 hl2
        simp only [ctM, ctO, List.cons_append, hap, ← hC, ← hm, hlen]
        simp [h1, h2, h31, h32, hlt, k1, k5, hmax, hmin, hcmp, Tryz.w25O, Tryz.w6O, pureO, Tryz.w5F, Tryz.ratF4, Tryz.ratF3, ratP_ratS, ← hx, ← hy, a1, a2, z1, z2, s1', s2', t1', t2', x1, x2, y1, y2, c1, w1, hl1, hl2, b1, b2, b3, hC1, hC2, ivC_refs, ivC_ren, ctM, ctO, Nat.testBit]
    · have c1 : ¬ cmpQ x y < 0 := fun h => hxy (cmpQ_lt.1 h)
      have hcl : cutL qs qt ((u, ratS a, ratS z) :: L.drop (n + 1)) = cutL qs qt (L.drop (n + 1)) := by
        unfold cutL; rw [List.filterMap_cons, hci, if_neg hxy]
      rw [hcl] at he
      refine ⟨(n + 1, out), ?_⟩
      refine exists_and_fin (show (n + 1 ≤ L.length ∧ out.length ≤ n + 1 ∧ cutL qs qt L = out ++ cutL qs qt (L.drop (n + 1))) ∧ L.length - (n + 1) < L.length - n from ⟨⟨by omega, by omega, he⟩, by omega⟩) ?_
      clear he hci hcl
      cases out with
      | nil =>
        simp [h1, h2, h31, h32, hlt, k1, k5, hmax, hmin, hcmp, Tryz.w25O, Tryz.w6O, pureO, Tryz.w5F, Tryz.ratF4, Tryz.ratF3, ratP_ratS, ← hx, ← hy, a1, a2, z1, z2, s1', s2', t1', t2', x1, x2, y1, y2, c1, w1, ivC, ivC_refs, ivC_ren, ctM, ctO, Nat.testBit]
      | cons c out =>
        obtain ⟨C, hC⟩ : ∃ C, C = ivC (c :: out) := ⟨_, rfl⟩
        have hC1 : ∀ f, AV.rens f C = C := fun f => by rw [hC]; exact ivC_ren f _
        have hC2 : ∀ n, AV.refsL n C = [] := fun n => by rw [hC]; exact ivC_refs n _
        simp only [ctM, ctO, ← hC]
        simp [h1, h2, h31, h32, hlt, k1, k5, hmax, hmin, hcmp, Tryz.w25O, Tryz.w6O, pureO, Tryz.w5F, Tryz.ratF4, Tryz.ratF3, ratP_ratS, ← hx, ← hy, a1, a2, z1, z2, s1', s2', t1', t2', x1, x2, y1, y2, c1, w1, hC1, hC2, ivC_refs, ivC_ren, ctM, ctO, Nat.testBit]
  · right
    have e : L.drop n = [] := List.drop_of_length_le (by omega)
    rw [e] at he
    have e2 : cutL qs qt [] = [] := rfl
    rw [e2, List.append_nil] at he
    rw [he]
    simp [h32, hlt]
end Go.Proofs
