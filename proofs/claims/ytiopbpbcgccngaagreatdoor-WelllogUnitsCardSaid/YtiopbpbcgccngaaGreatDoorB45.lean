/- Part B45 of a proof: see its last part, YtiopbpbcgccngaaGreatDoorB55.lean. -/
import Derived.Test.YtiopbpbcgccngaaGreatDoorB44
import Derived.Test.YtiopbpbcgccngaaGreatDoorB11
set_option linter.all false
namespace Go.Proofs
open Go.Eng
noncomputable def Tryz.rfO3 : Oracle := fun c args M => match c, args with
  | .fn 177, [.nilslice, y, .int .i64 k, .int .i64 0] => match sliceN .i64 M y with
    | some B => if B ≠ [] ∧ lok 10000 B = true ∧ k.natAbs ≤ 10000 ∧ B.length ≤ 1000000 ∧ 0 ≤ k * (lval 10000 B : Int) then some ⟨.slice M.length 0 (dig 10000 (k * (lval 10000 B : Int)).toNat).length none, none, [.cells true 1 (iN .i64 (dig 10000 (k * (lval 10000 B : Int)).toNat))]⟩ else none
    | none => none
  | .fn 177, [x, y, .int .i64 k, .int .i64 0] => match sliceN .i64 M x, sliceN .i64 M y with
    | some A, some B => if (A ≠ [] ∨ B ≠ []) ∧ lok 10000 A = true ∧ lok 10000 B = true ∧ k.natAbs ≤ 10000 ∧ A.length ≤ 1000000 ∧ B.length ≤ 1000000 ∧ 0 ≤ (lval 10000 A : Int) + k * (lval 10000 B : Int) then some ⟨.slice M.length 0 (dig 10000 ((lval 10000 A : Int) + k * (lval 10000 B : Int)).toNat).length none, none, [.cells true 1 (iN .i64 (dig 10000 ((lval 10000 A : Int) + k * (lval 10000 B : Int)).toNat))]⟩ else none
    | _, _ => none
  | c, args => Tryz.rfO2 c args M
theorem Tryz.rfO3_ok : OracleOk Tryz.prog Tryz.rfO3 := by
  refine oracleOk_of fun c args M r h => ?_
  unfold Tryz.rfO3 at h
  split at h
  · split at h
    · rename_i hB
      split at h
      · rename_i hc
        obtain ⟨c1, c2, c3, c4, c5⟩ := hc
        cases h
        have := Tryz.aJoinedM _ (A := []) (.inr ⟨rfl, rfl⟩) (sliceN_some hB) (.inr c1) rfl c2 c3 (Nat.zero_le _) c4 (by simpa [lval] using c5)
        simp only [lval, Int.natCast_zero, Int.zero_add] at this
        exact soundAt_call this
      · cases h
    · cases h
  · split at h
    · rename_i hA hB
      split at h
      · rename_i hc
        obtain ⟨c1, c2, c3, c4, c5, c6, c7⟩ := hc
        cases h
        exact soundAt_call (Tryz.aJoinedM _ (.inl (sliceN_some hA)) (sliceN_some hB) c1 c2 c3 c4 c5 c6 c7)
      · cases h
    · cases h
  · exact soundAt_of Tryz.rfO2_ok h
end Go.Proofs
namespace Go.Proofs
open Go.Eng
def Tryz.takeLv (c : Code) : List Nat := if (writesC c).contains 3 then [3, 4] else [5, 6]
theorem Tryz.take_inner {O : Oracle} {K m0 : Nat} (mem : Mem) (s : List UInt8) (e st : Nat) (hd : s.all isD = true) (he : e ≤ s.length) (hst : st ≤ e) (h4 : e ≤ st + 4) (hl : s.length ≤ 1000000) (hK : 5 < K) {b b2 : Code} (hbd : loopsF Tryz.f176 = [b, b2]) :
    ∃ F : Env → Bool → Env, ∀ env0 d, (Go.Eng.look env0 0 = .str s ∧ Go.Eng.look env0 4 = .int .i64 (e : Int) ∧ Go.Eng.look env0 5 = .int .i64 0 ∧ Go.Eng.look env0 6 = .int .i64 (st : Int)) →
      execC (tyOf Tryz.prog) Tryz.takeLv O K 35 m0 true (.loop b2) ⟨env0, mem, d⟩ = some (.exit 2, ⟨F env0 d, mem, d⟩) ∧
      (Go.Eng.look (F env0 d) 5 = .int .i64 ((valD ((s.take e).drop st) : Nat) : Int) ∧ Go.Eng.look (F env0 d) 0 = Go.Eng.look env0 0 ∧ Go.Eng.look (F env0 d) 3 = Go.Eng.look env0 3 ∧ Go.Eng.look (F env0 d) 4 = Go.Eng.look env0 4) := by
  have hlv : Tryz.takeLv b2 = [5, 6] := by
    simp [loopsF, loopsC, Tryz.f176] at hbd
    obtain ⟨rfl, rfl⟩ := hbd
    decide
  refine loop_rule hlv (fun env0 => Go.Eng.look env0 0 = .str s ∧ Go.Eng.look env0 4 = .int .i64 (e : Int) ∧ Go.Eng.look env0 5 = .int .i64 0 ∧ Go.Eng.look env0 6 = .int .i64 (st : Int))
    (fun env0 env' => Go.Eng.look env' 5 = .int .i64 ((valD ((s.take e).drop st) : Nat) : Int) ∧ Go.Eng.look env' 0 = Go.Eng.look env0 0 ∧ Go.Eng.look env' 3 = Go.Eng.look env0 3 ∧ Go.Eng.look env' 4 = Go.Eng.look env0 4) ?_
  rintro env0 d ⟨h0, h4', h5, h6⟩
  obtain ⟨u, hu⟩ : ∃ u, u = (s.take e).drop st := ⟨_, rfl⟩
  have hul : u.length = e - st := by rw [hu, List.length_drop, List.length_take]; omega
  have hud : u.all isD = true := by rw [hu]; exact all_drop (all_take hd _) _
  have hv0 : valD (u.take 0) = 0 := by rw [List.take_zero]; unfold valD; rw [valF_nil]
  have hn : normE [5, 6] (writesC b2) env0 ((5, .int .i64 ((valD (u.take 0) : Nat) : Int)) :: (6, .int .i64 ((st + 0 : Nat) : Int)) :: env0) = normE [5, 6] (writesC b2) env0 env0 := by rw [hv0]; simp [normE, h5, h6]
  rw [← hn, ← hu]
  refine iter_ind (α := Nat) (fun j => ⟨normE [5, 6] (writesC b2) env0 ((5, .int .i64 ((valD (u.take j) : Nat) : Int)) :: (6, .int .i64 ((st + j : Nat) : Int)) :: env0), mem, d⟩)
    (fun j => u.length - j) (fun j => j ≤ u.length) (.exit 2) _ d _ (by simp) ?_ K 0 (Nat.zero_le _) (by simp only [Nat.sub_zero]; omega)
  intro j hj
  clear hn hv0
  simp [loopsF, loopsC, Tryz.f176] at hbd
  by_cases hje : j = u.length
  · right
    subst hje
    have e1 : ((st + u.length : Nat) : Int) = (e : Int) := by omega
    rw [List.take_length, e1]
    obtain ⟨rfl, rfl⟩ := hbd
    simp [h0, h4']
  · left
    have hlt : j < u.length := by omega
    obtain ⟨c, hc⟩ : ∃ c, u[j]? = some c := ⟨u[j], by simp [hlt]⟩
    have hcd := isD_lt (List.all_eq_true.1 hud c (List.mem_of_getElem? hc))
    have hcD := List.all_eq_true.1 hud c (List.mem_of_getElem? hc)
    have hc48 : 48 ≤ c.toNat := by unfold isD at hcD; simp only [Bool.and_eq_true, decide_eq_true_eq] at hcD; exact hcD.1
    have hst2 : u.take (j + 1) = u.take j ++ [c] := by rw [List.take_add_one, hc]; rfl
    have hv : valD (u.take (j + 1)) = 10 * valD (u.take j) + (c.toNat - 48) := by rw [hst2, valD_snoc]
    have hvb : valD (u.take j) < 10000 := by
      have h1 := valD_lt (all_take hud j)
      have h2 : (u.take j).length ≤ 4 := by rw [List.length_take]; omega
      have h3 : 10 ^ (u.take j).length ≤ 10 ^ 4 := Nat.pow_le_pow_right (by omega) h2
      omega
    have hsc : s[st + j]? = some c := by
      rw [hu, List.getElem?_drop, List.getElem?_take_of_lt (by omega)] at hc
      exact hc
    obtain ⟨v, hvv⟩ : ∃ v, v = valD (u.take j) := ⟨_, rfl⟩
    obtain ⟨v2, hvv2⟩ : ∃ v, v = valD (u.take (j + 1)) := ⟨_, rfl⟩
    rw [← hvv] at hvb hv
    rw [← hvv2] at hv
    obtain ⟨i, hi⟩ : ∃ i, i = st + j := ⟨_, rfl⟩
    rw [← hi] at hsc
    have hie : i < e := by omega
    have hieI : (i : Int) < (e : Int) := by omega
    have w1 : IntKind.i64.wrap (10 * (v : Int)) = 10 * (v : Int) := wrap_i64 (by omega) (by omega)
    have w2 : IntKind.i64.wrap (10 * (v : Int) + (c.toNat : Int)) = 10 * (v : Int) + (c.toNat : Int) := wrap_i64 (by omega) (by omega)
    have w3 : IntKind.i64.wrap (10 * (v : Int) + (c.toNat : Int) - 48) = (v2 : Int) := by rw [wrap_i64 (by omega) (by omega)]; omega
    have w4 : IntKind.i64.wrap ((i : Int) + 1) = ((st + (j + 1) : Nat) : Int) := by rw [wrap_i64 (by omega) (by omega)]; omega
    have w5 : IntKind.i64.wrap (c.toNat : Int) = (c.toNat : Int) := wrap_i64 (by omega) (by have := c.toNat_lt; omega)
    rw [← hi]
    refine ⟨j + 1, ?_⟩
    refine exists_and_fin (show j + 1 ≤ u.length ∧ _ from ⟨hlt, by omega⟩) ?_
    obtain ⟨rfl, rfl⟩ := hbd
    simp [h0, h4', hie, hieI, hsc, ← hvv, ← hvv2, w1, w2, w3, w4, w5]
    try omega
end Go.Proofs
namespace Go.Proofs
open Go.Eng
def taM : List Nat → Mem
  | [] => []
  | x :: l => [.cells true 1 (iN .i64 (x :: l))]
def taO : List Nat → AV
  | [] => .nilslice
  | _ :: l => .slice 0 0 (l.length + 1) none
theorem Tryz.take_loop {O : Oracle} {K : Nat} (s : List UInt8) (hd : s.all isD = true) (hl : s.length ≤ 1000000) (hK : s.length + 5 < K) {b b2 : Code} (hbd : loopsF Tryz.f176 = [b, b2]) :
    ∃ F : Env → Bool → Env, ∀ env0 d, (Go.Eng.look env0 0 = .str s ∧ Go.Eng.look env0 3 = .nilslice ∧ Go.Eng.look env0 4 = .int .i64 (s.length : Int)) →
      execC (tyOf Tryz.prog) Tryz.takeLv O K 35 0 true (.loop b) ⟨env0, [], d⟩ = some (.exit 0, ⟨F env0 d, taM (chunks4 s), d⟩) ∧ Go.Eng.look (F env0 d) 3 = taO (chunks4 s) := by
  have hlv : Tryz.takeLv b = [3, 4] := by
    simp [loopsF, loopsC, Tryz.f176] at hbd
    obtain ⟨rfl, rfl⟩ := hbd
    decide
  refine loop_rule hlv (fun env0 => Go.Eng.look env0 0 = .str s ∧ Go.Eng.look env0 3 = .nilslice ∧ Go.Eng.look env0 4 = .int .i64 (s.length : Int)) (fun _ env' => Go.Eng.look env' 3 = taO (chunks4 s)) ?_
  rintro env0 d ⟨h0, h3, h4⟩
  have hn : normE [3, 4] (writesC b) env0 ((3, taO []) :: (4, .int .i64 (s.length : Int)) :: env0) = normE [3, 4] (writesC b) env0 env0 := by simp [normE, h3, h4, taO]
  rw [← hn]
  refine iter_ind (α := Int × List Nat) (fun a => ⟨normE [3, 4] (writesC b) env0 ((3, taO a.2) :: (4, .int .i64 a.1) :: env0), taM a.2, d⟩)
    (fun a => a.1.toNat) (fun a => -4 ≤ a.1 ∧ a.1 ≤ s.length ∧ a.2 ++ chunks4 (s.take a.1.toNat) = chunks4 s) (.exit 0) _ d _ (by simp) ?_ K ((s.length : Int), []) ⟨by simp only; omega, Int.le_refl _, by simp only [Int.toNat_natCast]; rw [List.take_length]; rfl⟩ (by show (s.length : Int).toNat < K; omega)
  rintro ⟨z, out⟩ ⟨hz4, he, hinv⟩
  simp only at hz4 he hinv ⊢
  clear hn
  by_cases he0 : z ≤ 0
  · right
    rw [show z.toNat = 0 by omega, List.take_zero, chunks4_nil, List.append_nil] at hinv
    rw [hinv]
    have hz : ¬ 0 < z := by omega
    simp [loopsF, loopsC, Tryz.f176] at hbd
    obtain ⟨rfl, rfl⟩ := hbd
    simp [hz]
  · left
    obtain ⟨e, rfl⟩ : ∃ e : Nat, z = e := ⟨z.toNat, by omega⟩
    rw [Int.toNat_natCast] at hinv
    have hls : (s.take e).length = e := by rw [List.length_take]; omega
    have hne : s.take e ≠ [] := by intro h; rw [h] at hls; simp at hls; omega
    rw [chunks4_pos hne, hls, List.take_take, Nat.min_eq_left (by omega)] at hinv
    obtain ⟨st, hst⟩ : ∃ st, st = e - 4 := ⟨_, rfl⟩
    rw [← hst] at hinv
    obtain ⟨F, hF⟩ := Tryz.take_inner (O := O) (K := K) (m0 := 0) (taM out) s e st hd (by omega) (by omega) (by omega) hl (by omega) hbd
    obtain ⟨v, hv⟩ : ∃ v, v = valD ((s.take e).drop st) := ⟨_, rfl⟩
    rw [← hv] at hF hinv
    have hol : out.length ≤ 1000000 := by
      have h1 := (chunks4_spec _ s (Nat.le_refl _) hd).2.2
      rw [← hinv] at h1
      simp at h1; omega
    obtain ⟨z2, hz2⟩ : ∃ z2, z2 = (e : Int) - 4 := ⟨_, rfl⟩
    have w1 : IntKind.i64.wrap ((e : Int) - 4) = z2 := by rw [← hz2]; exact wrap_i64 (by omega) (by omega)
    have hp : 0 < e := by omega
    have hmax : (if 0 < z2 then z2 else 0) = (st : Int) := by split <;> omega
    have hz2n : z2.toNat = st := by omega
    simp [loopsF, loopsC, Tryz.f176] at hbd
    obtain ⟨rfl, rfl⟩ := hbd
    refine ⟨(z2, out ++ [v]), ?_⟩
    refine exists_and_fin2 (show (-4 ≤ z2 ∧ z2 ≤ (s.length : Int) ∧ (out ++ [v]) ++ chunks4 (s.take z2.toNat) = chunks4 s) ∧ z2.toNat < (e : Int).toNat from ⟨⟨by omega, by omega, by rw [List.append_assoc, hz2n]; exact hinv⟩, by omega⟩) ?_
    cases out with
    | nil =>
      simp only [taM, taO] at hF
      simp [taM, taO, hp, w1, hmax, h0, hF, iN_cons]
    | cons y l =>
      simp only [List.length_cons] at hol
      have ht : (iN .i64 l).take l.length = iN .i64 l := List.take_of_length_le (by simp)
      have hm1 : (l.length + 1 + 1) * 8 ≤ 140737488355328 := by omega
      have hm2 : l.length + 1 + 1 ≤ 140737488355328 := by omega
      simp only [taM, taO, iN_cons] at hF
      simp [taM, taO, hp, w1, hmax, h0, hF, ht, hm1, hm2, iN_cons, iN_append]
end Go.Proofs
namespace Go.Proofs
open Go.Eng
theorem Tryz.take_run (v : Nat) (hl : (natD v).length ≤ 1000000) : callFn (tyOf Tryz.prog) Tryz.takeLv (fnOf Tryz.prog) Tryz.rfO3 ((natD v).length + 6) 176 [.str (natD v)] [] =
    some ⟨.slice 0 0 (dig 10000 v).length none, none, [.cells true 1 (iN .i64 (chunks4 (natD v)))]⟩ := by
  have hG : fnOf Tryz.prog 176 = some Tryz.f176 := by kernel_rfl
  obtain ⟨b, b2, hbd⟩ : ∃ b b2, loopsF Tryz.f176 = [b, b2] := ⟨_, _, rfl⟩
  obtain ⟨F, hF⟩ := Tryz.take_loop (O := Tryz.rfO3) (K := (natD v).length + 6) (natD v) (natD_all v) hl (by omega) hbd
  obtain ⟨c1, c2, c3⟩ := chunks4_spec _ (natD v) (Nat.le_refl _) (natD_all _)
  rw [valD_natD] at c2
  have hd : ltrim (chunks4 (natD v)) = dig 10000 v := by rw [← dig_lval (by omega) c1, c2]
  have hne : chunks4 (natD v) ≠ [] := by rw [chunks4_pos (natD_ne _)]; simp
  obtain ⟨s, hs⟩ : ∃ s, s = natD v := ⟨_, rfl⟩
  rw [← hs] at hF hd hne c3 hl ⊢
  obtain ⟨K, hK⟩ : ∃ K, K = s.length + 6 := ⟨_, rfl⟩
  rw [← hK] at hF ⊢
  have hl2 : (chunks4 s).length ≤ 4000000000000 := by omega
  obtain ⟨ch, hch⟩ : ∃ ch, ch = chunks4 s := ⟨_, rfl⟩
  rw [← hch] at hF hd hne hl2 ⊢
  have hM : taM ch = [.cells true 1 (iN .i64 ch)] := by cases ch <;> first | exact absurd rfl hne | rfl
  have hO : taO ch = .slice 0 0 ch.length none := by cases ch <;> first | exact absurd rfl hne | rfl
  rw [hM, hO] at hF
  have hsl : ∀ l, sliceN .i64 (.cells true 1 (iN .i64 ch) :: l) (.slice 0 0 ch.length none) = some ch := fun l => sliceN_at rfl (by simp) (List.take_of_length_le (by simp))
  simp [loopsF, loopsC, Tryz.f176] at hbd
  obtain ⟨rfl, rfl⟩ := hbd
  simp [callFn, hG, Tryz.f176, hF, Tryz.rfO3, Tryz.rfO2, Tryz.rfO1, hsl, hl2, hd]
theorem Tryz.aTakeM (v : Nat) (hl : (natD v).length ≤ 1000000) (M : Mem) : ACallsTo Tryz.prog 176 [.str (natD v)] M (.slice M.length 0 (dig 10000 v).length none) (M ++ [.cells true 1 (iN .i64 (dig 10000 v))]) := by
  obtain ⟨c1, c2, c3⟩ := chunks4_spec _ (natD v) (Nat.le_refl _) (natD_all _)
  rw [valD_natD] at c2
  have hd : ltrim (chunks4 (natD v)) = dig 10000 v := by rw [← dig_lval (by omega) c1, c2]
  have h := (callFn_sound Tryz.mixed (tyOf_ok _) Tryz.rfO3_ok (fnOf_ok _) (Tryz.take_run v hl)).1
  simp only [CallRes.mem, Option.getD_none, List.nil_append] at h
  have h2 := ACallsTo.truncs (m2 := [.cells true 1 (iN .i64 (dig 10000 v))]) h rfl (fun b s hb => by
    match b with
    | 0 => simp at hb; subst hb; exact ⟨_, rfl, .row (by rw [← hd]; exact ltrim_isPrefix _)⟩
    | b + 1 => simp at hb)
  have h3 := ACallsTo.frame (M := M) [] (m := []) (new := [.cells true 1 (iN .i64 (dig 10000 v))]) rfl (by simp) rfl (by simp) rfl h2
  simpa [AV.ren, AV.rens, back] using h3
end Go.Proofs
namespace Go.Proofs
open Go.Eng
theorem Tryz.give_loop {K : Nat} (v : Nat) (hv : 0 < v) (hl : (dig 10000 v).length ≤ 100000) (hK : (dig 10000 v).length < K) {b : Code} (hbd : loopsF Tryz.f224 = [b]) :
    ∃ F : Env → Bool → Env, ∀ env0 d, (Go.Eng.look env0 0 = .slice 0 0 (dig 10000 v).length none ∧ Go.Eng.look env0 3 = .str (natD (lval 10000 ((dig 10000 v).drop ((dig 10000 v).length - 1)))) ∧ Go.Eng.look env0 4 = .int .i64 ((((dig 10000 v).length - 1 : Nat) : Int) - 1)) →
      execC (tyOf Tryz.prog) (fun _ => [3, 4]) (pureO Tryz.strF) K 34 1 true (.loop b) ⟨env0, [.cells false 1 (iN .i64 (dig 10000 v))], d⟩ = some (.exit 0, ⟨F env0 d, [.cells false 1 (iN .i64 (dig 10000 v))], d⟩) ∧ Go.Eng.look (F env0 d) 3 = .str (natD v) := by
  have hA : lok 10000 (dig 10000 v) = true := lok_dig (by omega) _
  have hval : lval 10000 (dig 10000 v) = v := lval_dig (by omega) _
  have hpos : ∀ j, j < (dig 10000 v).length → 0 < lval 10000 ((dig 10000 v).drop j) := fun j hj => lval_drop_pos (by omega) hj
  have hlen : 0 < (dig 10000 v).length := by
    rcases Nat.eq_zero_or_pos (dig 10000 v).length with h | h
    · have := (dig_eq_nil (B := 10000) (n := v) (by omega)).1 (List.eq_nil_of_length_eq_zero h)
      omega
    · exact h
  obtain ⟨A, hAe⟩ : ∃ A, A = dig 10000 v := ⟨_, rfl⟩
  rw [← hAe] at hl hK hA hval hpos hlen ⊢
  refine loop_rule rfl (fun env0 => Go.Eng.look env0 0 = .slice 0 0 A.length none ∧ Go.Eng.look env0 3 = .str (natD (lval 10000 (A.drop (A.length - 1)))) ∧ Go.Eng.look env0 4 = .int .i64 (((A.length - 1 : Nat) : Int) - 1)) (fun _ env' => Go.Eng.look env' 3 = .str (natD v)) ?_
  rintro env0 d ⟨h0, h3, h4⟩
  have hn : normE [3, 4] (writesC b) env0 ((3, .str (natD (lval 10000 (A.drop (A.length - 1))))) :: (4, .int .i64 (((A.length - 1 : Nat) : Int) - 1)) :: env0) = normE [3, 4] (writesC b) env0 env0 := by simp only [normE, List.map_cons, List.map_nil, look, h3, h4]; simp
  rw [← hn]
  refine iter_ind (α := Nat) (fun j => ⟨normE [3, 4] (writesC b) env0 ((3, .str (natD (lval 10000 (A.drop j)))) :: (4, .int .i64 ((j : Int) - 1)) :: env0), [.cells false 1 (iN .i64 A)], d⟩)
    (fun j => j) (fun j => j < A.length) (.exit 0) _ d _ (by simp) ?_ K (A.length - 1) (by omega) (by omega)
  intro j hj
  clear hn
  simp [loopsF, loopsC, Tryz.f224] at hbd
  cases j with
  | zero =>
    right
    subst hbd
    simp [hval]
  | succ j =>
    left
    obtain ⟨x, hx, hx'⟩ := get_both (l := A) (i := j) (by omega)
    have hxb := lok_get hA hx
    have e1 : (((j + 1 : Nat) : Int) - 1) = (j : Int) := by omega
    have hpd : natD (lval 10000 (A.drop j)) = natD (lval 10000 (A.drop (j + 1))) ++ (natD (10000 + x)).drop 1 := by
      rw [lval_drop hx]
      have h1 := natD_pad (w := 4) (by omega) hxb (hpos (j + 1) hj)
      have h2 := natD_lead (w := 4) (x := x) (by omega) hxb
      rw [show 10 ^ 4 = 10000 from rfl] at h1 h2
      rw [h2, h1]
    have hsz : (natD (lval 10000 (A.drop (j + 1)))).length ≤ 400000 := by
      have h1 := lval_lt (lok_drop hA (j + 1))
      have h2 : (10000 : Nat) ^ (A.drop (j + 1)).length = 10 ^ (4 * (A.drop (j + 1)).length) := by rw [Nat.pow_mul]
      rw [h2] at h1
      have h3 : 0 < 4 * (A.drop (j + 1)).length := by simp; omega
      have h4 := natD_length_le h3 h1
      simp at h4; omega
    obtain ⟨t, ht⟩ : ∃ t, t = natD (lval 10000 (A.drop (j + 1))) := ⟨_, rfl⟩
    obtain ⟨t2, ht2⟩ : ∃ t, t = natD (lval 10000 (A.drop j)) := ⟨_, rfl⟩
    rw [← ht] at hpd hsz
    rw [← ht2] at hpd
    obtain ⟨y, hy⟩ : ∃ y : Nat, y = 10000 + x := ⟨_, rfl⟩
    rw [← hy] at hpd
    have w1 : IntKind.i64.wrap (10000 + (x : Int)) = (y : Int) := by rw [wrap_i64 (by omega) (by omega)]; omega
    have w2 : IntKind.i64.wrap ((j : Int) - 1) = (j : Int) - 1 := wrap_i64 (by omega) (by omega)
    have hf : fitsI (y : Int) = true := by unfold fitsI; simp; omega
    have hys : intS (y : Int) = natD y := rfl
    have hyl := natD_length_le (u := y) (k := 5) (by omega) (by omega)
    have hy1 : 1 ≤ (natD y).length := natD_pos y
    obtain ⟨u, hu⟩ : ∃ u, u = natD y := ⟨_, rfl⟩
    rw [← hu] at hpd hys hyl hy1
    have hy1I : (1 : Int) ≤ (u.length : Int) := by omega
    have htk : (u.drop 1).take (u.length - 1) = u.drop 1 := List.take_of_length_le (by simp)
    have hmx : t.length + (u.length - 1) ≤ maxInt := by unfold maxInt; omega
    have hjl : j < A.length := by omega
    have hjI : (j : Int) < (A.length : Int) := by omega
    obtain ⟨u1, hu1⟩ : ∃ u1, u1 = u.drop 1 := ⟨_, rfl⟩
    rw [← hu1] at hpd htk
    have hu1l : u1.length = u.length - 1 := by rw [hu1]; simp
    have hmx1 : t.length + u1.length ≤ maxInt := by rw [hu1l]; exact hmx
    rw [e1]
    refine ⟨j, ?_⟩
    refine exists_and_fin (show j < A.length ∧ _ from ⟨hjl, Nat.lt_succ_self j⟩) ?_
    subst hbd
    simp [h0, hjI, hjl, hx, hx', w1, pureO, Tryz.strF, hf, hys, hy1I, ← hu1, htk, ← ht, ← ht2, hmx1, ← hpd, w2]
end Go.Proofs
