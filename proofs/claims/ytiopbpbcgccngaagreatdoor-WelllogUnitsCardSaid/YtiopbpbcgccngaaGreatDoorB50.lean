/- Part B50 of a proof: see its last part, YtiopbpbcgccngaaGreatDoorB55.lean. -/
import Derived.Test.YtiopbpbcgccngaaGreatDoorB43
import Derived.Test.YtiopbpbcgccngaaGreatDoorB42
import Derived.Test.YtiopbpbcgccngaaGreatDoorB49
set_option linter.all false
namespace Go.Proofs
open Go.Eng
theorem chkR_hf {n : Nat} (h : n ≤ 1000000) : chkR (ratS (hf n)) = 0 := by
  have := hf_big n h
  exact chkR_ratS (by omega) (by omega)
theorem ratS_hf_len {n : Nat} (h : n ≤ 1000000) : (ratS (hf n)).length ≤ 1000000000 := by
  have h1 := hf_big n h
  exact fine_len (q := hf n) ⟨by omega, by omega⟩
theorem Tryz.aThickP (H : List Hv) (hH : ∀ x ∈ H, okH x) (L : List Iv) (hLd : L = H.map hvI) (hL : shortIv L) (hl : L.length ≤ 1000000) (h0 : logR L = 0) (u : List UInt8) (hs : thN u H ≤ 1000000) :
    ACallsTo Tryz.prog 18 [.slice 0 0 L.length none, .str u] [.cells false 3 (ivC L)] (.tuple [.str (ratS (hf (thN u H))), .int .i64 0]) [.cells false 3 (ivC L)] := by
  have hG : fnOf Tryz.prog 18 = some Tryz.f18 := by kernel_rfl
  have hi : ∀ r, ivs (.cells false 3 (ivC L) :: r) (.slice 0 0 L.length none) = some L := fun r => ivs_at rfl rfl (ivC_take L)
  have hsb := shortB_iff.2 hL
  have hl2 : L.length ≤ 1000000000 := by omega
  have hLl : H.length = L.length := by rw [hLd]; simp
  obtain ⟨b, hb⟩ : ∃ b, loopsF Tryz.f18 = [b] := ⟨_, rfl⟩
  obtain ⟨F, hF⟩ := Tryz.thick_loop (O := Tryz.w6O) (K := L.length + 1) (fun _ _ => rfl) (fun _ _ => rfl) H hH u (by omega) (by omega) hs hb
  simp [loopsF, loopsC, Tryz.f18] at hb
  subst hb
  rw [← hLd, hLl] at hF
  have hF1 := fun env0 d h => (hF env0 d h).1
  have hF2 := fun env0 d h => (hF env0 d h).2
  clear hF
  have c1 := chkR_hf hs
  have c2 := ratS_hf_len hs
  obtain ⟨w, hw⟩ : ∃ w, w = ratS (hf (thN u H)) := ⟨_, rfl⟩
  rw [← hw] at c1 c2 hF2 ⊢
  have h : callFn (tyOf Tryz.prog) (fun _ => [7, 17]) (fnOf Tryz.prog) Tryz.w6O (L.length + 1) 18 [.slice 0 0 L.length none, .str u] [.cells false 3 (ivC L)] = some ⟨.tuple [.str w, .int .i64 0], none, []⟩ := by
    simp [callFn, hG, Tryz.f18, Tryz.w6O, pureO, Tryz.w5F, Tryz.ratF4, hi, hsb, hl2, h0, hF1, hF2, c1, c2]
  have := (callFn_sound Tryz.mixed (tyOf_ok _) Tryz.w6_ok (fnOf_ok _) h).1
  simpa [CallRes.mem] using this
theorem chkR_0 : chkR [48] = 0 := by rw [← hf_zero]; exact chkR_hf (by decide)
theorem Tryz.aThickNil (u : List UInt8) (M : Mem) : ACallsTo Tryz.prog 18 [.nilslice, .str u] M (.tuple [.str [48], .int .i64 0]) M := by
  have hG : fnOf Tryz.prog 18 = some Tryz.f18 := by kernel_rfl
  have hi : ∀ M, ivs M .nilslice = some [] := fun M => rfl
  have hs : shortB [] = true := rfl
  have h : callFn (tyOf Tryz.prog) (fun _ => [7, 17]) (fnOf Tryz.prog) Tryz.w6O 1 18 [.nilslice, .str u] M = some ⟨.tuple [.str [48], .int .i64 0], none, []⟩ := by
    simp [callFn, hG, Tryz.f18, execC_loop, iter, Tryz.w6O, hi, hs, logR_nil, pureO, Tryz.w5F, Tryz.ratF4, chkR_0]
  have := (callFn_sound Tryz.mixed (tyOf_ok _) Tryz.w6_ok (fnOf_ok _) h).1
  simpa [CallRes.mem] using this
theorem Tryz.aLUnitNil (s : List UInt8) (M : Mem) : ACallsTo Tryz.prog 14 [.nilslice, .str s] M (.str [45]) M := by
  have hG : fnOf Tryz.prog 14 = some Tryz.f14 := by kernel_rfl
  have h : callFn (tyOf Tryz.prog) (fun _ => [9]) (fnOf Tryz.prog) noOracle 1 14 [.nilslice, .str s] M = some ⟨.str [45], none, []⟩ := by
    simp [callFn, hG, Tryz.f14, execC_loop, iter]
  have := (callFn_sound Tryz.mixed (tyOf_ok _) (noOracle_ok _) (fnOf_ok _) h).1
  simpa [CallRes.mem] using this
theorem Tryz.aUnitNil (s : List UInt8) (hs : s.length ≤ 1000000000) (M : Mem) : ACallsTo Tryz.prog 17 [.nilslice, .str s] M (.tuple [.str [], .bool false, .int .i64 (if chkR s = 0 then 0 else 2)]) M := by
  refine ACallsTo.lift rfl rfl ?_ M
  have hG : fnOf Tryz.prog 17 = some Tryz.f17 := by kernel_rfl
  have hi : ∀ M, ivs M .nilslice = some [] := fun M => rfl
  have hsb : shortB [] = true := rfl
  have hix : ACallsTo Tryz.prog 48 [.nilslice, .func 49 [.ptr 0 0]] [.cells true 0 [.str s]] (.int .i64 (-1)) ([.cells true 0 [.str s]] ++ []) := Tryz.aIndexFNil 0 _
  have hO := Tryz.w6_ok.or (oneO_ok hix)
  obtain ⟨O, hOd⟩ : ∃ O, O = Oracle.or Tryz.w6O (oneO 48 [.nilslice, .func 49 [.ptr 0 0]] [.cells true 0 [.str s]] ⟨.int .i64 (-1), none, []⟩) := ⟨_, rfl⟩
  rw [← hOd] at hO
  have o1 : ∀ M, O (.fn 29) [.nilslice] M = some ⟨.int .i64 0, none, []⟩ := fun M => by rw [hOd]; simp [Oracle.or, Tryz.w6O, hi, hsb, logR_nil]
  have o2 : ∀ M, O (.fn 40) [.str s] M = some ⟨.int .i64 (chkR s), none, []⟩ := fun M => by rw [hOd]; simp [Oracle.or, Tryz.w6O, pureO, Tryz.w5F, Tryz.ratF4, hs]
  have o3 : O (.fn 48) [.nilslice, .func 49 [.ptr 0 0]] [.cells true 0 [.str s]] = some ⟨.int .i64 (-1), none, []⟩ := by rw [hOd]; simp [Oracle.or, Tryz.w6O, pureO, Tryz.w5F, Tryz.ratF4, Tryz.ratF3, Tryz.ratF2, Tryz.ratF1, Tryz.intF3, Tryz.intF2, Tryz.intF1, Tryz.strF, oneO_at]
  clear hOd hix
  have h : callFn (tyOf Tryz.prog) (fun _ => []) (fnOf Tryz.prog) O 1 17 [.nilslice, .str s] [] = some ⟨.tuple [.str [], .bool false, .int .i64 (if chkR s = 0 then 0 else 2)], none, []⟩ := by
    by_cases hc : chkR s = 0
    · rw [if_pos hc]
      rw [hc] at o2
      simp [callFn, hG, Tryz.f17, o1, o2, o3]
    · rw [if_neg hc]
      simp [callFn, hG, Tryz.f17, o1, o2, hc]
  have := (callFn_sound Tryz.mixed (tyOf_ok _) hO (fnOf_ok _) h).1
  simpa [CallRes.mem] using this
noncomputable def Tryz.w18F (f : FuncId) (args : List AV) : Option AV :=
  match f, args with
  | 51, [.str s] => if s.length ≤ 1000000000 then some (.bool (chkR s == 0)) else none
  | f, args => Tryz.w5F f args
theorem Tryz.w18_ok : OracleOk Tryz.prog (pureO Tryz.w18F) := pureO_ok fun f args v h mem => by
  unfold Tryz.w18F at h
  split at h
  · split at h
    · rename_i hc; cases h; exact Tryz.aPRight _ hc mem
    · cases h
  · have := Tryz.w5_ok.fn _ _ mem ⟨v, none, []⟩ (by unfold pureO; simp only; rw [h])
    simpa [CallRes.mem] using this
theorem Tryz.aLRight (s : List UInt8) (hl : s.length ≤ 1000000000) (mem : Mem) :
    ACallsTo Tryz.prog 19 [.str s] mem (.bool (chkR s == 0)) mem := by
  have hG : fnOf Tryz.prog 19 = some Tryz.f19 := by kernel_rfl
  refine Tryz.run Tryz.w18_ok (lv := fun _ => []) (K := 1) rfl rfl ?_ mem
  simp [callFn, hG, Tryz.f19, pureO, Tryz.w18F, hl]
noncomputable def Tryz.knF2 (f : FuncId) (args : List AV) : Option AV := match f, args with
  | 8, [] => some (.bool true)
  | 19, [.str s] => if s.length ≤ 1000000000 then some (.bool (chkR s == 0)) else none
  | f, args => Tryz.w5F f args
theorem Tryz.knF2_ok : OracleOk Tryz.prog (pureO Tryz.knF2) := pureO_ok fun f args v h mem => by
  unfold Tryz.knF2 at h
  split at h
  · cases h; exact Tryz.aKnown mem
  · split at h
    · rename_i hc; cases h; exact Tryz.aLRight _ hc mem
    · cases h
  · have := Tryz.w5_ok.fn _ _ mem ⟨v, none, []⟩ (by unfold pureO; simp only; rw [h])
    simpa [CallRes.mem] using this
end Go.Proofs
namespace Go.Proofs
open Go.Eng
def sameU (env0 env' : Env) : Prop := ∀ t ∈ [1, 2, 7, 8, 9, 10, 11, 12], Go.Eng.look env' t = Go.Eng.look env0 t
set_option maxHeartbeats 3200000 in
theorem Tryz.wu_loop {O : Oracle} {K : Nat} (hsub : ∀ args M, O (.fn 16) args M = pureO Tryz.w5F (.fn 16) args M) (hadd : ∀ args M, O (.fn 15) args M = pureO Tryz.w5F (.fn 15) args M) (B : List Bit) (H : List Hv) (hH : ∀ x ∈ H, okH x) (u : List UInt8) (hl : H.length ≤ 1000000000) (hK : H.length < K) (hs : thN u H ≤ 1000000) {b : Code} (hb : loopsF Tryz.f5 = [b]) :
    ∃ F : Env → Bool → Env, ∀ env0 dd, (Go.Eng.look env0 2 = .str u ∧ Go.Eng.look env0 13 = .str [48] ∧ Go.Eng.look env0 50 = .slice 1 0 H.length none ∧ Go.Eng.look env0 51 = .int .i64 H.length ∧ Go.Eng.look env0 52 = .int .i64 0) →
      execC (tyOf Tryz.prog) (fun _ => [13, 52]) O K 113 1 true (.loop b) ⟨env0, [.cells false 3 (btC B), .cells true 3 (ivC (H.map hvI))], dd⟩ = some (.exit 0, ⟨F env0 dd, [.cells false 3 (btC B), .cells true 3 (ivC (H.map hvI))], dd⟩) ∧
        (Go.Eng.look (F env0 dd) 13 = .str (ratS (hf (thN u H))) ∧ sameU env0 (F env0 dd)) := by
  refine loop_rule rfl (fun env0 => Go.Eng.look env0 2 = .str u ∧ Go.Eng.look env0 13 = .str [48] ∧ Go.Eng.look env0 50 = .slice 1 0 H.length none ∧ Go.Eng.look env0 51 = .int .i64 H.length ∧ Go.Eng.look env0 52 = .int .i64 0) (fun env0 env' => Go.Eng.look env' 13 = .str (ratS (hf (thN u H))) ∧ sameU env0 env') ?_
  rintro env0 dd ⟨h2, h13, h50, h51, h52⟩
  simp [loopsF, loopsC, Tryz.f5] at hb
  have hn : normE [13, 52] (writesC b) env0 ((13, .str (ratS (hf 0))) :: (52, .int .i64 ((0 : Nat) : Int)) :: env0) = normE [13, 52] (writesC b) env0 env0 := by simp [normE, h13, h52, hf_zero]
  rw [← hn]
  obtain ⟨L, hLd⟩ : ∃ L, L = H.map hvI := ⟨_, rfl⟩
  have hLl : L.length = H.length := by rw [hLd]; simp
  have kl : (ivC L).length = H.length * 3 := by rw [ivC_length, hLl]
  rw [← hLd]
  refine iter_ind (α := Nat × Nat) (fun s => ⟨normE [13, 52] (writesC b) env0 ((13, .str (ratS (hf s.2))) :: (52, .int .i64 (s.1 : Int)) :: env0), [.cells false 3 (btC B), .cells true 3 (ivC L)], dd⟩) (fun s => H.length - s.1) (fun s => s.1 ≤ H.length ∧ thN u H = s.2 + thN u (H.drop s.1)) (.exit 0) _ dd _ (by simp) ?_ K (0, 0) ⟨by simp, by rw [List.drop_zero]; simp⟩ (by simp only; omega)
  rintro ⟨n, c⟩ ⟨hn1, he⟩
  simp only at hn1 he ⊢
  clear hn
  subst hb
  by_cases hlt : n < H.length
  · left
    obtain ⟨k, hk⟩ : ∃ k, H[n]? = some k := ⟨H[n], List.getElem?_eq_getElem hlt⟩
    have hkL : L[n]? = some (hvI k) := by rw [hLd, List.getElem?_map, hk]; rfl
    obtain ⟨k1, _, _, _⟩ := ivC_at hkL
    obtain ⟨o1, o2, o3⟩ := hH k (List.mem_of_getElem? hk)
    have hdr : H.drop n = k :: H.drop (n + 1) := by
      rw [List.getElem?_eq_some_iff] at hk
      obtain ⟨h1, h2⟩ := hk
      rw [← h2]; exact List.drop_eq_getElem_cons h1
    rw [hdr, thN] at he
    have w1 : IntKind.i64.wrap ((n : Int) + 1) = ((n + 1 : Nat) : Int) := by rw [wrap_i64 (by omega) (by omega)]; omega
    have k5 : n * 3 + 3 ≤ (ivC L).length := by omega
    obtain ⟨v, f, t⟩ := k
    simp only [hvI] at k1 o1 o2 o3 he
    by_cases hv : v = u
    · rw [if_pos hv] at he
      subst hv
      obtain ⟨g, hg⟩ : ∃ g, g = t - f := ⟨_, rfl⟩
      have s1 : hf t - hf f = hf g := by rw [hg]; exact hf_sub (by omega)
      have s2 : hf c + hf g = hf (c + g) := hf_add c g
      obtain ⟨e, hee⟩ : ∃ e, e = c + g := ⟨_, rfl⟩
      rw [← hg, ← Nat.add_assoc, ← hee] at he
      rw [← hee] at s2
      obtain ⟨t1, t2⟩ := hf_big t (by omega)
      obtain ⟨f1, f2⟩ := hf_big f (by omega)
      obtain ⟨g1, g2⟩ := hf_big g (by omega)
      obtain ⟨c1, c2⟩ := hf_big c (by omega)
      have t1' : (natD (hf t).num.natAbs).length ≤ 40000 := by omega
      have t2' : (natD (hf t).den).length ≤ 40000 := by omega
      have f1' : (natD (hf f).num.natAbs).length ≤ 40000 := by omega
      have f2' : (natD (hf f).den).length ≤ 40000 := by omega
      have g1' : (natD (hf g).num.natAbs).length ≤ 40000 := by omega
      have g2' : (natD (hf g).den).length ≤ 40000 := by omega
      have c1' : (natD (hf c).num.natAbs).length ≤ 40000 := by omega
      have c2' : (natD (hf c).den).length ≤ 40000 := by omega
      refine ⟨(n + 1, e), ?_⟩
      simp [h2, h13, h50, h51, hlt, k1, k5, hsub, hadd, pureO, Tryz.w5F, Tryz.ratF4, Tryz.ratF3, ratP_ratS, s1, s2, t1', t2', f1', f2', g1', g2', c1', c2', w1, ivC_refs, btC_refs]
      exact ⟨⟨by omega, he⟩, by omega⟩
    · rw [if_neg hv, Nat.zero_add] at he
      have hvb : (v == u) = false := by simpa using hv
      refine ⟨(n + 1, c), ?_⟩
      simp [h2, h13, h50, h51, hlt, k1, k5, hvb, w1, ivC_refs, btC_refs]
      exact ⟨⟨by omega, he⟩, by omega⟩
  · right
    have e : H.drop n = [] := List.drop_of_length_le (by omega)
    rw [e, thN, Nat.add_zero] at he
    rw [he]
    simp [h51, hlt, sameU]
theorem thN_le (u : List UInt8) : ∀ (H : List Hv), (∀ x ∈ H, okH x) → thN u H ≤ 100000 * H.length
  | [], _ => by simp [thN]
  | x :: H, h => by
    have h1 := thN_le u H (fun y hy => h y (List.mem_cons_of_mem _ hy))
    obtain ⟨_, h2, _⟩ := h x List.mem_cons_self
    rw [thN, List.length_cons]
    split <;> omega
theorem unitS_dash (n : Nat) : unitS n ≠ [45] := by
  unfold unitS
  split <;> decide
theorem mkH_dash : ∀ (B : List Bit) (a : Nat), ∀ x ∈ mkH a B, x.1 ≠ [45]
  | [], _, x, hx => by cases hx
  | b :: B, a, x, hx => by
    rw [mkH] at hx
    rcases List.mem_cons.1 hx with rfl | hx
    · exact unitS_dash _
    · exact mkH_dash B _ x hx
set_option maxHeartbeats 3200000 in
theorem Tryz.wu_nil (x : AV) (M : Mem) (hx : (x = .slice 0 0 0 none ∧ M = [.cells false 3 (btC [])]) ∨ (x = .nilslice ∧ M = [])) (s u : List UInt8) (hs : s.length ≤ 24) (hu : u.length ≤ 40) :
    ACallsTo Tryz.prog 5 [x, .str s, .str u] M (.bool true) M := by
  have hG : fnOf Tryz.prog 5 = some Tryz.f5 := by kernel_rfl
  have hs1 : s.length ≤ 1000000000 := by omega
  have hsI : ¬ (24 : Int) < s.length := by omega
  have hsN : ¬ 24 < s.length := by omega
  have huI : ¬ (40 : Int) < u.length := by omega
  have huN : ¬ 40 < u.length := by omega
  have hmk : ACallsTo Tryz.prog 9 [x] M .nilslice (M ++ []) := by
    rw [List.append_nil]
    rcases hx with ⟨rfl, rfl⟩ | ⟨rfl, rfl⟩
    · exact Tryz.aMakeP [] (fun b hb => by cases hb) (by decide)
    · exact Tryz.aMakeNil []
  have hun : ACallsTo Tryz.prog 17 [.nilslice, .str s] M (.tuple [.str [], .bool false, .int .i64 (if chkR s = 0 then 0 else 2)]) (M ++ []) := by rw [List.append_nil]; exact Tryz.aUnitNil s hs1 M
  have hth : ACallsTo Tryz.prog 18 [.nilslice, .str u] M (.tuple [.str [48], .int .i64 0]) (M ++ []) := by rw [List.append_nil]; exact Tryz.aThickNil u M
  have hlu : ACallsTo Tryz.prog 14 [.nilslice, .str s] M (.str [45]) (M ++ []) := by rw [List.append_nil]; exact Tryz.aLUnitNil s M
  have hO := (oneO_ok hmk).or ((oneO_ok hun).or ((oneO_ok hth).or ((oneO_ok hlu).or Tryz.knF2_ok)))
  obtain ⟨O, hOd⟩ : ∃ O, O = Oracle.or (oneO 9 [x] M ⟨.nilslice, none, []⟩) (Oracle.or (oneO 17 [.nilslice, .str s] M ⟨.tuple [.str [], .bool false, .int .i64 (if chkR s = 0 then 0 else 2)], none, []⟩) (Oracle.or (oneO 18 [.nilslice, .str u] M ⟨.tuple [.str [48], .int .i64 0], none, []⟩) (Oracle.or (oneO 14 [.nilslice, .str s] M ⟨.str [45], none, []⟩) (pureO Tryz.knF2)))) := ⟨_, rfl⟩
  rw [← hOd] at hO
  have o1 : ∀ M, O (.fn 8) [] M = some ⟨.bool true, none, []⟩ := fun M => by rw [hOd]; simp [Oracle.or, pureO, Tryz.knF2, oneO_ne]
  have o2 : O (.fn 9) [x] M = some ⟨.nilslice, none, []⟩ := by rw [hOd]; simp [Oracle.or, oneO_at]
  have o3 : O (.fn 17) [.nilslice, .str s] M = some ⟨.tuple [.str [], .bool false, .int .i64 (if chkR s = 0 then 0 else 2)], none, []⟩ := by rw [hOd]; simp [Oracle.or, oneO_at, oneO_ne]
  have o4 : O (.fn 18) [.nilslice, .str u] M = some ⟨.tuple [.str [48], .int .i64 0], none, []⟩ := by rw [hOd]; simp [Oracle.or, oneO_at, oneO_ne]
  have o5 : O (.fn 14) [.nilslice, .str s] M = some ⟨.str [45], none, []⟩ := by rw [hOd]; simp [Oracle.or, oneO_at, oneO_ne]
  have o6 : ∀ M, O (.fn 19) [.str s] M = some ⟨.bool (chkR s == 0), none, []⟩ := fun M => by rw [hOd]; simp [Oracle.or, pureO, Tryz.knF2, oneO_ne, hs1]
  clear hOd
  have h : callFn (tyOf Tryz.prog) (fun _ => [13, 52]) (fnOf Tryz.prog) O 1 5 [x, .str s, .str u] M = some ⟨.bool true, none, []⟩ := by
    by_cases hc : chkR s = 0
    · rw [if_pos hc] at o3
      rw [hc] at o6
      rcases hx with ⟨rfl, rfl⟩ | ⟨rfl, rfl⟩
      all_goals simp [callFn, hG, Tryz.f5, hsI, hsN, huI, huN, o1, o2, o3, o4, o5, o6, execC_loop, iter]
    · rw [if_neg hc] at o3
      have hc2 : (chkR s == 0) = false := by simpa using hc
      rw [hc2] at o6
      rcases hx with ⟨rfl, rfl⟩ | ⟨rfl, rfl⟩
      all_goals simp [callFn, hG, Tryz.f5, hsI, hsN, huI, huN, o1, o2, o3, o4, o6, execC_loop, iter]
  have := (callFn_sound Tryz.mixed (tyOf_ok _) hO (fnOf_ok _) h).1
  simpa [CallRes.mem] using this
end Go.Proofs
namespace Go.Proofs
open Go.Eng
theorem mkH_small (B : List Bit) (h : B.length ≤ 8) : ∀ x ∈ mkH 0 B, okH x := mkH_ok B 0 (by omega)
theorem Tryz.rowM (B : List Bit) (L : List Iv) : RowC 3 [.cells false 3 (btC B), .cells true 3 (ivC L)] (.slice 1 0 L.length none) L.length (ivC L) := ⟨1, true, ivC L, rfl, rfl, List.take_of_length_le (Nat.le_refl _)⟩
set_option maxHeartbeats 3200000 in
theorem Tryz.aWelllogUnits (B : List Bit) (hB : ∀ b ∈ B, okBit b) (s u : List UInt8) : ACallsTo Tryz.prog 5 [.slice 0 0 B.length none, .str s, .str u] [.cells false 3 (btC B)] (.bool true) [.cells false 3 (btC B)] := by
  have hG : fnOf Tryz.prog 5 = some Tryz.f5 := by kernel_rfl
  by_cases h8 : B.length ≤ 8
  · have h8I : ¬ (8 : Int) < B.length := by omega
    have h8N : ¬ 8 < B.length := by omega
    by_cases hs : s.length ≤ 24
    · have hsI : ¬ (24 : Int) < s.length := by omega
      have hsN : ¬ 24 < s.length := by omega
      have hs1 : s.length ≤ 1000000000 := by omega
      by_cases hu : u.length ≤ 40
      · have huI : ¬ (40 : Int) < u.length := by omega
        have huN : ¬ 40 < u.length := by omega
        cases hBc : B with
        | nil => exact Tryz.wu_nil _ _ (.inl ⟨rfl, rfl⟩) s u hs hu
        | cons b0 B0 =>
          rw [← hBc]
          have hL := mkL_short B 0 (by omega)
          have h0 := logR_mkL B h8
          have hlen := mkL_length 0 B
          have hmk := Tryz.aMakeP B hB h8
          have hLH := mkL_H 0 B
          have hHl := mkH_length 0 B
          have hH := mkH_small B h8
          have hdash := mkH_dash B 0
          obtain ⟨H, hHd⟩ : ∃ H, H = mkH 0 B := ⟨_, rfl⟩
          rw [← hHd] at hLH hHl hH hdash
          obtain ⟨L, hLd⟩ : ∃ L, L = mkL 0 B := ⟨_, rfl⟩
          rw [← hLd] at hL h0 hlen hmk hLH
          have hne : L ≠ [] := by
            intro e; rw [e, hBc] at hlen; simp at hlen
          have hth0 : thN u H ≤ 1000000 := by have := thN_le u H hH; omega
          have hmk' : ACallsTo Tryz.prog 9 [.slice 0 0 B.length none] [.cells false 3 (btC B)] (.slice 1 0 L.length none) ([.cells false 3 (btC B)] ++ [.cells true 3 (ivC L)]) := by
            cases L with
            | nil => exact absurd rfl hne
            | cons x L => exact hmk
          have hrow := Tryz.rowM B L
          have hun : ACallsTo Tryz.prog 17 [.slice 1 0 L.length none, .str s] [.cells false 3 (btC B), .cells true 3 (ivC L)] (.tuple [.str (unitR L s).1, .bool (unitR L s).2.1, .int .i64 (unitR L s).2.2]) ([.cells false 3 (btC B), .cells true 3 (ivC L)] ++ []) := by
            rw [List.append_nil]
            exact ACallsTo.rows1R (rest := [.str s]) (ivC_closed L) rfl rfl (Tryz.aUnitP L hL (by omega) s hs1) hrow
          have hth : ACallsTo Tryz.prog 18 [.slice 1 0 L.length none, .str u] [.cells false 3 (btC B), .cells true 3 (ivC L)] (.tuple [.str (ratS (hf (thN u H))), .int .i64 0]) ([.cells false 3 (btC B), .cells true 3 (ivC L)] ++ []) := by
            rw [List.append_nil]
            exact ACallsTo.rows1R (rest := [.str u]) (ivC_closed L) rfl rfl (Tryz.aThickP H hH L hLH hL (by omega) h0 u hth0) hrow
          obtain ⟨w, hw⟩ : ∃ w, w = ratS (hf (thN u H)) := ⟨_, rfl⟩
          obtain ⟨b, hb⟩ : ∃ b, loopsF Tryz.f5 = [b] := ⟨_, rfl⟩
          rw [← hw] at hth
          have hLl : H.length = L.length := by rw [hLH]; simp
          by_cases hc : chkR s = 0
          · obtain ⟨q, hq, rfl, q1, q2⟩ := chkR_rat hc
            have hlu : ACallsTo Tryz.prog 14 [.slice 1 0 L.length none, .str (ratS q)] [.cells false 3 (btC B), .cells true 3 (ivC L)] (.str (unitL (L.find? (hasB q)))) ([.cells false 3 (btC B), .cells true 3 (ivC L)] ++ []) := by
              rw [List.append_nil]
              exact ACallsTo.rows1R (rest := [.str (ratS q)]) (ivC_closed L) rfl rfl (Tryz.aLUnitP L (logR_right h0) q ⟨by omega, by omega⟩ (by omega)) hrow
            have hur : unitR L (ratS q) = match L.find? (hasB q) with | none => ([], false, 0) | some x => (x.1, true, 0) := by
              unfold unitR
              rw [if_neg (by simpa using h0), if_neg (by simpa using hc), hq, Option.getD_some]
              rfl
            have hO := (oneO_ok hmk').or ((oneO_ok hun).or ((oneO_ok hth).or ((oneO_ok hlu).or Tryz.knF2_ok)))
            obtain ⟨v, hv⟩ : ∃ v, v = unitR L (ratS q) := ⟨_, rfl⟩
            obtain ⟨z, hz⟩ : ∃ z, z = unitL (L.find? (hasB q)) := ⟨_, rfl⟩
            rw [← hv] at hur
            rw [← hv, ← hz] at hO
            obtain ⟨O, hOd⟩ : ∃ O, O = Oracle.or (oneO 9 [.slice 0 0 B.length none] [.cells false 3 (btC B)] ⟨.slice 1 0 L.length none, none, [.cells true 3 (ivC L)]⟩) (Oracle.or (oneO 17 [.slice 1 0 L.length none, .str (ratS q)] [.cells false 3 (btC B), .cells true 3 (ivC L)] ⟨.tuple [.str v.1, .bool v.2.1, .int .i64 v.2.2], none, []⟩) (Oracle.or (oneO 18 [.slice 1 0 L.length none, .str u] [.cells false 3 (btC B), .cells true 3 (ivC L)] ⟨.tuple [.str w, .int .i64 0], none, []⟩) (Oracle.or (oneO 14 [.slice 1 0 L.length none, .str (ratS q)] [.cells false 3 (btC B), .cells true 3 (ivC L)] ⟨.str z, none, []⟩) (pureO Tryz.knF2)))) := ⟨_, rfl⟩
            rw [← hOd] at hO
            have o1 : ∀ M, O (.fn 8) [] M = some ⟨.bool true, none, []⟩ := fun M => by rw [hOd]; simp [Oracle.or, pureO, Tryz.knF2, oneO_ne]
            have o2 : O (.fn 9) [.slice 0 0 B.length none] [.cells false 3 (btC B)] = some ⟨.slice 1 0 L.length none, none, [.cells true 3 (ivC L)]⟩ := by rw [hOd]; simp [Oracle.or, oneO_at]
            have o3 : O (.fn 17) [.slice 1 0 L.length none, .str (ratS q)] [.cells false 3 (btC B), .cells true 3 (ivC L)] = some ⟨.tuple [.str v.1, .bool v.2.1, .int .i64 v.2.2], none, []⟩ := by rw [hOd]; simp [Oracle.or, oneO_at, oneO_ne]
            have o4 : O (.fn 18) [.slice 1 0 L.length none, .str u] [.cells false 3 (btC B), .cells true 3 (ivC L)] = some ⟨.tuple [.str w, .int .i64 0], none, []⟩ := by rw [hOd]; simp [Oracle.or, oneO_at, oneO_ne]
            have o5 : O (.fn 14) [.slice 1 0 L.length none, .str (ratS q)] [.cells false 3 (btC B), .cells true 3 (ivC L)] = some ⟨.str z, none, []⟩ := by rw [hOd]; simp [Oracle.or, oneO_at, oneO_ne]
            have o6 : ∀ M, O (.fn 19) [.str (ratS q)] M = some ⟨.bool true, none, []⟩ := fun M => by rw [hOd]; simp [Oracle.or, pureO, Tryz.knF2, oneO_ne, hs1, hc]
            have o7 : ∀ args M, O (.fn 16) args M = pureO Tryz.w5F (.fn 16) args M := fun args M => by rw [hOd]; simp only [Oracle.or, oneO_ne (show 16 ≠ 9 by decide), oneO_ne (show 16 ≠ 17 by decide), oneO_ne (show 16 ≠ 18 by decide), oneO_ne (show 16 ≠ 14 by decide)]; rfl
            have o8 : ∀ args M, O (.fn 15) args M = pureO Tryz.w5F (.fn 15) args M := fun args M => by rw [hOd]; simp only [Oracle.or, oneO_ne (show 15 ≠ 9 by decide), oneO_ne (show 15 ≠ 17 by decide), oneO_ne (show 15 ≠ 18 by decide), oneO_ne (show 15 ≠ 14 by decide)]; rfl
            clear hOd hun hth hlu hmk'
            obtain ⟨F, hF⟩ := Tryz.wu_loop (O := O) (K := L.length + 1) o7 o8 B H hH u (by omega) (by omega) hth0 hb
            rw [← hLH, ← hw, hLl] at hF
            have hF1 := fun env0 d h => (hF env0 d h).1
            have hF2 := fun env0 d h => (hF env0 d h).2.1
            have hF3 := fun env0 d h t ht => (hF env0 d h).2.2 t ht
            clear hF
            simp [loopsF, loopsC, Tryz.f5] at hb
            subst hb
            have h : callFn (tyOf Tryz.prog) (fun _ => [13, 52]) (fnOf Tryz.prog) O (L.length + 1) 5 [.slice 0 0 B.length none, .str (ratS q), .str u] [.cells false 3 (btC B)] = some ⟨.bool true, none, []⟩ := by
              cases hf : L.find? (hasB q) with
              | none =>
                rw [hf] at hur hz
                simp only [unitL] at hur hz
                subst hur hz
                simp [callFn, hG, Tryz.f5, h8I, h8N, hsI, hsN, huI, huN, o1, o2, o3, o4, o5, o6, hF1, hF2, hF3]
              | some x =>
                rw [hf] at hur hz
                simp only [unitL] at hur hz
                have hxd : x.1 ≠ [45] := by
                  have hm := List.mem_of_find?_eq_some hf
                  rw [hLH] at hm
                  obtain ⟨y, hy, rfl⟩ := List.mem_map.1 hm
                  exact hdash y hy
                obtain ⟨x1, hx1⟩ : ∃ x1, x1 = x.1 := ⟨_, rfl⟩
                rw [← hx1] at hur hz hxd
                subst hur hz
                have hxb : (z == [45]) = false := by simpa using hxd
                simp [callFn, hG, Tryz.f5, h8I, h8N, hsI, hsN, huI, huN, o1, o2, o3, o4, o5, o6, hF1, hF2, hF3, hxb]
            have := (callFn_sound Tryz.mixed (tyOf_ok _) hO (fnOf_ok _) h).1
            simpa [CallRes.mem] using this
          · have hur : unitR L s = ([], false, 2) := by
              unfold unitR
              rw [if_neg (by simpa using h0), if_pos hc]
            have hc2 : (chkR s == 0) = false := by simpa using hc
            rw [hur] at hun
            have hO := (oneO_ok hmk').or ((oneO_ok hun).or ((oneO_ok hth).or Tryz.knF2_ok))
            obtain ⟨O, hOd⟩ : ∃ O, O = Oracle.or (oneO 9 [.slice 0 0 B.length none] [.cells false 3 (btC B)] ⟨.slice 1 0 L.length none, none, [.cells true 3 (ivC L)]⟩) (Oracle.or (oneO 17 [.slice 1 0 L.length none, .str s] [.cells false 3 (btC B), .cells true 3 (ivC L)] ⟨.tuple [.str [], .bool false, .int .i64 2], none, []⟩) (Oracle.or (oneO 18 [.slice 1 0 L.length none, .str u] [.cells false 3 (btC B), .cells true 3 (ivC L)] ⟨.tuple [.str w, .int .i64 0], none, []⟩) (pureO Tryz.knF2))) := ⟨_, rfl⟩
            have hO' : OracleOk Tryz.prog O := by rw [hOd]; exact hO
            have o1 : ∀ M, O (.fn 8) [] M = some ⟨.bool true, none, []⟩ := fun M => by rw [hOd]; simp [Oracle.or, pureO, Tryz.knF2, oneO_ne]
            have o2 : O (.fn 9) [.slice 0 0 B.length none] [.cells false 3 (btC B)] = some ⟨.slice 1 0 L.length none, none, [.cells true 3 (ivC L)]⟩ := by rw [hOd]; simp [Oracle.or, oneO_at]
            have o3 : O (.fn 17) [.slice 1 0 L.length none, .str s] [.cells false 3 (btC B), .cells true 3 (ivC L)] = some ⟨.tuple [.str [], .bool false, .int .i64 2], none, []⟩ := by rw [hOd]; simp [Oracle.or, oneO_at, oneO_ne]
            have o4 : O (.fn 18) [.slice 1 0 L.length none, .str u] [.cells false 3 (btC B), .cells true 3 (ivC L)] = some ⟨.tuple [.str w, .int .i64 0], none, []⟩ := by rw [hOd]; simp [Oracle.or, oneO_at, oneO_ne]
            have o6 : ∀ M, O (.fn 19) [.str s] M = some ⟨.bool false, none, []⟩ := fun M => by rw [hOd]; simp [Oracle.or, pureO, Tryz.knF2, oneO_ne, hs1, hc2]
            have o7 : ∀ args M, O (.fn 16) args M = pureO Tryz.w5F (.fn 16) args M := fun args M => by rw [hOd]; simp only [Oracle.or, oneO_ne (show 16 ≠ 9 by decide), oneO_ne (show 16 ≠ 17 by decide), oneO_ne (show 16 ≠ 18 by decide)]; rfl
            have o8 : ∀ args M, O (.fn 15) args M = pureO Tryz.w5F (.fn 15) args M := fun args M => by rw [hOd]; simp only [Oracle.or, oneO_ne (show 15 ≠ 9 by decide), oneO_ne (show 15 ≠ 17 by decide), oneO_ne (show 15 ≠ 18 by decide)]; rfl
            clear hOd hun hth hmk' hO
            obtain ⟨F, hF⟩ := Tryz.wu_loop (O := O) (K := L.length + 1) o7 o8 B H hH u (by omega) (by omega) hth0 hb
            rw [← hLH, ← hw, hLl] at hF
            have hF1 := fun env0 d h => (hF env0 d h).1
            have hF2 := fun env0 d h => (hF env0 d h).2.1
            have hF3 := fun env0 d h t ht => (hF env0 d h).2.2 t ht
            clear hF
            simp [loopsF, loopsC, Tryz.f5] at hb
            subst hb
            have h : callFn (tyOf Tryz.prog) (fun _ => [13, 52]) (fnOf Tryz.prog) O (L.length + 1) 5 [.slice 0 0 B.length none, .str s, .str u] [.cells false 3 (btC B)] = some ⟨.bool true, none, []⟩ := by
              simp [callFn, hG, Tryz.f5, h8I, h8N, hsI, hsN, huI, huN, o1, o2, o3, o4, o6, hF1, hF2, hF3]
            have := (callFn_sound Tryz.mixed (tyOf_ok _) hO' (fnOf_ok _) h).1
            simpa [CallRes.mem] using this
      · have huI : (40 : Int) < u.length := by omega
        have huN : 40 < u.length := by omega
        have h : callFn (tyOf Tryz.prog) (fun _ => [13, 52]) (fnOf Tryz.prog) (pureO Tryz.knF2) 1 5 [.slice 0 0 B.length none, .str s, .str u] [.cells false 3 (btC B)] = some ⟨.bool true, none, []⟩ := by
          simp [callFn, hG, Tryz.f5, pureO, Tryz.knF2, h8I, h8N, hsI, hsN, huI, huN]
        have := (callFn_sound Tryz.mixed (tyOf_ok _) Tryz.knF2_ok (fnOf_ok _) h).1
        simpa [CallRes.mem] using this
    · have hsI : (24 : Int) < s.length := by omega
      have hsN : 24 < s.length := by omega
      have h : callFn (tyOf Tryz.prog) (fun _ => [13, 52]) (fnOf Tryz.prog) (pureO Tryz.knF2) 1 5 [.slice 0 0 B.length none, .str s, .str u] [.cells false 3 (btC B)] = some ⟨.bool true, none, []⟩ := by
        simp [callFn, hG, Tryz.f5, pureO, Tryz.knF2, h8I, h8N, hsI, hsN]
      have := (callFn_sound Tryz.mixed (tyOf_ok _) Tryz.knF2_ok (fnOf_ok _) h).1
      simpa [CallRes.mem] using this
  · have h8I : (8 : Int) < B.length := by omega
    have h8N : 8 < B.length := by omega
    have h : callFn (tyOf Tryz.prog) (fun _ => [13, 52]) (fnOf Tryz.prog) (pureO Tryz.knF2) 1 5 [.slice 0 0 B.length none, .str s, .str u] [.cells false 3 (btC B)] = some ⟨.bool true, none, []⟩ := by
      simp [callFn, hG, Tryz.f5, pureO, Tryz.knF2, h8I, h8N]
    have := (callFn_sound Tryz.mixed (tyOf_ok _) Tryz.knF2_ok (fnOf_ok _) h).1
    simpa [CallRes.mem] using this
theorem Tryz.aWelllogUnitsNil (s u : List UInt8) : ACallsTo Tryz.prog 5 [.nilslice, .str s, .str u] [] (.bool true) [] := by
  have hG : fnOf Tryz.prog 5 = some Tryz.f5 := by kernel_rfl
  by_cases hs : s.length ≤ 24
  · have hsI : ¬ (24 : Int) < s.length := by omega
    have hsN : ¬ 24 < s.length := by omega
    by_cases hu : u.length ≤ 40
    · exact Tryz.wu_nil _ _ (.inr ⟨rfl, rfl⟩) s u hs hu
    · have huI : (40 : Int) < u.length := by omega
      have huN : 40 < u.length := by omega
      have h : callFn (tyOf Tryz.prog) (fun _ => [13, 52]) (fnOf Tryz.prog) (pureO Tryz.knF2) 1 5 [.nilslice, .str s, .str u] [] = some ⟨.bool true, none, []⟩ := by
        simp [callFn, hG, Tryz.f5, pureO, Tryz.knF2, hsI, hsN, huI, huN]
      have := (callFn_sound Tryz.mixed (tyOf_ok _) Tryz.knF2_ok (fnOf_ok _) h).1
      simpa [CallRes.mem] using this
  · have hsI : (24 : Int) < s.length := by omega
    have hsN : 24 < s.length := by omega
    have h : callFn (tyOf Tryz.prog) (fun _ => [13, 52]) (fnOf Tryz.prog) (pureO Tryz.knF2) 1 5 [.nilslice, .str s, .str u] [] = some ⟨.bool true, none, []⟩ := by
      simp [callFn, hG, Tryz.f5, pureO, Tryz.knF2, hsI, hsN]
    have := (callFn_sound Tryz.mixed (tyOf_ok _) Tryz.knF2_ok (fnOf_ok _) h).1
    simpa [CallRes.mem] using this
end Go.Proofs
