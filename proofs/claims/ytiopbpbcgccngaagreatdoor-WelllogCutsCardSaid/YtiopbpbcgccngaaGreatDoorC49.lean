/- Part C49 of a proof: see its last part, YtiopbpbcgccngaaGreatDoorC54.lean. -/
import Derived.Test.YtiopbpbcgccngaaGreatDoorC48
set_option linter.all false
namespace Go.Proofs
open Go.Eng
theorem Tryz.aMergeP (L : List Iv) (hL : shortIv L) (hl : L.length ≤ 1000000) (h0 : logR L = 0) (hne : L ≠ []) :
    ACallsTo Tryz.prog 20 [.slice 0 0 L.length none] [.cells false 3 (ivC L)] (.tuple [.slice 1 0 (mergeL L).length none, .int .i64 0]) [.cells false 3 (ivC L), .cells true 3 (ivC (mergeL L))] := by
  have hG : fnOf Tryz.prog 20 = some Tryz.f20 := by kernel_rfl
  have hi : ∀ r, ivs (.cells false 3 (ivC L) :: r) (.slice 0 0 L.length none) = some L := fun r => ivs_at rfl rfl (ivC_take L)
  have hsb := shortB_iff.2 hL
  have hl2 : L.length ≤ 1000000000 := by omega
  have hm : ACallsTo Tryz.prog 52 [.slice 0 0 L.length none] [.cells false 3 (ivC L)] (.slice 1 0 (mergeL L).length none) ([.cells false 3 (ivC L)] ++ [.cells true 3 (ivC (mergeL L))]) := Tryz.aMmergeP L hl hne
  obtain ⟨R, hR⟩ : ∃ R, R = mergeL L := ⟨_, rfl⟩
  rw [← hR] at hm ⊢
  have h : callFn (tyOf Tryz.prog) (fun _ => []) (fnOf Tryz.prog) (Oracle.or (oneO 52 [.slice 0 0 L.length none] [.cells false 3 (ivC L)] ⟨.slice 1 0 R.length none, none, [.cells true 3 (ivC R)]⟩) Tryz.w6O) 1 20 [.slice 0 0 L.length none] [.cells false 3 (ivC L)] = some ⟨.tuple [.slice 1 0 R.length none, .int .i64 0], none, [.cells true 3 (ivC R)]⟩ := by
    simp [callFn, hG, Tryz.f20, Oracle.or, oneO_at, oneO_ne, Tryz.w6O, hi, hsb, hl2, h0, ivC_ren, ivC_refs]
  have := (callFn_sound Tryz.mixed (tyOf_ok _) ((oneO_ok hm).or Tryz.w6_ok) (fnOf_ok _) h).1
  simpa [CallRes.mem] using this
theorem Tryz.aMergeNil (M : Mem) : ACallsTo Tryz.prog 20 [.nilslice] M (.tuple [.nilslice, .int .i64 0]) M := by
  have hG : fnOf Tryz.prog 20 = some Tryz.f20 := by kernel_rfl
  have hi : ∀ M, ivs M .nilslice = some [] := fun M => rfl
  have hs : shortB [] = true := rfl
  have hm : ACallsTo Tryz.prog 52 [.nilslice] M .nilslice (M ++ []) := by rw [List.append_nil]; exact Tryz.aMmergeNil M
  have h : callFn (tyOf Tryz.prog) (fun _ => []) (fnOf Tryz.prog) (Oracle.or (oneO 52 [.nilslice] M ⟨.nilslice, none, []⟩) Tryz.w6O) 1 20 [.nilslice] M = some ⟨.tuple [.nilslice, .int .i64 0], none, []⟩ := by
    simp [callFn, hG, Tryz.f20, Oracle.or, oneO_at, oneO_ne, Tryz.w6O, hi, hs, logR_nil]
  have := (callFn_sound Tryz.mixed (tyOf_ok _) ((oneO_ok hm).or Tryz.w6_ok) (fnOf_ok _) h).1
  simpa [CallRes.mem] using this
def cutE (s t : List UInt8) : Int := if chkR s = 0 ∧ chkR t = 0 then (if (ratP t).getD 0 ≤ (ratP s).getD 0 then 6 else 0) else 2
theorem cutE_zero {s t : List UInt8} (h : cutE s t = 0) : ∃ a b, s = ratS a ∧ t = ratS b ∧ fineD2 a ∧ fineD2 b ∧ a < b := by
  unfold cutE at h
  split at h
  · rename_i hc
    obtain ⟨a, ha, rfl, a1, a2⟩ := chkR_rat hc.1
    obtain ⟨b, hb, rfl, b1, b2⟩ := chkR_rat hc.2
    split at h
    · cases h
    · rename_i hn
      rw [ha, hb] at hn
      exact ⟨a, b, rfl, rfl, ⟨a1, a2⟩, ⟨b1, b2⟩, Rat.not_le.1 hn⟩
  · cases h
theorem Tryz.aCutE (x : AV) (M : Mem) (L : List Iv) (hi : ivs M x = some L) (hL : shortIv L) (hl : L.length ≤ 1000000) (h0 : logR L = 0) (s t : List UInt8) (hs : s.length ≤ 1000000000) (ht : t.length ≤ 1000000000) (he : cutE s t ≠ 0) :
    ACallsTo Tryz.prog 21 [x, .str s, .str t] M (.tuple [.nilslice, .int .i64 (cutE s t)]) M := by
  have hG : fnOf Tryz.prog 21 = some Tryz.f21 := by kernel_rfl
  have hsb := shortB_iff.2 hL
  have hl2 : L.length ≤ 1000000000 := by omega
  have h : callFn (tyOf Tryz.prog) (fun _ => [9, 33]) (fnOf Tryz.prog) Tryz.w25O 1 21 [x, .str s, .str t] M = some ⟨.tuple [.nilslice, .int .i64 (cutE s t)], none, []⟩ := by
    by_cases c1 : chkR s = 0
    · by_cases c2 : chkR t = 0
      · have hE : cutE s t = if (ratP t).getD 0 ≤ (ratP s).getD 0 then 6 else 0 := by unfold cutE; rw [if_pos ⟨c1, c2⟩]
        obtain ⟨a, ha, rfl, a1, a2⟩ := chkR_rat c1
        obtain ⟨b, hb, rfl, b1, b2⟩ := chkR_rat c2
        rw [ha, hb] at hE
        simp only [Option.getD_some] at hE
        by_cases hba : b ≤ a
        · rw [if_pos hba] at hE
          have c3 := cmpQ_le.2 hba
          have a1' : (natD a.num.natAbs).length ≤ 40000 := by omega
          have a2' : (natD a.den).length ≤ 40000 := by omega
          have b1' : (natD b.num.natAbs).length ≤ 40000 := by omega
          have b2' : (natD b.den).length ≤ 40000 := by omega
          rw [hE]
          simp [callFn, hG, Tryz.f21, Tryz.w25O, Tryz.w6O, pureO, Tryz.w5F, Tryz.ratF4, Tryz.ratF3, ratP_ratS, hi, hsb, hl2, h0, hs, ht, c1, c2, c3, a1', a2', b1', b2']
        · rw [if_neg hba] at hE; exact absurd hE he
      · have hE : cutE s t = 2 := by unfold cutE; rw [if_neg (fun h => c2 h.2)]
        rw [hE]
        simp [callFn, hG, Tryz.f21, Tryz.w25O, Tryz.w6O, pureO, Tryz.w5F, Tryz.ratF4, hi, hsb, hl2, h0, hs, ht, c1, c2]
    · have hE : cutE s t = 2 := by unfold cutE; rw [if_neg (fun h => c1 h.1)]
      rw [hE]
      simp [callFn, hG, Tryz.f21, Tryz.w25O, Tryz.w6O, pureO, Tryz.w5F, Tryz.ratF4, hi, hsb, hl2, h0, hs, c1]
  have := (callFn_sound Tryz.mixed (tyOf_ok _) Tryz.w25_ok (fnOf_ok _) h).1
  simpa [CallRes.mem] using this
theorem Tryz.aCutP (L : List Iv) (hL : shortIv L) (hl : L.length ≤ 1000000) (h0 : logR L = 0) (a b : Rat) (ha : fineD2 a) (hb2 : fineD2 b) (hab : a < b) :
    ACallsTo Tryz.prog 21 [.slice 0 0 L.length none, .str (ratS a), .str (ratS b)] [.cells false 3 (ivC L)] (.tuple [ctO 1 (cutL a b L), .int .i64 0]) (ctM L (cutL a b L)) := by
  have hG : fnOf Tryz.prog 21 = some Tryz.f21 := by kernel_rfl
  have hi : ∀ r, ivs (.cells false 3 (ivC L) :: r) (.slice 0 0 L.length none) = some L := fun r => ivs_at rfl rfl (ivC_take L)
  have hsb := shortB_iff.2 hL
  have hl2 : L.length ≤ 1000000000 := by omega
  obtain ⟨c, hb⟩ : ∃ b, loopsF Tryz.f21 = [b] := ⟨_, rfl⟩
  obtain ⟨F, hF⟩ := Tryz.cut_loop (O := Tryz.w25O) (K := L.length + 1) (fun _ _ => rfl) (fun _ _ => rfl) (fun _ _ => rfl) L (logR_right h0) a b ha hb2 hl (by omega) hb
  simp [loopsF, loopsC, Tryz.f21] at hb
  subst hb
  have hF1 := fun env0 d h => (hF env0 d h).1
  have hF2 := fun env0 d h => (hF env0 d h).2
  clear hF
  obtain ⟨a1, a2⟩ := ha
  obtain ⟨b1, b2⟩ := hb2
  have c1 := chkR_ratS a1 a2
  have c2 := chkR_ratS b1 b2
  have a1' : (natD a.num.natAbs).length ≤ 40000 := by omega
  have a2' : (natD a.den).length ≤ 40000 := by omega
  have b1' : (natD b.num.natAbs).length ≤ 40000 := by omega
  have b2' : (natD b.den).length ≤ 40000 := by omega
  have l1 : (ratS a).length ≤ 1000000000 := fine_len (q := a) ⟨by omega, by omega⟩
  have l2 : (ratS b).length ≤ 1000000000 := fine_len (q := b) ⟨by omega, by omega⟩
  have c3 : ¬ cmpQ b a ≤ 0 := fun h => absurd (cmpQ_le.1 h) (Rat.not_le.2 hab)
  obtain ⟨C, hC⟩ : ∃ C, C = cutL a b L := ⟨_, rfl⟩
  rw [← hC] at hF1 hF2 ⊢
  cases C with
  | nil =>
    have h : callFn (tyOf Tryz.prog) (fun _ => [9, 33]) (fnOf Tryz.prog) Tryz.w25O (L.length + 1) 21 [.slice 0 0 L.length none, .str (ratS a), .str (ratS b)] [.cells false 3 (ivC L)] = some ⟨.tuple [.nilslice, .int .i64 0], none, []⟩ := by
      simp [callFn, hG, Tryz.f21, Tryz.w25O, Tryz.w6O, pureO, Tryz.w5F, Tryz.ratF4, Tryz.ratF3, ratP_ratS, hi, hsb, hl2, h0, l1, l2, c1, c2, c3, a1', a2', b1', b2', hF1, hF2, ctM, ctO]
    have := (callFn_sound Tryz.mixed (tyOf_ok _) Tryz.w25_ok (fnOf_ok _) h).1
    simpa [CallRes.mem, ctM, ctO] using this
  | cons x C =>
    obtain ⟨R, hR⟩ : ∃ R, R = ivC (x :: C) := ⟨_, rfl⟩
    have hR1 : ∀ f, AV.rens f R = R := fun f => by rw [hR]; exact ivC_ren f _
    have hR2 : ∀ n, AV.refsL n R = [] := fun n => by rw [hR]; exact ivC_refs n _
    simp only [ctM, ctO, ← hR] at hF1 hF2 ⊢
    have h : callFn (tyOf Tryz.prog) (fun _ => [9, 33]) (fnOf Tryz.prog) Tryz.w25O (L.length + 1) 21 [.slice 0 0 L.length none, .str (ratS a), .str (ratS b)] [.cells false 3 (ivC L)] = some ⟨.tuple [.slice 1 0 (C.length + 1) none, .int .i64 0], none, [.cells true 3 R]⟩ := by
      simp [callFn, hG, Tryz.f21, Tryz.w25O, Tryz.w6O, pureO, Tryz.w5F, Tryz.ratF4, Tryz.ratF3, ratP_ratS, hi, hsb, hl2, h0, l1, l2, c1, c2, c3, a1', a2', b1', b2', hF1, hF2, hR1, hR2]
    have := (callFn_sound Tryz.mixed (tyOf_ok _) Tryz.w25_ok (fnOf_ok _) h).1
    simpa [CallRes.mem] using this
theorem Tryz.aCutNil (a b : Rat) (ha : fineD2 a) (hb2 : fineD2 b) (hab : a < b) (M : Mem) :
    ACallsTo Tryz.prog 21 [.nilslice, .str (ratS a), .str (ratS b)] M (.tuple [.nilslice, .int .i64 0]) M := by
  have hG : fnOf Tryz.prog 21 = some Tryz.f21 := by kernel_rfl
  have hi : ∀ M, ivs M .nilslice = some [] := fun M => rfl
  have hs : shortB [] = true := rfl
  obtain ⟨a1, a2⟩ := ha
  obtain ⟨b1, b2⟩ := hb2
  have c1 := chkR_ratS a1 a2
  have c2 := chkR_ratS b1 b2
  have a1' : (natD a.num.natAbs).length ≤ 40000 := by omega
  have a2' : (natD a.den).length ≤ 40000 := by omega
  have b1' : (natD b.num.natAbs).length ≤ 40000 := by omega
  have b2' : (natD b.den).length ≤ 40000 := by omega
  have l1 : (ratS a).length ≤ 1000000000 := fine_len (q := a) ⟨by omega, by omega⟩
  have l2 : (ratS b).length ≤ 1000000000 := fine_len (q := b) ⟨by omega, by omega⟩
  have c3 : ¬ cmpQ b a ≤ 0 := fun h => absurd (cmpQ_le.1 h) (Rat.not_le.2 hab)
  have h : callFn (tyOf Tryz.prog) (fun _ => [9, 33]) (fnOf Tryz.prog) Tryz.w25O 1 21 [.nilslice, .str (ratS a), .str (ratS b)] M = some ⟨.tuple [.nilslice, .int .i64 0], none, []⟩ := by
    simp [callFn, hG, Tryz.f21, Tryz.w25O, Tryz.w6O, pureO, Tryz.w5F, Tryz.ratF4, Tryz.ratF3, ratP_ratS, hi, hs, logR_nil, l1, l2, c1, c2, c3, a1', a2', b1', b2', execC_loop, iter]
  have := (callFn_sound Tryz.mixed (tyOf_ok _) Tryz.w25_ok (fnOf_ok _) h).1
  simpa [CallRes.mem] using this
theorem Tryz.eqIv (a b c x y z : List UInt8) : eqTy (tyOf Tryz.prog) 20 33 (.agg [.str a, .str b, .str c]) (.agg [.str x, .str y, .str z]) = some ((a == x) && ((b == y) && (c == z))) := by
  have h1 : ∀ u v, eqTy (tyOf Tryz.prog) 19 9 (.str u) (.str v) = some (u == v) := by intro u v; rw [eqTy]; simp
  have h2 : ∀ u v, eqTy (tyOf Tryz.prog) 19 31 (.str u) (.str v) = some (u == v) := by intro u v; rw [eqTy]; simp
  rw [eqTy]
  simp [eqFs, partA, TyI.isAgg, h1, h2]
set_option maxHeartbeats 1600000 in
theorem Tryz.same_loop {O : Oracle} {K : Nat} (L : List Iv) (hl : L.length ≤ 1000000) (hK : L.length < K) {b : Code} (hb : loopsF Tryz.f22 = [b]) :
    ∃ F : Env → Bool → Env, ∀ env0 d, (Go.Eng.look env0 0 = .slice 0 0 L.length none ∧ Go.Eng.look env0 1 = .slice 1 0 L.length none ∧ Go.Eng.look env0 5 = .int .i64 0) →
      execC (tyOf Tryz.prog) (fun _ => [5]) O K 26 2 true (.loop b) ⟨env0, [.cells false 3 (ivC L), .cells false 3 (ivC L)], d⟩ = some (.exit 0, ⟨F env0 d, [.cells false 3 (ivC L), .cells false 3 (ivC L)], d⟩) ∧ True := by
  refine loop_rule rfl (fun env0 => Go.Eng.look env0 0 = .slice 0 0 L.length none ∧ Go.Eng.look env0 1 = .slice 1 0 L.length none ∧ Go.Eng.look env0 5 = .int .i64 0) (fun _ _ => True) ?_
  rintro env0 d ⟨h0, h1, h5⟩
  simp [loopsF, loopsC, Tryz.f22] at hb
  have hn : normE [5] (writesC b) env0 ((5, .int .i64 ((0 : Nat) : Int)) :: env0) = normE [5] (writesC b) env0 env0 := by simp [normE, h5]
  rw [← hn]
  have kl : (ivC L).length = L.length * 3 := ivC_length L
  refine iter_ind (α := Nat) (fun s => ⟨normE [5] (writesC b) env0 ((5, .int .i64 (s : Int)) :: env0), [.cells false 3 (ivC L), .cells false 3 (ivC L)], d⟩) (fun s => L.length - s) (fun s => s ≤ L.length) (.exit 0) _ d _ (by simp) ?_ K 0 (by omega) (by omega)
  rintro n hn1
  clear hn
  subst hb
  by_cases hlt : n < L.length
  · left
    obtain ⟨k, hk⟩ : ∃ k, L[n]? = some k := ⟨L[n], List.getElem?_eq_getElem hlt⟩
    obtain ⟨k1, _, _, _⟩ := ivC_at hk
    have w1 : IntKind.i64.wrap ((n : Int) + 1) = ((n + 1 : Nat) : Int) := by rw [wrap_i64 (by omega) (by omega)]; omega
    have k5 : n * 3 + 3 ≤ (ivC L).length := by omega
    obtain ⟨u, f, t⟩ := k
    simp only at k1
    refine ⟨n + 1, ?_⟩
    refine exists_and_fin (show n + 1 ≤ L.length ∧ L.length - (n + 1) < L.length - n from ⟨by omega, by omega⟩) ?_
    simp [h0, h1, hlt, k1, k5, w1, Tryz.eqIv, Nat.testBit]
  · right
    simp [h0, hlt]
theorem Tryz.aSameP (L : List Iv) (hl : L.length ≤ 1000000) :
    ACallsTo Tryz.prog 22 [.slice 0 0 L.length none, .slice 1 0 L.length none] [.cells false 3 (ivC L), .cells false 3 (ivC L)] (.bool true) [.cells false 3 (ivC L), .cells false 3 (ivC L)] := by
  have hG : fnOf Tryz.prog 22 = some Tryz.f22 := by kernel_rfl
  obtain ⟨b, hb⟩ : ∃ b, loopsF Tryz.f22 = [b] := ⟨_, rfl⟩
  obtain ⟨F, hF⟩ := Tryz.same_loop (O := noOracle) (K := L.length + 1) L hl (by omega) hb
  simp [loopsF, loopsC, Tryz.f22] at hb
  subst hb
  have hF1 := fun env0 d h => (hF env0 d h).1
  clear hF
  have h : callFn (tyOf Tryz.prog) (fun _ => [5]) (fnOf Tryz.prog) noOracle (L.length + 1) 22 [.slice 0 0 L.length none, .slice 1 0 L.length none] [.cells false 3 (ivC L), .cells false 3 (ivC L)] = some ⟨.bool true, none, []⟩ := by
    simp [callFn, hG, Tryz.f22, hF1]
  have := (callFn_sound Tryz.mixed (tyOf_ok _) (noOracle_ok _) (fnOf_ok _) h).1
  simpa [CallRes.mem] using this
theorem Tryz.aSameNil (M : Mem) : ACallsTo Tryz.prog 22 [.nilslice, .nilslice] M (.bool true) M := by
  have hG : fnOf Tryz.prog 22 = some Tryz.f22 := by kernel_rfl
  refine Tryz.run (noOracle_ok _) (lv := fun _ => [5]) (K := 1) rfl rfl ?_ M
  simp [callFn, hG, Tryz.f22, execC_loop, iter]
end Go.Proofs
namespace Go.Proofs
open Go.Eng
def wcM5 (B : List Bit) (L R : List Iv) : List Iv → Mem
  | [] => [.cells false 3 (btC B), .cells true 3 (ivC L), .cells true 3 (ivC R), .cells true 3 (ivC R), .cells true 3 (ivC R)]
  | a :: l => [.cells false 3 (btC B), .cells true 3 (ivC L), .cells true 3 (ivC R), .cells true 3 (ivC R), .cells true 3 (ivC R), .cells true 3 (ivC (a :: l))]
set_option maxHeartbeats 6400000 in
theorem Tryz.wc_loop5 {O : Oracle} {K : Nat} (hmax : ∀ args M, O (.fn 25) args M = Tryz.w25O (.fn 25) args M) (hmin : ∀ args M, O (.fn 26) args M = Tryz.w25O (.fn 26) args M) (hcmp : ∀ args M, O (.fn 24) args M = Tryz.w25O (.fn 24) args M)
    (B : List Bit) (R : List Iv) (L : List Iv) (hL : ∀ x ∈ L, rightIv x) (qs qt : Rat) (hqs : fineD2 qs) (hqt : fineD2 qt) (hl : L.length ≤ 1000000) (hK : L.length < K) {b : Code} (hb : loopsF Tryz.f6 = [b]) :
    ∃ F : Env → Bool → Env, ∀ env0 d, (Go.Eng.look env0 1 = .str (ratS qs) ∧ Go.Eng.look env0 2 = .str (ratS qt) ∧ Go.Eng.look env0 14 = .nilslice ∧ Go.Eng.look env0 99 = .slice 1 0 L.length none ∧ Go.Eng.look env0 100 = .int .i64 L.length ∧ Go.Eng.look env0 101 = .int .i64 0) →
      execC (tyOf Tryz.prog) (fun _ => [14, 101]) O K 133 1 true (.loop b) ⟨env0, [.cells false 3 (btC B), .cells true 3 (ivC L), .cells true 3 (ivC R), .cells true 3 (ivC R), .cells true 3 (ivC R)], d⟩ = some (.exit 0, ⟨F env0 d, wcM5 B L R (cutL qs qt L), d⟩) ∧
        (Go.Eng.look (F env0 d) 14 = ctO 5 (cutL qs qt L) ∧ (Go.Eng.look (F env0 d) 12 = Go.Eng.look env0 12 ∧ Go.Eng.look (F env0 d) 13 = Go.Eng.look env0 13)) := by
  refine loop_rule rfl (fun env0 => Go.Eng.look env0 1 = .str (ratS qs) ∧ Go.Eng.look env0 2 = .str (ratS qt) ∧ Go.Eng.look env0 14 = .nilslice ∧ Go.Eng.look env0 99 = .slice 1 0 L.length none ∧ Go.Eng.look env0 100 = .int .i64 L.length ∧ Go.Eng.look env0 101 = .int .i64 0) (fun env0 env' => Go.Eng.look env' 14 = ctO 5 (cutL qs qt L) ∧ (Go.Eng.look env' 12 = Go.Eng.look env0 12 ∧ Go.Eng.look env' 13 = Go.Eng.look env0 13)) ?_
  rintro env0 d ⟨h1, h2, h9, h31, h32, h33⟩
  simp [loopsF, loopsC, Tryz.f6] at hb
  have hn : normE [14, 101] (writesC b) env0 ((14, ctO 5 []) :: (101, .int .i64 ((0 : Nat) : Int)) :: env0) = normE [14, 101] (writesC b) env0 env0 := by simp [normE, h9, h33, ctO]
  rw [← hn]
  have kl : (ivC L).length = L.length * 3 := ivC_length L
  refine iter_ind (α := Nat × List Iv) (fun s => ⟨normE [14, 101] (writesC b) env0 ((14, ctO 5 s.2) :: (101, .int .i64 (s.1 : Int)) :: env0), wcM5 B L R s.2, d⟩) (fun s => L.length - s.1) (fun s => s.1 ≤ L.length ∧ s.2.length ≤ s.1 ∧ cutL qs qt L = s.2 ++ cutL qs qt (L.drop s.1)) (.exit 0) _ d _ (by simp) ?_ K (0, []) ⟨by simp, by simp, by rw [List.drop_zero]; rfl⟩ (by simp only; omega)
  rintro ⟨n, out⟩ ⟨hn1, hn3, he⟩
  simp only at hn1 hn3 he ⊢
  clear hn
  subst hb
  by_cases hlt : n < L.length
  · left
    obtain ⟨k, hk⟩ : ∃ k, L[n]? = some k := ⟨L[n], List.getElem?_eq_getElem hlt⟩
    obtain ⟨k1, _, _, _⟩ := ivC_at hk
    obtain ⟨a, z, hab⟩ := hL k (List.mem_of_getElem? hk)
    obtain ⟨e1, e2, ⟨a1, a2⟩, ⟨z1, z2⟩⟩ := ivN_some hab
    have hd : L.drop n = k :: L.drop (n + 1) := by
      rw [List.getElem?_eq_some_iff] at hk
      obtain ⟨h1, h2⟩ := hk
      rw [← h2]; exact List.drop_eq_getElem_cons h1
    rw [hd] at he
    have w1 : IntKind.i64.wrap ((n : Int) + 1) = ((n + 1 : Nat) : Int) := by rw [wrap_i64 (by omega) (by omega)]; omega
    have k5 : n * 3 + 3 ≤ (ivC L).length := by omega
    obtain ⟨u, f, t⟩ := k
    simp only at k1 e1 e2
    subst e1 e2
    obtain ⟨s1, s2⟩ := hqs
    obtain ⟨t1, t2⟩ := hqt
    have s1' : (natD qs.num.natAbs).length ≤ 40000 := by omega
    have s2' : (natD qs.den).length ≤ 40000 := by omega
    have t1' : (natD qt.num.natAbs).length ≤ 40000 := by omega
    have t2' : (natD qt.den).length ≤ 40000 := by omega
    obtain ⟨x, hx⟩ : ∃ x, x = if a < qs then qs else a := ⟨_, rfl⟩
    obtain ⟨y, hy⟩ : ∃ y, y = if qt < z then qt else z := ⟨_, rfl⟩
    have x1 : (natD x.num.natAbs).length ≤ 40000 := by rw [hx]; split <;> omega
    have x2 : (natD x.den).length ≤ 40000 := by rw [hx]; split <;> omega
    have y1 : (natD y.num.natAbs).length ≤ 40000 := by rw [hy]; split <;> omega
    have y2 : (natD y.den).length ≤ 40000 := by rw [hy]; split <;> omega
    have hci : cutI qs qt (u, ratS a, ratS z) = if x < y then some (u, ratS x, ratS y) else none := by
      unfold cutI; simp only [ratP_ratS, Option.getD_some, ← hx, ← hy]
    by_cases hxy : x < y
    · have c1 := cmpQ_lt.2 hxy
      have hcl : cutL qs qt ((u, ratS a, ratS z) :: L.drop (n + 1)) = (u, ratS x, ratS y) :: cutL qs qt (L.drop (n + 1)) := by
        unfold cutL; rw [List.filterMap_cons, hci, if_pos hxy]
      rw [hcl] at he
      refine ⟨(n + 1, out ++ [(u, ratS x, ratS y)]), ?_⟩
      refine exists_and_fin (show (n + 1 ≤ L.length ∧ (out ++ [(u, ratS x, ratS y)]).length ≤ n + 1 ∧ cutL qs qt L = (out ++ [(u, ratS x, ratS y)]) ++ cutL qs qt (L.drop (n + 1))) ∧ L.length - (n + 1) < L.length - n from ⟨⟨by omega, by simp; omega, by rw [he, List.append_assoc]; rfl⟩, by omega⟩) ?_
      clear he hci hcl
      cases out with
      | nil =>
        simp [h1, h2, h31, h32, hlt, k1, k5, hmax, hmin, hcmp, Tryz.w25O, Tryz.w6O, pureO, Tryz.w5F, Tryz.ratF4, Tryz.ratF3, ratP_ratS, ← hx, ← hy, a1, a2, z1, z2, s1', s2', t1', t2', x1, x2, y1, y2, c1, w1, ivC, ivC_refs, ivC_ren, wcM5, ctO, btC_refs, btC_ren, Nat.testBit]
      | cons c out =>
        obtain ⟨m, hm⟩ : ∃ m, m = out.length := ⟨_, rfl⟩
        have hl1 : (ivC (c :: out)).length = (m + 1) * 3 := by rw [ivC_length, hm]; rfl
        have hl2 : (ivC (c :: out)).take ((m + 1) * 3) = ivC (c :: out) := List.take_of_length_le (by omega)
        simp only [List.length_cons] at hn3
        have b1 : (m + 1 + 1) * 48 ≤ 140737488355328 := by omega
        have b2 : m + 1 + 1 ≤ 140737488355328 := by omega
        have b3 : m ≤ 140737488355326 := by omega
        have hap : ∀ x, ivC (c :: (out ++ [x])) = ivC (c :: out) ++ [.str x.1, .str x.2.1, .str x.2.2] := fun x => by rw [← List.cons_append, ivC_append]; rfl
        have hlen : (out ++ [(u, ratS x, ratS y)]).length = m + 1 := by rw [hm]; simp
        obtain ⟨C, hC⟩ : ∃ C, C = ivC (c :: out) := ⟨_, rfl⟩
        have hC1 : ∀ f, AV.rens f C = C := fun f => by rw [hC]; exact ivC_ren f _
        have hC2 : ∀ n, AV.refsL n C = [] := fun n => by rw [hC]; exact ivC_refs n _
        rw [← hC] at hl1 hl2
        simp only [wcM5, ctO, List.cons_append, hap, ← hC, ← hm, hlen]
        simp [h1, h2, h31, h32, hlt, k1, k5, hmax, hmin, hcmp, Tryz.w25O, Tryz.w6O, pureO, Tryz.w5F, Tryz.ratF4, Tryz.ratF3, ratP_ratS, ← hx, ← hy, a1, a2, z1, z2, s1', s2', t1', t2', x1, x2, y1, y2, c1, w1, hl1, hl2, b1, b2, b3, hC1, hC2, ivC_refs, ivC_ren, wcM5, ctO, btC_refs, btC_ren, Nat.testBit]
    · have c1 : ¬ cmpQ x y < 0 := fun h => hxy (cmpQ_lt.1 h)
      have hcl : cutL qs qt ((u, ratS a, ratS z) :: L.drop (n + 1)) = cutL qs qt (L.drop (n + 1)) := by
        unfold cutL; rw [List.filterMap_cons, hci, if_neg hxy]
      rw [hcl] at he
      refine ⟨(n + 1, out), ?_⟩
      refine exists_and_fin (show (n + 1 ≤ L.length ∧ out.length ≤ n + 1 ∧ cutL qs qt L = out ++ cutL qs qt (L.drop (n + 1))) ∧ L.length - (n + 1) < L.length - n from ⟨⟨by omega, by omega, he⟩, by omega⟩) ?_
      clear he hci hcl
      cases out with
      | nil =>
        simp [h1, h2, h31, h32, hlt, k1, k5, hmax, hmin, hcmp, Tryz.w25O, Tryz.w6O, pureO, Tryz.w5F, Tryz.ratF4, Tryz.ratF3, ratP_ratS, ← hx, ← hy, a1, a2, z1, z2, s1', s2', t1', t2', x1, x2, y1, y2, c1, w1, ivC, ivC_refs, ivC_ren, wcM5, ctO, btC_refs, btC_ren, Nat.testBit]
      | cons c out =>
        obtain ⟨C, hC⟩ : ∃ C, C = ivC (c :: out) := ⟨_, rfl⟩
        have hC1 : ∀ f, AV.rens f C = C := fun f => by rw [hC]; exact ivC_ren f _
        have hC2 : ∀ n, AV.refsL n C = [] := fun n => by rw [hC]; exact ivC_refs n _
        simp only [wcM5, ctO, ← hC]
        simp [h1, h2, h31, h32, hlt, k1, k5, hmax, hmin, hcmp, Tryz.w25O, Tryz.w6O, pureO, Tryz.w5F, Tryz.ratF4, Tryz.ratF3, ratP_ratS, ← hx, ← hy, a1, a2, z1, z2, s1', s2', t1', t2', x1, x2, y1, y2, c1, w1, hC1, hC2, ivC_refs, ivC_ren, wcM5, ctO, btC_refs, btC_ren, Nat.testBit]
  · right
    have e : L.drop n = [] := List.drop_of_length_le (by omega)
    rw [e] at he
    have e2 : cutL qs qt [] = [] := rfl
    rw [e2, List.append_nil] at he
    rw [he]
    simp [h32, hlt]
def wcM6 (B : List Bit) (L R C : List Iv) : List Iv → Mem
  | [] => [.cells false 3 (btC B), .cells true 3 (ivC L), .cells true 3 (ivC R), .cells true 3 (ivC R), .cells true 3 (ivC C), .cells true 3 (ivC R)]
  | a :: l => [.cells false 3 (btC B), .cells true 3 (ivC L), .cells true 3 (ivC R), .cells true 3 (ivC R), .cells true 3 (ivC C), .cells true 3 (ivC R), .cells true 3 (ivC (a :: l))]
set_option maxHeartbeats 6400000 in
theorem Tryz.wc_loop6 {O : Oracle} {K : Nat} (hmax : ∀ args M, O (.fn 25) args M = Tryz.w25O (.fn 25) args M) (hmin : ∀ args M, O (.fn 26) args M = Tryz.w25O (.fn 26) args M) (hcmp : ∀ args M, O (.fn 24) args M = Tryz.w25O (.fn 24) args M)
    (B : List Bit) (R C : List Iv) (L : List Iv) (hL : ∀ x ∈ L, rightIv x) (qs qt : Rat) (hqs : fineD2 qs) (hqt : fineD2 qt) (hl : L.length ≤ 1000000) (hK : L.length < K) {b : Code} (hb : loopsF Tryz.f6 = [b]) :
    ∃ F : Env → Bool → Env, ∀ env0 d, (Go.Eng.look env0 1 = .str (ratS qs) ∧ Go.Eng.look env0 2 = .str (ratS qt) ∧ Go.Eng.look env0 14 = .nilslice ∧ Go.Eng.look env0 99 = .slice 1 0 L.length none ∧ Go.Eng.look env0 100 = .int .i64 L.length ∧ Go.Eng.look env0 101 = .int .i64 0) →
      execC (tyOf Tryz.prog) (fun _ => [14, 101]) O K 133 1 true (.loop b) ⟨env0, [.cells false 3 (btC B), .cells true 3 (ivC L), .cells true 3 (ivC R), .cells true 3 (ivC R), .cells true 3 (ivC C), .cells true 3 (ivC R)], d⟩ = some (.exit 0, ⟨F env0 d, wcM6 B L R C (cutL qs qt L), d⟩) ∧
        (Go.Eng.look (F env0 d) 14 = ctO 6 (cutL qs qt L) ∧ (Go.Eng.look (F env0 d) 12 = Go.Eng.look env0 12 ∧ Go.Eng.look (F env0 d) 13 = Go.Eng.look env0 13)) := by
  refine loop_rule rfl (fun env0 => Go.Eng.look env0 1 = .str (ratS qs) ∧ Go.Eng.look env0 2 = .str (ratS qt) ∧ Go.Eng.look env0 14 = .nilslice ∧ Go.Eng.look env0 99 = .slice 1 0 L.length none ∧ Go.Eng.look env0 100 = .int .i64 L.length ∧ Go.Eng.look env0 101 = .int .i64 0) (fun env0 env' => Go.Eng.look env' 14 = ctO 6 (cutL qs qt L) ∧ (Go.Eng.look env' 12 = Go.Eng.look env0 12 ∧ Go.Eng.look env' 13 = Go.Eng.look env0 13)) ?_
  rintro env0 d ⟨h1, h2, h9, h31, h32, h33⟩
  simp [loopsF, loopsC, Tryz.f6] at hb
  have hn : normE [14, 101] (writesC b) env0 ((14, ctO 6 []) :: (101, .int .i64 ((0 : Nat) : Int)) :: env0) = normE [14, 101] (writesC b) env0 env0 := by simp [normE, h9, h33, ctO]
  rw [← hn]
  have kl : (ivC L).length = L.length * 3 := ivC_length L
  refine iter_ind (α := Nat × List Iv) (fun s => ⟨normE [14, 101] (writesC b) env0 ((14, ctO 6 s.2) :: (101, .int .i64 (s.1 : Int)) :: env0), wcM6 B L R C s.2, d⟩) (fun s => L.length - s.1) (fun s => s.1 ≤ L.length ∧ s.2.length ≤ s.1 ∧ cutL qs qt L = s.2 ++ cutL qs qt (L.drop s.1)) (.exit 0) _ d _ (by simp) ?_ K (0, []) ⟨by simp, by simp, by rw [List.drop_zero]; rfl⟩ (by simp only; omega)
  rintro ⟨n, out⟩ ⟨hn1, hn3, he⟩
  simp only at hn1 hn3 he ⊢
  clear hn
  subst hb
  by_cases hlt : n < L.length
  · left
    obtain ⟨k, hk⟩ : ∃ k, L[n]? = some k := ⟨L[n], List.getElem?_eq_getElem hlt⟩
    obtain ⟨k1, _, _, _⟩ := ivC_at hk
    obtain ⟨a, z, hab⟩ := hL k (List.mem_of_getElem? hk)
    obtain ⟨e1, e2, ⟨a1, a2⟩, ⟨z1, z2⟩⟩ := ivN_some hab
    have hd : L.drop n = k :: L.drop (n + 1) := by
      rw [List.getElem?_eq_some_iff] at hk
      obtain ⟨h1, h2⟩ := hk
      rw [← h2]; exact List.drop_eq_getElem_cons h1
    rw [hd] at he
    have w1 : IntKind.i64.wrap ((n : Int) + 1) = ((n + 1 : Nat) : Int) := by rw [wrap_i64 (by omega) (by omega)]; omega
    have k5 : n * 3 + 3 ≤ (ivC L).length := by omega
    obtain ⟨u, f, t⟩ := k
    simp only at k1 e1 e2
    subst e1 e2
    obtain ⟨s1, s2⟩ := hqs
    obtain ⟨t1, t2⟩ := hqt
    have s1' : (natD qs.num.natAbs).length ≤ 40000 := by omega
    have s2' : (natD qs.den).length ≤ 40000 := by omega
    have t1' : (natD qt.num.natAbs).length ≤ 40000 := by omega
    have t2' : (natD qt.den).length ≤ 40000 := by omega
    obtain ⟨x, hx⟩ : ∃ x, x = if a < qs then qs else a := ⟨_, rfl⟩
    obtain ⟨y, hy⟩ : ∃ y, y = if qt < z then qt else z := ⟨_, rfl⟩
    have x1 : (natD x.num.natAbs).length ≤ 40000 := by rw [hx]; split <;> omega
    have x2 : (natD x.den).length ≤ 40000 := by rw [hx]; split <;> omega
    have y1 : (natD y.num.natAbs).length ≤ 40000 := by rw [hy]; split <;> omega
    have y2 : (natD y.den).length ≤ 40000 := by rw [hy]; split <;> omega
    have hci : cutI qs qt (u, ratS a, ratS z) = if x < y then some (u, ratS x, ratS y) else none := by
      unfold cutI; simp only [ratP_ratS, Option.getD_some, ← hx, ← hy]
    by_cases hxy : x < y
    · have c1 := cmpQ_lt.2 hxy
      have hcl : cutL qs qt ((u, ratS a, ratS z) :: L.drop (n + 1)) = (u, ratS x, ratS y) :: cutL qs qt (L.drop (n + 1)) := by
        unfold cutL; rw [List.filterMap_cons, hci, if_pos hxy]
      rw [hcl] at he
      refine ⟨(n + 1, out ++ [(u, ratS x, ratS y)]), ?_⟩
      refine exists_and_fin (show (n + 1 ≤ L.length ∧ (out ++ [(u, ratS x, ratS y)]).length ≤ n + 1 ∧ cutL qs qt L = (out ++ [(u, ratS x, ratS y)]) ++ cutL qs qt (L.drop (n + 1))) ∧ L.length - (n + 1) < L.length - n from ⟨⟨by omega, by simp; omega, by rw [he, List.append_assoc]; rfl⟩, by omega⟩) ?_
      clear he hci hcl
      cases out with
      | nil =>
        simp [h1, h2, h31, h32, hlt, k1, k5, hmax, hmin, hcmp, Tryz.w25O, Tryz.w6O, pureO, Tryz.w5F, Tryz.ratF4, Tryz.ratF3, ratP_ratS, ← hx, ← hy, a1, a2, z1, z2, s1', s2', t1', t2', x1, x2, y1, y2, c1, w1, ivC, ivC_refs, ivC_ren, wcM6, ctO, btC_refs, btC_ren, Nat.testBit]
      | cons c out =>
        obtain ⟨m, hm⟩ : ∃ m, m = out.length := ⟨_, rfl⟩
        have hl1 : (ivC (c :: out)).length = (m + 1) * 3 := by rw [ivC_length, hm]; rfl
        have hl2 : (ivC (c :: out)).take ((m + 1) * 3) = ivC (c :: out) := List.take_of_length_le (by omega)
        simp only [List.length_cons] at hn3
        have b1 : (m + 1 + 1) * 48 ≤ 140737488355328 := by omega
        have b2 : m + 1 + 1 ≤ 140737488355328 := by omega
        have b3 : m ≤ 140737488355326 := by omega
        have hap : ∀ x, ivC (c :: (out ++ [x])) = ivC (c :: out) ++ [.str x.1, .str x.2.1, .str x.2.2] := fun x => by rw [← List.cons_append, ivC_append]; rfl
        have hlen : (out ++ [(u, ratS x, ratS y)]).length = m + 1 := by rw [hm]; simp
        obtain ⟨C, hC⟩ : ∃ C, C = ivC (c :: out) := ⟨_, rfl⟩
        have hC1 : ∀ f, AV.rens f C = C := fun f => by rw [hC]; exact ivC_ren f _
        have hC2 : ∀ n, AV.refsL n C = [] := fun n => by rw [hC]; exact ivC_refs n _
        rw [← hC] at hl1 hl2
        simp only [wcM6, ctO, List.cons_append, hap, ← hC, ← hm, hlen]
        simp [h1, h2, h31, h32, hlt, k1, k5, hmax, hmin, hcmp, Tryz.w25O, Tryz.w6O, pureO, Tryz.w5F, Tryz.ratF4, Tryz.ratF3, ratP_ratS, ← hx, ← hy, a1, a2, z1, z2, s1', s2', t1', t2', x1, x2, y1, y2, c1, w1, hl1, hl2, b1, b2, b3, hC1, hC2, ivC_refs, ivC_ren, wcM6, ctO, btC_refs, btC_ren, Nat.testBit]
    · have c1 : ¬ cmpQ x y < 0 := fun h => hxy (cmpQ_lt.1 h)
      have hcl : cutL qs qt ((u, ratS a, ratS z) :: L.drop (n + 1)) = cutL qs qt (L.drop (n + 1)) := by
        unfold cutL; rw [List.filterMap_cons, hci, if_neg hxy]
      rw [hcl] at he
      refine ⟨(n + 1, out), ?_⟩
      refine exists_and_fin (show (n + 1 ≤ L.length ∧ out.length ≤ n + 1 ∧ cutL qs qt L = out ++ cutL qs qt (L.drop (n + 1))) ∧ L.length - (n + 1) < L.length - n from ⟨⟨by omega, by omega, he⟩, by omega⟩) ?_
      clear he hci hcl
      cases out with
      | nil =>
        simp [h1, h2, h31, h32, hlt, k1, k5, hmax, hmin, hcmp, Tryz.w25O, Tryz.w6O, pureO, Tryz.w5F, Tryz.ratF4, Tryz.ratF3, ratP_ratS, ← hx, ← hy, a1, a2, z1, z2, s1', s2', t1', t2', x1, x2, y1, y2, c1, w1, ivC, ivC_refs, ivC_ren, wcM6, ctO, btC_refs, btC_ren, Nat.testBit]
      | cons c out =>
        obtain ⟨C, hC⟩ : ∃ C, C = ivC (c :: out) := ⟨_, rfl⟩
        have hC1 : ∀ f, AV.rens f C = C := fun f => by rw [hC]; exact ivC_ren f _
        have hC2 : ∀ n, AV.refsL n C = [] := fun n => by rw [hC]; exact ivC_refs n _
        simp only [wcM6, ctO, ← hC]
        simp [h1, h2, h31, h32, hlt, k1, k5, hmax, hmin, hcmp, Tryz.w25O, Tryz.w6O, pureO, Tryz.w5F, Tryz.ratF4, Tryz.ratF3, ratP_ratS, ← hx, ← hy, a1, a2, z1, z2, s1', s2', t1', t2', x1, x2, y1, y2, c1, w1, hC1, hC2, ivC_refs, ivC_ren, wcM6, ctO, btC_refs, btC_ren, Nat.testBit]
  · right
    have e : L.drop n = [] := List.drop_of_length_le (by omega)
    rw [e] at he
    have e2 : cutL qs qt [] = [] := rfl
    rw [e2, List.append_nil] at he
    rw [he]
    simp [h32, hlt]
end Go.Proofs
