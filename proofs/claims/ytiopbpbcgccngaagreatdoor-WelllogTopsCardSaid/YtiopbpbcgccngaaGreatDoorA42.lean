/- Part A42 of a proof: see its last part, YtiopbpbcgccngaaGreatDoorA47.lean. -/
import Derived.Test.YtiopbpbcgccngaaGreatDoorA37
import Derived.Test.YtiopbpbcgccngaaGreatDoorA41
import Derived.Test.YtiopbpbcgccngaaGreatDoorA10
set_option linter.all false
namespace Go.Proofs
open Go.Eng
theorem Tryz.aMakeP (B : List Bit) (hB : ∀ b ∈ B, okBit b) (hl : B.length ≤ 8) :
    ACallsTo Tryz.prog 9 [.slice 0 0 B.length none] [.cells false 3 (btC B)] (mkO (mkL 0 B)) (mkM B (mkL 0 B)) := by
  have hG : fnOf Tryz.prog 9 = some Tryz.f9 := by kernel_rfl
  obtain ⟨b, hb⟩ : ∃ b, loopsF Tryz.f9 = [b] := ⟨_, rfl⟩
  obtain ⟨F, hF⟩ := Tryz.make_loop (K := B.length + 1) B hB hl (by omega) hb
  simp [loopsF, loopsC, Tryz.f9] at hb
  subst hb
  have hF1 := fun env0 d h => (hF env0 d h).1
  have hF2 := fun env0 d h => (hF env0 d h).2
  clear hF
  obtain ⟨L, hL⟩ : ∃ L, L = mkL 0 B := ⟨_, rfl⟩
  rw [← hL] at hF1 hF2 ⊢
  cases L with
  | nil =>
    have h : callFn (tyOf Tryz.prog) (fun _ => [3, 4, 5]) (fnOf Tryz.prog) (pureO Tryz.w9F) (B.length + 1) 9 [.slice 0 0 B.length none] [.cells false 3 (btC B)] = some ⟨.nilslice, none, []⟩ := by
      simp [callFn, hG, Tryz.f9, hF1, hF2, mkM, mkO]
    have := (callFn_sound Tryz.mixed (tyOf_ok _) Tryz.w9_ok (fnOf_ok _) h).1
    simpa [CallRes.mem, mkM, mkO] using this
  | cons a L =>
    have h : callFn (tyOf Tryz.prog) (fun _ => [3, 4, 5]) (fnOf Tryz.prog) (pureO Tryz.w9F) (B.length + 1) 9 [.slice 0 0 B.length none] [.cells false 3 (btC B)] = some ⟨.slice 1 0 (L.length + 1) none, none, [.cells true 3 (ivC (a :: L))]⟩ := by
      obtain ⟨C, hC⟩ : ∃ C, C = ivC (a :: L) := ⟨_, rfl⟩
      have hC1 : ∀ f, AV.rens f C = C := fun f => by rw [hC]; exact ivC_ren f _
      have hC2 : ∀ n, AV.refsL n C = [] := fun n => by rw [hC]; exact ivC_refs n _
      simp only [mkM, mkO, ← hC] at hF1 hF2 ⊢
      simp [callFn, hG, Tryz.f9, hF1, hF2, hC1, hC2]
    have := (callFn_sound Tryz.mixed (tyOf_ok _) Tryz.w9_ok (fnOf_ok _) h).1
    simpa [CallRes.mem, mkM, mkO] using this
theorem Tryz.aMakeNil (M : Mem) : ACallsTo Tryz.prog 9 [.nilslice] M .nilslice M := by
  have hG : fnOf Tryz.prog 9 = some Tryz.f9 := by kernel_rfl
  refine Tryz.run (noOracle_ok _) (lv := fun _ => [3, 4, 5]) (K := 1) rfl rfl ?_ M
  simp [callFn, hG, Tryz.f9, execC_loop, iter]
theorem Tryz.aTopsP (L : List Iv) (hL : shortIv L) (hl : L.length ≤ 1000000) (h0 : logR L = 0) (hne : L ≠ []) :
    ACallsTo Tryz.prog 10 [.slice 0 0 L.length none] [.cells false 3 (ivC L)] (.tuple [.slice 1 0 (topsV [] L).length none, .slice 2 0 (topsV [] L).length none, .int .i64 0])
      [.cells false 3 (ivC L), .cells true 1 (stC ((topsV [] L).map (·.1))), .cells true 1 (stC ((topsV [] L).map (·.2)))] := by
  have hG : fnOf Tryz.prog 10 = some Tryz.f10 := by kernel_rfl
  obtain ⟨b, hb⟩ : ∃ b, loopsF Tryz.f10 = [b] := ⟨_, rfl⟩
  obtain ⟨F, hF⟩ := Tryz.tops_loop (K := L.length + 1) L hL hl (by omega) hb
  simp [loopsF, loopsC, Tryz.f10] at hb
  subst hb
  have hF1 := fun env0 d h => (hF env0 d h).1
  have hF2 := fun env0 d h => (hF env0 d h).2.1
  have hF3 := fun env0 d h => (hF env0 d h).2.2
  clear hF
  have hi : ∀ r, ivs (.cells false 3 (ivC L) :: r) (.slice 0 0 L.length none) = some L := fun r => ivs_at rfl rfl (ivC_take L)
  have hsb := shortB_iff.2 hL
  have hl2 : L.length ≤ 1000000000 := by omega
  obtain ⟨T, hT⟩ : ∃ T, T = topsV [] L := ⟨_, rfl⟩
  rw [← hT] at hF1 hF2 hF3 ⊢
  cases T with
  | nil =>
    cases L with
    | nil => exact absurd rfl hne
    | cons x L =>
      exfalso
      have key : ∀ (l : List Iv) (acc : List (List UInt8 × List UInt8)), acc ≠ [] → topsV acc l ≠ [] := by
        intro l
        induction l with
        | nil => intro acc h; exact h
        | cons y l ih =>
          intro acc h
          unfold topsV
          split
          · exact ih acc h
          · exact ih _ (by simp)
      have : topsV [] (x :: L) = topsV [(x.1, x.2.1)] L := by rw [topsV]; simp
      rw [this] at hT
      exact key L [(x.1, x.2.1)] (by simp) hT.symm
  | cons a T =>
    obtain ⟨U, hU⟩ : ∃ U, U = stC ((a :: T).map (·.1)) := ⟨_, rfl⟩
    obtain ⟨D, hD⟩ : ∃ D, D = stC ((a :: T).map (·.2)) := ⟨_, rfl⟩
    have hU1 : ∀ f, AV.rens f U = U := fun f => by rw [hU]; exact stC_ren f _
    have hU2 : ∀ n, AV.refsL n U = [] := fun n => by rw [hU]; exact stC_refs n _
    have hD1 : ∀ f, AV.rens f D = D := fun f => by rw [hD]; exact stC_ren f _
    have hD2 : ∀ n, AV.refsL n D = [] := fun n => by rw [hD]; exact stC_refs n _
    simp only [tpM, tpU, tpD, ← hU, ← hD] at hF1 hF2 hF3 ⊢
    have h : callFn (tyOf Tryz.prog) (fun _ => [2, 3, 15]) (fnOf Tryz.prog) Tryz.w8O (L.length + 1) 10 [.slice 0 0 L.length none] [.cells false 3 (ivC L)] = some ⟨.tuple [.slice 1 0 (T.length + 1) none, .slice 2 0 (T.length + 1) none, .int .i64 0], none, [.cells true 1 U, .cells true 1 D]⟩ := by
      simp [callFn, hG, Tryz.f10, Tryz.w8O, Tryz.w7O, Tryz.w6O, hi, hsb, hl2, h0, hF1, hF2, hF3, hU1, hU2, hD1, hD2]
      exact ⟨rfl, rfl⟩
    have := (callFn_sound Tryz.mixed (tyOf_ok _) Tryz.w8_ok (fnOf_ok _) h).1
    simpa [CallRes.mem] using this
theorem Tryz.aTopsNil (M : Mem) : ACallsTo Tryz.prog 10 [.nilslice] M (.tuple [.nilslice, .nilslice, .int .i64 0]) M := by
  have hG : fnOf Tryz.prog 10 = some Tryz.f10 := by kernel_rfl
  have hi : ∀ M, ivs M .nilslice = some [] := fun M => rfl
  have hs : shortB [] = true := rfl
  have h : callFn (tyOf Tryz.prog) (fun _ => [2, 3, 15]) (fnOf Tryz.prog) Tryz.w8O 1 10 [.nilslice] M = some ⟨.tuple [.nilslice, .nilslice, .int .i64 0], none, []⟩ := by
    simp [callFn, hG, Tryz.f10, execC_loop, iter, Tryz.w8O, Tryz.w7O, Tryz.w6O, hi, hs, logR_nil]
  have := (callFn_sound Tryz.mixed (tyOf_ok _) Tryz.w8_ok (fnOf_ok _) h).1
  simpa [CallRes.mem] using this
end Go.Proofs
namespace Go.Eng
open Classical in
noncomputable def oneO (f : FuncId) (args : List AV) (m : Mem) (r : CallRes) : Oracle := fun c a M => if c = .fn f ∧ a = args ∧ M = m then some r else none
theorem oneO_at (f : FuncId) (args : List AV) (m : Mem) (r : CallRes) : oneO f args m r (.fn f) args m = some r := by simp [oneO]
theorem oneO_ne {f g : FuncId} (h : g ≠ f) (args a : List AV) (m M : Mem) (r : CallRes) : oneO f args m r (.fn g) a M = none := by simp [oneO, h]
theorem oneO_ok {P : Program} {f : FuncId} {args : List AV} {m new : Mem} {v : AV} (h : ACallsTo P f args m v (m ++ new)) : OracleOk P (oneO f args m ⟨v, none, new⟩) := by
  refine oracleOk_of fun c a M r hr => ?_
  unfold oneO at hr
  split at hr
  · rename_i hc
    obtain ⟨rfl, rfl, rfl⟩ := hc
    cases hr
    exact soundAt_call h
  · cases hr
end Go.Eng
namespace Go.Proofs
open Go.Eng
theorem topsV_prefix : ∀ (l : List Iv) (acc : List (List UInt8 × List UInt8)), acc <+: topsV acc l
  | [], acc => List.prefix_refl acc
  | x :: l, acc => by
    unfold topsV
    split
    · exact topsV_prefix l acc
    · exact (List.prefix_append acc _).trans (topsV_prefix l _)
def Tryz.wtLv (c : Code) : List Nat := if (writesC c).contains 88 then [7, 40] else [10, 49]
def usT (L : List Iv) (n : Nat) : List (List UInt8) := (L.take n).map (·.1)
theorem usT_succ {L : List Iv} {n : Nat} {x : Iv} (h : L[n]? = some x) : usT L (n + 1) = usT L n ++ [x.1] := by
  unfold usT
  rw [List.take_add_one, h]
  simp
theorem usT_zero (L : List Iv) : usT L 0 = [] := by simp [usT]
set_option maxHeartbeats 3200000 in
theorem Tryz.wt_inner {O : Oracle} {K : Nat} (L : List Iv) (n : Nat) (hn : n ≤ L.length) (hl : L.length ≤ 1000000) (hK : n < K) (x : Iv) (s0 s2 s3 : Slot) (r0 : s0.refs 5 = []) (r2 : s2.refs 5 = []) (r3 : s3.refs 5 = []) {b0 b : Code} (hb : loopsF Tryz.f3 = [b0, b]) :
    ∃ F : Env → Bool → Env, ∀ env0 d, (Go.Eng.look env0 9 = .ptr 4 0 ∧ Go.Eng.look env0 10 = .bool true ∧ Go.Eng.look env0 47 = .slice 1 0 n none ∧ Go.Eng.look env0 48 = .int .i64 n ∧ Go.Eng.look env0 49 = .int .i64 0) →
      execC (tyOf Tryz.prog) Tryz.wtLv O K 93 1 true (.loop b) ⟨env0, [s0, .cells true 3 (ivC L), s2, s3, .cells true 0 [.str x.1, .str x.2.1, .str x.2.2]], d⟩ = some (.exit 2, ⟨F env0 d, [s0, .cells true 3 (ivC L), s2, s3, .cells true 0 [.str x.1, .str x.2.1, .str x.2.2]], d⟩) ∧
        (Go.Eng.look (F env0 d) 10 = .bool (decide (x.1 ∉ usT L n)) ∧ ∀ t, t ∉ writesC b → Go.Eng.look (F env0 d) t = Go.Eng.look env0 t) := by
  have hlv : Tryz.wtLv b = [10, 49] := by
    simp [loopsF, loopsC, Tryz.f3] at hb
    obtain ⟨_, rfl⟩ := hb
    decide
  obtain ⟨M, hM⟩ : ∃ M : Mem, M = [s0, .cells true 3 (ivC L), s2, s3, .cells true 0 [.str x.1, .str x.2.1, .str x.2.2]] := ⟨_, rfl⟩
  rw [← hM]
  refine loop_rule hlv (fun env0 => Go.Eng.look env0 9 = .ptr 4 0 ∧ Go.Eng.look env0 10 = .bool true ∧ Go.Eng.look env0 47 = .slice 1 0 n none ∧ Go.Eng.look env0 48 = .int .i64 n ∧ Go.Eng.look env0 49 = .int .i64 0) (fun env0 env' => Go.Eng.look env' 10 = .bool (decide (x.1 ∉ usT L n)) ∧ ∀ t, t ∉ writesC b → Go.Eng.look env' t = Go.Eng.look env0 t) ?_
  rintro env0 d ⟨h9, h10, h47, h48, h49⟩
  have hml : M.length = 5 := by rw [hM]; rfl
  rw [hml]
  simp [loopsF, loopsC, Tryz.f3] at hb
  obtain ⟨hx, hb⟩ := hb
  clear hx
  have hne : normE [10, 49] (writesC b) env0 ((10, .bool true) :: (49, .int .i64 ((0 : Nat) : Int)) :: env0) = normE [10, 49] (writesC b) env0 env0 := by simp [normE, h10, h49]
  rw [← hne]
  have kl : (ivC L).length = L.length * 3 := ivC_length L
  refine iter_ind (α := Nat × Bool) (fun s => ⟨normE [10, 49] (writesC b) env0 ((10, .bool s.2) :: (49, .int .i64 (s.1 : Int)) :: env0), M, d⟩) (fun s => n - s.1) (fun s => s.1 ≤ n ∧ s.2 = decide (x.1 ∉ usT L s.1)) (.exit 2) _ d _ (by simp) ?_ K (0, true) ⟨by simp, by simp [usT_zero]⟩ (by simp only; omega)
  rintro ⟨k, c⟩ ⟨hk1, hc⟩
  simp only at hk1 hc ⊢
  clear hne
  by_cases hlt : k < n
  · left
    obtain ⟨y, hy⟩ : ∃ y, L[k]? = some y := ⟨L[k], List.getElem?_eq_getElem (by omega)⟩
    obtain ⟨k1, _, _, _⟩ := ivC_at hy
    have w1 : IntKind.i64.wrap ((k : Int) + 1) = ((k + 1 : Nat) : Int) := by rw [wrap_i64 (by omega) (by omega)]; omega
    have k5 : k * 3 + 3 ≤ (ivC L).length := by omega
    have hstep : decide (x.1 ∉ usT L (k + 1)) = (c && !decide (y.1 = x.1)) := by
      rw [hc, usT_succ hy]
      by_cases h1 : x.1 ∈ usT L k
      · simp [h1]
      · by_cases h2 : y.1 = x.1
        · simp [h2]
        · have h3 : ¬ x.1 = y.1 := fun e => h2 e.symm
          simp [h1, h2, h3]
    refine ⟨(k + 1, c && !decide (y.1 = x.1)), ?_⟩
    refine exists_and_fin (show (k + 1 ≤ n ∧ (c && !decide (y.1 = x.1)) = decide (x.1 ∉ usT L (k + 1))) ∧ n - (k + 1) < n - k from ⟨⟨by omega, hstep.symm⟩, by omega⟩) ?_
    clear hc hstep
    subst hb
    subst hM
    have hq : (y.1 == x.1) = decide (y.1 = x.1) := by rw [Bool.eq_iff_iff]; simp
    obtain ⟨u, f, t⟩ := x
    obtain ⟨u2, f2, t2⟩ := y
    simp only at k1 hq r0 r2 r3
    obtain ⟨e, he⟩ : ∃ e, e = decide (u2 = u) := ⟨_, rfl⟩
    rw [← he] at hq
    simp only [← he]
    cases c
    · simp [-Slot.refs, -Slot.ren, h9, h47, h48, hlt, k1, k5, w1, refs_cells, ivC_refs, r0, r2, r3]
    · cases e
      · simp [-Slot.refs, -Slot.ren, h9, h47, h48, hlt, k1, k5, w1, hq, refs_cells, ivC_refs, r0, r2, r3]
      · simp [-Slot.refs, -Slot.ren, h9, h47, h48, hlt, k1, k5, w1, hq, refs_cells, ivC_refs, r0, r2, r3]
  · right
    have hkn : k = n := by omega
    subst hkn
    have hfin : ∀ env, normE [10, 49] (writesC b) env0 env = normE [10, 49] (writesC b) env0 env := fun _ => rfl
    rw [← hc]
    subst hb
    simp [h48]
    clear hfin hc hk1 hlt h47 h48
    intro t
    intro q1 q2 q3 q4 q5 q6 q7 q8 q9 q10 q11 q12 q13 q14
    intro q15
    simp [Ne.symm q1, Ne.symm q2, Ne.symm q3, Ne.symm q4, Ne.symm q5, Ne.symm q6, Ne.symm q7, Ne.symm q8, Ne.symm q9, Ne.symm q10, Ne.symm q11, Ne.symm q12, Ne.symm q13, Ne.symm q14, Ne.symm q15]
end Go.Proofs
namespace Go.Proofs
open Go.Eng
theorem topsV_mem : ∀ (l : List Iv) (acc : List (List UInt8 × List UInt8)) (u : List UInt8), u ∈ (topsV acc l).map (·.1) ↔ (u ∈ acc.map (·.1) ∨ u ∈ l.map (·.1))
  | [], acc, u => by simp [topsV]
  | x :: l, acc, u => by
    unfold topsV
    rw [topsV_mem]
    split
    · rename_i h
      constructor
      · rintro (h1 | h1)
        · exact .inl h1
        · exact .inr (by simp only [List.map_cons, List.mem_cons]; exact .inr h1)
      · rintro (h1 | h1)
        · exact .inl h1
        · simp only [List.map_cons, List.mem_cons] at h1
          rcases h1 with h1 | h1
          · rw [h1]; exact .inl h
          · exact .inr h1
    · simp only [List.map_append, List.map_cons, List.map_nil, List.mem_append, List.mem_cons, List.not_mem_nil, or_false]
      constructor
      · rintro ((h1 | h1) | h1)
        · exact .inl h1
        · exact .inr (.inl h1)
        · exact .inr (.inr h1)
      · rintro (h1 | h1 | h1)
        · exact .inl (.inl h1)
        · exact .inl (.inr h1)
        · exact .inr h1
set_option maxHeartbeats 6400000 in
theorem Tryz.wt_outer {O : Oracle} {K : Nat} (B : List Bit) (L : List Iv) (T : List (List UInt8 × List UInt8)) (hT : T = topsV [] L) (hl : L.length ≤ 1000000) (hK : L.length < K) {b0 b : Code} (hb : loopsF Tryz.f3 = [b0, b]) :
    ∃ F : Env → Bool → Env, ∀ env0 d, (Go.Eng.look env0 3 = .slice 1 0 L.length none ∧ Go.Eng.look env0 4 = .slice 2 0 T.length none ∧ Go.Eng.look env0 5 = .slice 3 0 T.length none ∧ Go.Eng.look env0 7 = .int .i64 0 ∧ Go.Eng.look env0 38 = .slice 1 0 L.length none ∧ Go.Eng.look env0 39 = .int .i64 L.length ∧ Go.Eng.look env0 40 = .int .i64 0) →
      execC (tyOf Tryz.prog) Tryz.wtLv O K 93 1 true (.loop b0) ⟨env0, [.cells false 3 (btC B), .cells true 3 (ivC L), .cells true 1 (stC (T.map (·.1))), .cells true 1 (stC (T.map (·.2)))], d⟩ = some (.exit 0, ⟨F env0 d, [.cells false 3 (btC B), .cells true 3 (ivC L), .cells true 1 (stC (T.map (·.1))), .cells true 1 (stC (T.map (·.2)))], d⟩) ∧
        (Go.Eng.look (F env0 d) 7 = .int .i64 T.length ∧ Go.Eng.look (F env0 d) 4 = Go.Eng.look env0 4) := by
  have hlv : Tryz.wtLv b0 = [7, 40] := by
    simp [loopsF, loopsC, Tryz.f3] at hb
    obtain ⟨rfl, _⟩ := hb
    decide
  obtain ⟨U, hU⟩ : ∃ U, U = T.map (·.1) := ⟨_, rfl⟩
  obtain ⟨D, hD⟩ : ∃ D, D = T.map (·.2) := ⟨_, rfl⟩
  obtain ⟨M, hM⟩ : ∃ M : Mem, M = [.cells false 3 (btC B), .cells true 3 (ivC L), .cells true 1 (stC U), .cells true 1 (stC D)] := ⟨_, rfl⟩
  rw [← hU, ← hD, ← hM]
  refine loop_rule hlv (fun env0 => Go.Eng.look env0 3 = .slice 1 0 L.length none ∧ Go.Eng.look env0 4 = .slice 2 0 T.length none ∧ Go.Eng.look env0 5 = .slice 3 0 T.length none ∧ Go.Eng.look env0 7 = .int .i64 0 ∧ Go.Eng.look env0 38 = .slice 1 0 L.length none ∧ Go.Eng.look env0 39 = .int .i64 L.length ∧ Go.Eng.look env0 40 = .int .i64 0) (fun env0 env' => Go.Eng.look env' 7 = .int .i64 T.length ∧ Go.Eng.look env' 4 = Go.Eng.look env0 4) ?_
  rintro env0 d ⟨h3, h4, h5, h7, h38, h39, h40⟩
  have hml : M.length = 4 := by rw [hM]; rfl
  rw [hml]
  have kl : (ivC L).length = L.length * 3 := ivC_length L
  have inner := fun n hn x => Tryz.wt_inner (O := O) (K := K) L n hn hl (by omega) x (.cells false 3 (btC B)) (.cells true 1 (stC U)) (.cells true 1 (stC D)) (by simp [Slot.refs, btC_refs]) (by simp [Slot.refs, stC_refs]) (by simp [Slot.refs, stC_refs]) hb
  have hrun := fun n hn x => inner n hn x
  obtain ⟨ops, hops⟩ : ∃ ops, drawsF Tryz.f3 = [ops] := ⟨_, rfl⟩
  have hbs := draws_one hops (l := [0, 0, 2, 7, 15, 31, 31, 127, 255, 31, 543, 2047, 4095, 8191, 16383, 16383, 65535, 131071, 16383, 278527, 1048575, 2097151]) (by kernel_rfl)
  have hab : allBef [0, 0, 2, 7, 15, 31, 31, 127, 255, 31, 543, 2047, 4095, 8191, 16383, 16383, 65535, 131071, 16383, 278527, 1048575, 2097151] 21 = true := by decide
  simp [drawsF, drawsC, Tryz.f3] at hops
  subst hops
  simp [loopsF, loopsC, Tryz.f3] at hb
  obtain ⟨hb, hb1⟩ := hb
  subst hb1
  have hne : normE [7, 40] (writesC b0) env0 ((7, .int .i64 ((0 : Nat) : Int)) :: (40, .int .i64 ((0 : Nat) : Int)) :: env0) = normE [7, 40] (writesC b0) env0 env0 := by simp [normE, h7, h40]
  rw [← hne]
  refine iter_ind (α := Nat × List (List UInt8 × List UInt8)) (fun s => ⟨normE [7, 40] (writesC b0) env0 ((7, .int .i64 (s.2.length : Int)) :: (40, .int .i64 (s.1 : Int)) :: env0), M, d⟩) (fun s => L.length - s.1) (fun s => s.1 ≤ L.length ∧ s.2.length ≤ s.1 ∧ T = topsV s.2 (L.drop s.1) ∧ ∀ u, u ∈ usT L s.1 ↔ u ∈ s.2.map (·.1)) (.exit 0) _ d _ (by simp) ?_ K (0, []) ⟨by simp, by simp, by rw [List.drop_zero]; exact hT, fun u => by simp [usT_zero]⟩ (by simp only; omega)
  rintro ⟨n, acc⟩ ⟨hn1, hn2, he, hm⟩
  simp only at hn1 hn2 he hm ⊢
  clear hne inner
  subst hb
  by_cases hlt : n < L.length
  · left
    obtain ⟨k, hk⟩ : ∃ k, L[n]? = some k := ⟨L[n], List.getElem?_eq_getElem hlt⟩
    obtain ⟨k1, _, _, _⟩ := ivC_at hk
    have hd : L.drop n = k :: L.drop (n + 1) := by
      rw [List.getElem?_eq_some_iff] at hk
      obtain ⟨h1, h2⟩ := hk
      rw [← h2]; exact List.drop_eq_getElem_cons h1
    rw [hd, topsV] at he
    have w1 : IntKind.i64.wrap ((n : Int) + 1) = ((n + 1 : Nat) : Int) := by rw [wrap_i64 (by omega) (by omega)]; omega
    have k5 : n * 3 + 3 ≤ (ivC L).length := by omega
    have k6 : L.length * 3 ≤ (ivC L).length := by omega
    obtain ⟨F, hF⟩ := hrun n (by omega) k
    have hF1 := fun env0 d h => (hF env0 d h).1
    have hF2 := fun env0 d h => (hF env0 d h).2.1
    have hF3 := fun env0 d h t ht => (hF env0 d h).2.2 t ht
    clear hF hrun
    obtain ⟨u, f, t⟩ := k
    simp only at k1 he hF1 hF2
    have hsu := usT_succ hk
    have hnl : (n : Int) ≤ L.length := by omega
    by_cases hfst : u ∈ usT L n
    · have hacc : u ∈ acc.map (·.1) := (hm u).1 hfst
      rw [if_pos hacc] at he
      have hdec : decide (u ∉ usT L n) = false := by simp [hfst]
      simp only [hdec] at hF2
      refine ⟨(n + 1, acc), ?_⟩
      refine exists_and_fin (show (n + 1 ≤ L.length ∧ acc.length ≤ n + 1 ∧ T = topsV acc (L.drop (n + 1)) ∧ ∀ v, v ∈ usT L (n + 1) ↔ v ∈ acc.map (·.1)) ∧ L.length - (n + 1) < L.length - n from ⟨⟨by omega, by omega, he, fun v => by
        rw [hsu, List.mem_append, hm v]
        constructor
        · rintro (h | h)
          · exact h
          · simp at h; rw [h]; exact hacc
        · exact .inl⟩, by omega⟩) ?_
      clear he hm hT hU hD
      subst hM
      simp [-Slot.refs, -Slot.ren, h3, h38, h39, hlt, hnl, k1, k5, k6, w1, hF1, hF2, hF3, refs_cells, ivC_refs, btC_refs, stC_refs]
    · have hacc : u ∉ acc.map (·.1) := fun h => hfst ((hm u).2 h)
      rw [if_neg hacc] at he
      have hdec : decide (u ∉ usT L n) = true := by simp [hfst]
      simp only [hdec] at hF2
      have hpre : acc ++ [(u, f)] <+: T := by rw [he]; exact topsV_prefix _ _
      have hTa : T[acc.length]? = some (u, f) := by
        obtain ⟨r, hr⟩ := hpre
        rw [← hr]; simp
      obtain ⟨a, ha⟩ : ∃ a, a = acc.length := ⟨_, rfl⟩
      refine ⟨(n + 1, acc ++ [(u, f)]), ?_⟩
      refine exists_and_fin (show (n + 1 ≤ L.length ∧ (acc ++ [(u, f)]).length ≤ n + 1 ∧ T = topsV (acc ++ [(u, f)]) (L.drop (n + 1)) ∧ ∀ v, v ∈ usT L (n + 1) ↔ v ∈ (acc ++ [(u, f)]).map (·.1)) ∧ L.length - (n + 1) < L.length - n from ⟨⟨by omega, by simp; omega, he, fun v => by
        rw [hsu, List.mem_append, hm v]; simp⟩, by omega⟩) ?_
      have hlen : (acc ++ [(u, f)]).length = a + 1 := by rw [ha]; simp
      rw [hlen, ← ha]
      rw [← ha] at hTa hn2
      have hTl : a < T.length := (List.getElem?_eq_some_iff.1 hTa).1
      have hTlI : (a : Int) < T.length := by omega
      have hge : ¬ T.length ≤ a := by omega
      have hUt : U[a]? = some u := by rw [hU, List.getElem?_map, hTa]; rfl
      have hDt : D[a]? = some f := by rw [hD, List.getElem?_map, hTa]; rfl
      have hUa : ∀ h, (stC U)[a]'h = .str u := fun h => by
        have := stC_at hUt
        rw [List.getElem?_eq_getElem h] at this
        exact Option.some.inj this
      have hDa : ∀ h, (stC D)[a]'h = .str f := fun h => by
        have := stC_at hDt
        rw [List.getElem?_eq_getElem h] at this
        exact Option.some.inj this
      have hUl : (stC U).length = T.length := by rw [stC_length, hU]; simp
      have hDl : (stC D).length = T.length := by rw [stC_length, hD]; simp
      have w2 : IntKind.i64.wrap ((a : Int) + 1) = ((a + 1 : Nat) : Int) := by rw [wrap_i64 (by omega) (by omega)]; omega
      clear he hm hT hU hD hlen ha hpre
      subst hM
      simp [-Slot.refs, -Slot.ren, -runDraw, runDraw_light hbs, runDrawL, lightAll, lightRec, hab, h3, h4, h5, h38, h39, hlt, hnl, k1, k5, k6, w1, w2, hF1, hF2, hF3, hTl, hTlI, hge, hUa, hDa, hUl, hDl, refs_cells, ivC_refs, btC_refs, stC_refs, Nat.testBit]
  · right
    have e : L.drop n = [] := List.drop_of_length_le (by omega)
    rw [e, topsV] at he
    subst he
    simp [h39, hlt]
end Go.Proofs
namespace Go.Proofs
open Go.Eng
def Tryz.knF (f : FuncId) (args : List AV) : Option AV := match f, args with
  | 8, [] => some (.bool true)
  | _, _ => none
theorem Tryz.knF_ok : OracleOk Tryz.prog (pureO Tryz.knF) := pureO_ok fun f args v h mem => by
  unfold Tryz.knF at h
  split at h
  · cases h; exact Tryz.aKnown mem
  · cases h
theorem Tryz.aTopsM (B : List Bit) (L : List Iv) (hL : shortIv L) (hl : L.length ≤ 1000000) (h0 : logR L = 0) (hne : L ≠ []) :
    ACallsTo Tryz.prog 10 [.slice 1 0 L.length none] [.cells false 3 (btC B), .cells true 3 (ivC L)] (.tuple [.slice 2 0 (topsV [] L).length none, .slice 3 0 (topsV [] L).length none, .int .i64 0])
      ([.cells false 3 (btC B), .cells true 3 (ivC L)] ++ [.cells true 1 (stC ((topsV [] L).map (·.1))), .cells true 1 (stC ((topsV [] L).map (·.2)))]) := by
  have hx : RowC 3 [.cells false 3 (btC B), .cells true 3 (ivC L)] (.slice 1 0 L.length none) L.length (ivC L) := ⟨1, true, ivC L, rfl, rfl, List.take_of_length_le (Nat.le_refl _)⟩
  obtain ⟨b, hb, _, h⟩ := ACallsTo.rows1C (rest := []) (new := [.cells true 1 (stC ((topsV [] L).map (·.1))), .cells true 1 (stC ((topsV [] L).map (·.2)))]) (ivC_closed L) rfl rfl (Tryz.aTopsP L hL hl h0 hne) hx
  have : b = 1 := by simpa using hb.symm
  subst this
  simpa [AV.ren, AV.rens, back, ren_cells, stC_ren] using h
set_option maxHeartbeats 3200000 in
theorem Tryz.aWelllogTops (B : List Bit) (hB : ∀ b ∈ B, okBit b) : ACallsTo Tryz.prog 3 [.slice 0 0 B.length none] [.cells false 3 (btC B)] (.bool true) [.cells false 3 (btC B)] := by
  have hG : fnOf Tryz.prog 3 = some Tryz.f3 := by kernel_rfl
  by_cases h8 : B.length ≤ 8
  · have h8I : ¬ (8 : Int) < B.length := by omega
    have h8N : ¬ 8 < B.length := by omega
    cases hBc : B with
    | nil =>
      subst hBc
      have hmk : ACallsTo Tryz.prog 9 [.slice 0 0 0 none] [.cells false 3 (btC [])] .nilslice ([.cells false 3 (btC [])] ++ []) := Tryz.aMakeP [] (fun b hb => by cases hb) (by decide)
      have hto : ACallsTo Tryz.prog 10 [.nilslice] [.cells false 3 (btC [])] (.tuple [.nilslice, .nilslice, .int .i64 0]) ([.cells false 3 (btC [])] ++ []) := by simpa using Tryz.aTopsNil [.cells false 3 (btC [])]
      have h : callFn (tyOf Tryz.prog) Tryz.wtLv (fnOf Tryz.prog) (Oracle.or (pureO Tryz.knF) (Oracle.or (oneO 9 [.slice 0 0 0 none] [.cells false 3 (btC [])] ⟨.nilslice, none, []⟩) (oneO 10 [.nilslice] [.cells false 3 (btC [])] ⟨.tuple [.nilslice, .nilslice, .int .i64 0], none, []⟩))) 1 3 [.slice 0 0 0 none] [.cells false 3 (btC [])] = some ⟨.bool true, none, []⟩ := by
        have hlv : ∀ c : Code, (writesC c).contains 88 = true → Tryz.wtLv c = [7, 40] := fun c hc => by unfold Tryz.wtLv; rw [if_pos hc]
        simp [callFn, hG, Tryz.f3, Oracle.or, pureO, Tryz.knF, oneO_at, oneO_ne, execC_loop, iter, hlv]
      have := (callFn_sound Tryz.mixed (tyOf_ok _) (Tryz.knF_ok.or ((oneO_ok hmk).or (oneO_ok hto))) (fnOf_ok _) h).1
      simpa [CallRes.mem] using this
    | cons b0 B0 =>
      rw [← hBc]
      have hL := mkL_short B 0 (by omega)
      have h0 := logR_mkL B h8
      have hlen := mkL_length 0 B
      have hmk := Tryz.aMakeP B hB h8
      obtain ⟨L, hLd⟩ : ∃ L, L = mkL 0 B := ⟨_, rfl⟩
      rw [← hLd] at hL h0 hlen hmk
      have hne : L ≠ [] := by
        intro e; rw [e, hBc] at hlen; simp at hlen
      have hmk' : ACallsTo Tryz.prog 9 [.slice 0 0 B.length none] [.cells false 3 (btC B)] (.slice 1 0 L.length none) ([.cells false 3 (btC B)] ++ [.cells true 3 (ivC L)]) := by
        cases L with
        | nil => exact absurd rfl hne
        | cons x L => exact hmk
      have hto := Tryz.aTopsM B L hL (by omega) h0 hne
      obtain ⟨bb, bb1, hb⟩ : ∃ b b1, loopsF Tryz.f3 = [b, b1] := ⟨_, _, rfl⟩
      obtain ⟨T, hT⟩ : ∃ T, T = topsV [] L := ⟨_, rfl⟩
      rw [← hT] at hto
      have hO := Tryz.knF_ok.or ((oneO_ok hmk').or (oneO_ok hto))
      obtain ⟨O, hOd⟩ : ∃ O, O = Oracle.or (pureO Tryz.knF) (Oracle.or (oneO 9 [.slice 0 0 B.length none] [.cells false 3 (btC B)] ⟨.slice 1 0 L.length none, none, [.cells true 3 (ivC L)]⟩) (oneO 10 [.slice 1 0 L.length none] [.cells false 3 (btC B), .cells true 3 (ivC L)] ⟨.tuple [.slice 2 0 T.length none, .slice 3 0 T.length none, .int .i64 0], none, [.cells true 1 (stC (T.map (·.1))), .cells true 1 (stC (T.map (·.2)))]⟩)) := ⟨_, rfl⟩
      rw [← hOd] at hO
      obtain ⟨F, hF⟩ := Tryz.wt_outer (O := O) (K := L.length + 1) B L T hT (by omega) (by omega) hb
      have hF1 := fun env0 d h => (hF env0 d h).1
      have hF2 := fun env0 d h => (hF env0 d h).2.1
      have hF3 := fun env0 d h => (hF env0 d h).2.2
      clear hF
      have o1 : ∀ M, O (.fn 8) [] M = some ⟨.bool true, none, []⟩ := fun M => by rw [hOd]; rfl
      have o2 : O (.fn 9) [.slice 0 0 B.length none] [.cells false 3 (btC B)] = some ⟨.slice 1 0 L.length none, none, [.cells true 3 (ivC L)]⟩ := by rw [hOd]; simp [Oracle.or, pureO, Tryz.knF, oneO_at]
      have o3 : O (.fn 10) [.slice 1 0 L.length none] [.cells false 3 (btC B), .cells true 3 (ivC L)] = some ⟨.tuple [.slice 2 0 T.length none, .slice 3 0 T.length none, .int .i64 0], none, [.cells true 1 (stC (T.map (·.1))), .cells true 1 (stC (T.map (·.2)))]⟩ := by rw [hOd]; simp [Oracle.or, pureO, Tryz.knF, oneO_at, oneO_ne]
      clear hOd
      simp [loopsF, loopsC, Tryz.f3] at hb
      obtain ⟨hbb, hbb1⟩ := hb
      subst hbb
      have h : callFn (tyOf Tryz.prog) Tryz.wtLv (fnOf Tryz.prog) O (L.length + 1) 3 [.slice 0 0 B.length none] [.cells false 3 (btC B)] = some ⟨.bool true, none, []⟩ := by
        simp [callFn, hG, Tryz.f3, h8I, h8N, o1, o2, o3, hF1, hF2, hF3]
      have := (callFn_sound Tryz.mixed (tyOf_ok _) hO (fnOf_ok _) h).1
      simpa [CallRes.mem] using this
  · have h8I : (8 : Int) < B.length := by omega
    have h8N : 8 < B.length := by omega
    have h : callFn (tyOf Tryz.prog) Tryz.wtLv (fnOf Tryz.prog) (pureO Tryz.knF) 1 3 [.slice 0 0 B.length none] [.cells false 3 (btC B)] = some ⟨.bool true, none, []⟩ := by
      simp [callFn, hG, Tryz.f3, pureO, Tryz.knF, h8I, h8N]
    have := (callFn_sound Tryz.mixed (tyOf_ok _) Tryz.knF_ok (fnOf_ok _) h).1
    simpa [CallRes.mem] using this
theorem Tryz.aWelllogTopsNil : ACallsTo Tryz.prog 3 [.nilslice] [] (.bool true) [] := by
  have hG : fnOf Tryz.prog 3 = some Tryz.f3 := by kernel_rfl
  have hmk : ACallsTo Tryz.prog 9 [.nilslice] [] .nilslice ([] ++ []) := Tryz.aMakeNil []
  have hto : ACallsTo Tryz.prog 10 [.nilslice] [] (.tuple [.nilslice, .nilslice, .int .i64 0]) ([] ++ []) := Tryz.aTopsNil []
  have h : callFn (tyOf Tryz.prog) Tryz.wtLv (fnOf Tryz.prog) (Oracle.or (pureO Tryz.knF) (Oracle.or (oneO 9 [.nilslice] [] ⟨.nilslice, none, []⟩) (oneO 10 [.nilslice] [] ⟨.tuple [.nilslice, .nilslice, .int .i64 0], none, []⟩))) 1 3 [.nilslice] [] = some ⟨.bool true, none, []⟩ := by
    have hlv : ∀ c : Code, (writesC c).contains 88 = true → Tryz.wtLv c = [7, 40] := fun c hc => by unfold Tryz.wtLv; rw [if_pos hc]
    simp [callFn, hG, Tryz.f3, Oracle.or, pureO, Tryz.knF, oneO_at, oneO_ne, execC_loop, iter, hlv]
  have := (callFn_sound Tryz.mixed (tyOf_ok _) (Tryz.knF_ok.or ((oneO_ok hmk).or (oneO_ok hto))) (fnOf_ok _) h).1
  simpa [CallRes.mem] using this
end Go.Proofs
