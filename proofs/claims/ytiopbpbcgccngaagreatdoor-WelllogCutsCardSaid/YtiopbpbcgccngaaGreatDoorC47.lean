/- Part C47 of a proof: see its last part, YtiopbpbcgccngaaGreatDoorC54.lean. -/
import Derived.Test.YtiopbpbcgccngaaGreatDoorC46
set_option linter.all false
namespace Go.Proofs
open Go.Eng
theorem closeds_take : ∀ (n : Nat) (R : List AV), AV.closeds R = true → AV.closeds (R.take n) = true
  | 0, _, _ => rfl
  | _ + 1, [], _ => rfl
  | n + 1, v :: R, h => by
    simp only [AV.closeds, Bool.and_eq_true] at h
    simp only [List.take_succ_cons, AV.closeds, Bool.and_eq_true]
    exact ⟨h.1, closeds_take n R h.2⟩
theorem refsL_take (m : Nat) : ∀ (n : Nat) (R : List AV), AV.refsL m R = [] → AV.refsL m (R.take n) = []
  | 0, _, _ => rfl
  | _ + 1, [], _ => rfl
  | n + 1, v :: R, h => by
    simp only [AV.refsL, List.append_eq_nil_iff] at h
    simp only [List.take_succ_cons, AV.refsL, List.append_eq_nil_iff]
    exact ⟨h.1, refsL_take m n R h.2⟩
def mgV : Option (List Iv × Iv) → List Iv → Option (List Iv × Iv)
  | st, [] => st
  | none, x :: l => mgV (some ([], x)) l
  | some (acc, z), x :: l => if z.1 = x.1 ∧ z.2.2 = x.2.1 then mgV (some (acc, (z.1, z.2.1, x.2.2))) l else mgV (some (acc ++ [z], x)) l
def mgL : Option (List Iv × Iv) → List Iv
  | none => []
  | some (acc, z) => acc ++ [z]
def mgR (acc : List Iv) (z : Iv) : List AV := ivC acc ++ [.str z.1, .str z.2.1, .str z.2.2]
theorem mgR_eq (acc : List Iv) (z : Iv) : mgR acc z = ivC (acc ++ [z]) := by rw [ivC_append]; rfl
def mgM (L : List Iv) : Option (List Iv × Iv) → Mem
  | none => [.cells false 3 (ivC L)]
  | some (acc, z) => [.cells false 3 (ivC L), .cells true 3 (mgR acc z)]
def mgO : Option (List Iv × Iv) → AV
  | none => .nilslice
  | some (acc, _) => .slice 1 0 (acc.length + 1) none
def mgN : Option (List Iv × Iv) → Nat
  | none => 0
  | some (acc, _) => acc.length + 1
set_option maxHeartbeats 6400000 in
theorem Tryz.merge_loop {O : Oracle} {K : Nat} (L : List Iv) (hl : L.length ≤ 1000000) (hK : L.length < K) {b : Code} (hb : loopsF Tryz.f52 = [b]) :
    ∃ F : Env → Bool → Env, ∀ env0 d, (Go.Eng.look env0 3 = .nilslice ∧ Go.Eng.look env0 7 = .slice 0 0 L.length none ∧ Go.Eng.look env0 8 = .int .i64 L.length ∧ Go.Eng.look env0 9 = .int .i64 0) →
      execC (tyOf Tryz.prog) (fun _ => [3, 9]) O K 52 1 true (.loop b) ⟨env0, [.cells false 3 (ivC L)], d⟩ = some (.exit 0, ⟨F env0 d, mgM L (mgV none L), d⟩) ∧
        Go.Eng.look (F env0 d) 3 = mgO (mgV none L) := by
  refine loop_rule rfl (fun env0 => Go.Eng.look env0 3 = .nilslice ∧ Go.Eng.look env0 7 = .slice 0 0 L.length none ∧ Go.Eng.look env0 8 = .int .i64 L.length ∧ Go.Eng.look env0 9 = .int .i64 0) (fun _ env' => Go.Eng.look env' 3 = mgO (mgV none L)) ?_
  rintro env0 d ⟨h3, h7, h8, h9⟩
  obtain ⟨ops, hops⟩ : ∃ ops, drawsF Tryz.f52 = [ops] := ⟨_, rfl⟩
  have hbs := draws_one hops (l := [0, 1, 3, 7, 7, 23, 63, 127, 255, 7, 519, 2047, 4095, 8191, 16383, 16383, 49151, 131071, 262143, 524287, 16383, 1064959, 4194303, 8388607]) (by kernel_rfl)
  have hab : allBef [0, 1, 3, 7, 7, 23, 63, 127, 255, 7, 519, 2047, 4095, 8191, 16383, 16383, 49151, 131071, 262143, 524287, 16383, 1064959, 4194303, 8388607] 23 = true := by decide
  simp [drawsF, drawsC, Tryz.f52] at hops
  subst hops
  simp [loopsF, loopsC, Tryz.f52] at hb
  have hn : normE [3, 9] (writesC b) env0 ((3, mgO none) :: (9, .int .i64 ((0 : Nat) : Int)) :: env0) = normE [3, 9] (writesC b) env0 env0 := by simp [normE, h3, h9, mgO]
  rw [← hn]
  have kl : (ivC L).length = L.length * 3 := ivC_length L
  refine iter_ind (α := Nat × Option (List Iv × Iv)) (fun s => ⟨normE [3, 9] (writesC b) env0 ((3, mgO s.2) :: (9, .int .i64 (s.1 : Int)) :: env0), mgM L s.2, d⟩) (fun s => L.length - s.1) (fun s => s.1 ≤ L.length ∧ mgN s.2 ≤ s.1 ∧ mgV none L = mgV s.2 (L.drop s.1)) (.exit 0) _ d _ (by simp) ?_ K (0, none) ⟨by simp, by simp [mgN], by rw [List.drop_zero]⟩ (by simp only; omega)
  rintro ⟨n, st⟩ ⟨hn1, hn2, he⟩
  simp only at hn1 hn2 he ⊢
  clear hn
  subst hb
  by_cases hlt : n < L.length
  · left
    obtain ⟨k, hk⟩ : ∃ k, L[n]? = some k := ⟨L[n], List.getElem?_eq_getElem hlt⟩
    obtain ⟨k1, _, _, _⟩ := ivC_at hk
    have hd : L.drop n = k :: L.drop (n + 1) := by
      rw [List.getElem?_eq_some_iff] at hk
      obtain ⟨h1, h2⟩ := hk
      rw [← h2]; exact List.drop_eq_getElem_cons h1
    rw [hd] at he
    have w1 : IntKind.i64.wrap ((n : Int) + 1) = ((n + 1 : Nat) : Int) := by rw [wrap_i64 (by omega) (by omega)]; omega
    have k5 : n * 3 + 3 ≤ (ivC L).length := by omega
    obtain ⟨u, f, t⟩ := k
    simp only at k1
    cases st with
    | none =>
      rw [mgV] at he
      refine ⟨(n + 1, some ([], (u, f, t))), ?_⟩
      refine exists_and_fin (show (n + 1 ≤ L.length ∧ mgN (some (([] : List Iv), (u, f, t))) ≤ n + 1 ∧ mgV none L = mgV (some ([], (u, f, t))) (L.drop (n + 1))) ∧ L.length - (n + 1) < L.length - n from ⟨⟨by omega, by simp [mgN], he⟩, by omega⟩) ?_
      simp [-runDraw, runDraw_light hbs, runDrawL, lightAll, lightRec, hab, h7, h8, hlt, k1, k5, mgM, mgO, mgR, w1, ivC, ivC_refs, ivC_ren, Nat.testBit]
    | some st =>
      obtain ⟨acc, z⟩ := st
      rw [mgV] at he
      simp only [mgN] at hn2
      obtain ⟨a, ha⟩ : ∃ a, a = acc.length := ⟨_, rfl⟩
      obtain ⟨R, hR⟩ : ∃ R, R = mgR acc z := ⟨_, rfl⟩
      rw [← ha] at hn2
      have rl : R.length = (a + 1) * 3 := by rw [hR, mgR_eq, ivC_length, ha]; simp
      have cl : (ivC acc).length = a * 3 := by rw [ivC_length, ha]
      have q0 : R[a * 3]? = some (.str z.1) := by rw [hR, mgR, List.getElem?_append_right (by omega), cl, Nat.sub_self]; rfl
      have q1 : R[a * 3 + 1]? = some (.str z.2.1) := by rw [hR, mgR, List.getElem?_append_right (by omega), cl, show a * 3 + 1 - a * 3 = 1 by omega]; rfl
      have q2 : R[a * 3 + 2]? = some (.str z.2.2) := by rw [hR, mgR, List.getElem?_append_right (by omega), cl, show a * 3 + 2 - a * 3 = 2 by omega]; rfl
      have j0 : ∀ h, R[a * 3]'h = .str z.1 := fun h => by rw [List.getElem?_eq_getElem h] at q0; exact Option.some.inj q0
      have j1 : ∀ h, R[a * 3 + 1]'h = .str z.2.1 := fun h => by rw [List.getElem?_eq_getElem h] at q1; exact Option.some.inj q1
      have j2 : ∀ h, R[a * 3 + 2]'h = .str z.2.2 := fun h => by rw [List.getElem?_eq_getElem h] at q2; exact Option.some.inj q2
      have c0 : a * 3 < (a + 1) * 3 := by omega
      have c1 : a * 3 + 1 < (a + 1) * 3 := by omega
      have c2 : a * 3 + 2 < (a + 1) * 3 := by omega
      have c3 : a * 3 + 3 ≤ (a + 1) * 3 := by omega
      have c4 : a * 3 + 2 + 1 ≤ (a + 1) * 3 := by omega
      have hR1 : ∀ f, AV.rens f R = R := fun f => by rw [hR, mgR_eq]; exact ivC_ren f _
      have hR2 : ∀ n, AV.refsL n R = [] := fun n => by rw [hR, mgR_eq]; exact ivC_refs n _
      have hRt : R.take ((a + 1) * 3) = R := List.take_of_length_le (by omega)
      have wa : IntKind.i64.wrap (a : Int) = (a : Int) := wrap_i64 (by omega) (by omega)
      have hai : (a : Int) < (a : Int) + 1 := by omega
      have b1 : (a + 1 + 1) * 48 ≤ 140737488355328 := by omega
      have b2 : a + 1 + 1 ≤ 140737488355328 := by omega
      have b3 : a ≤ 140737488355326 := by omega
      have m0 : mgM L (some (acc, z)) = [.cells false 3 (ivC L), .cells true 3 R] := by rw [hR]; rfl
      have v0 : mgO (some (acc, z)) = .slice 1 0 (a + 1) none := by rw [ha]; rfl
      by_cases hz : z.1 = u ∧ z.2.2 = f
      · rw [if_pos hz] at he
        obtain ⟨z1, z2⟩ := hz
        have hst : R.take (a * 3 + 2) ++ [.str t] = mgR acc (z.1, z.2.1, t) := by
          rw [hR, mgR, mgR, List.take_append, cl, List.take_of_length_le (by omega), show a * 3 + 2 - a * 3 = 2 by omega]
          simp
        have hdr : R.drop (a * 3 + 3) = [] := List.drop_of_length_le (by omega)
        have hdr2 : R.drop (a * 3 + 2 + 1) = [] := List.drop_of_length_le (by omega)
        refine ⟨(n + 1, some (acc, (z.1, z.2.1, t))), ?_⟩
        refine exists_and_fin (show (n + 1 ≤ L.length ∧ mgN (some (acc, (z.1, z.2.1, t))) ≤ n + 1 ∧ mgV none L = mgV (some (acc, (z.1, z.2.1, t))) (L.drop (n + 1))) ∧ L.length - (n + 1) < L.length - n from ⟨⟨by omega, by simp only [mgN]; omega, he⟩, by omega⟩) ?_
        have m1 : mgM L (some (acc, (z.1, z.2.1, t))) = [.cells false 3 (ivC L), .cells true 3 (mgR acc (z.1, z.2.1, t))] := rfl
        have v1 : mgO (some (acc, (z.1, z.2.1, t))) = .slice 1 0 (a + 1) none := by rw [ha]; rfl
        rw [m0, v0, m1, v1, ← hst]
        have hT1 : ∀ f, AV.rens f (R.take (a * 3 + 2)) = R.take (a * 3 + 2) := fun f => rens_closeds (closeds_take _ _ (by rw [hR, mgR_eq]; exact ivC_closed _))
        have hT2 : ∀ n, AV.refsL n (R.take (a * 3 + 2)) = [] := fun n => refsL_take n _ _ (hR2 n)
        clear he hst m0 v0 m1 v1 hR
        simp [-runDraw, runDraw_light hbs, runDrawL, lightAll, lightRec, hab, h7, h8, hlt, k1, k5, w1, wa, hai, rl, j0, j1, j2, c0, c1, c2, c3, c4, z1, z2, hdr, hdr2, hT1, hT2, ivC_refs, ivC_ren, Nat.testBit]
      · rw [if_neg hz] at he
        refine ⟨(n + 1, some (acc ++ [z], (u, f, t))), ?_⟩
        refine exists_and_fin (show (n + 1 ≤ L.length ∧ mgN (some (acc ++ [z], (u, f, t))) ≤ n + 1 ∧ mgV none L = mgV (some (acc ++ [z], (u, f, t))) (L.drop (n + 1))) ∧ L.length - (n + 1) < L.length - n from ⟨⟨by omega, by simp [mgN]; omega, he⟩, by omega⟩) ?_
        have m1 : mgM L (some (acc ++ [z], (u, f, t))) = [.cells false 3 (ivC L), .cells true 3 (R ++ [.str u, .str f, .str t])] := by rw [hR, mgR_eq]; rfl
        have v1 : mgO (some (acc ++ [z], (u, f, t))) = .slice 1 0 (a + 1 + 1) none := by rw [ha]; simp [mgO]
        rw [m0, v0, m1, v1]
        clear he m0 v0 m1 v1 hR
        by_cases z1 : z.1 = u
        · have z2 : ¬ z.2.2 = f := fun e => hz ⟨z1, e⟩
          have e1 : (z.1 == u) = true := by simpa using z1
          have e2 : (z.2.2 == f) = false := by simpa using z2
          simp [-runDraw, runDraw_light hbs, runDrawL, lightAll, lightRec, hab, h7, h8, hlt, k1, k5, w1, wa, hai, rl, j0, j1, j2, c0, c1, c2, c3, c4, e1, e2, b1, b2, b3, hRt, hR1, hR2, ivC_refs, ivC_ren, Nat.testBit]
        · have e1 : (z.1 == u) = false := by simpa using z1
          by_cases z2 : z.2.2 = f
          · have e2 : (z.2.2 == f) = true := by simpa using z2
            simp [-runDraw, runDraw_light hbs, runDrawL, lightAll, lightRec, hab, h7, h8, hlt, k1, k5, w1, wa, hai, rl, j0, j1, j2, c0, c1, c2, c3, c4, e1, e2, b1, b2, b3, hRt, hR1, hR2, ivC_refs, ivC_ren, Nat.testBit]
          · have e2 : (z.2.2 == f) = false := by simpa using z2
            simp [-runDraw, runDraw_light hbs, runDrawL, lightAll, lightRec, hab, h7, h8, hlt, k1, k5, w1, wa, hai, rl, j0, j1, j2, c0, c1, c2, c3, c4, e1, e2, b1, b2, b3, hRt, hR1, hR2, ivC_refs, ivC_ren, Nat.testBit]
  · right
    have e : L.drop n = [] := List.drop_of_length_le (by omega)
    rw [e] at he
    have : mgV st [] = st := by cases st <;> rfl
    rw [this] at he
    rw [he]
    simp [h8, hlt]
end Go.Proofs
namespace Go.Proofs
open Go.Eng
set_option maxHeartbeats 6400000 in
theorem Tryz.lmerge_loop {O : Oracle} {K : Nat} (L : List Iv) (hl : L.length ≤ 1000000) (hK : L.length < K) {b : Code} (hb : loopsF Tryz.f23 = [b]) :
    ∃ F : Env → Bool → Env, ∀ env0 d, (Go.Eng.look env0 3 = .nilslice ∧ Go.Eng.look env0 7 = .slice 0 0 L.length none ∧ Go.Eng.look env0 8 = .int .i64 L.length ∧ Go.Eng.look env0 9 = .int .i64 0) →
      execC (tyOf Tryz.prog) (fun _ => [3, 9]) O K 52 1 true (.loop b) ⟨env0, [.cells false 3 (ivC L)], d⟩ = some (.exit 0, ⟨F env0 d, mgM L (mgV none L), d⟩) ∧
        Go.Eng.look (F env0 d) 3 = mgO (mgV none L) := by
  refine loop_rule rfl (fun env0 => Go.Eng.look env0 3 = .nilslice ∧ Go.Eng.look env0 7 = .slice 0 0 L.length none ∧ Go.Eng.look env0 8 = .int .i64 L.length ∧ Go.Eng.look env0 9 = .int .i64 0) (fun _ env' => Go.Eng.look env' 3 = mgO (mgV none L)) ?_
  rintro env0 d ⟨h3, h7, h8, h9⟩
  obtain ⟨ops, hops⟩ : ∃ ops, drawsF Tryz.f23 = [ops] := ⟨_, rfl⟩
  have hbs := draws_one hops (l := [0, 1, 3, 7, 7, 23, 63, 127, 255, 7, 519, 2047, 4095, 8191, 16383, 16383, 49151, 131071, 262143, 524287, 16383, 1064959, 4194303, 8388607]) (by kernel_rfl)
  have hab : allBef [0, 1, 3, 7, 7, 23, 63, 127, 255, 7, 519, 2047, 4095, 8191, 16383, 16383, 49151, 131071, 262143, 524287, 16383, 1064959, 4194303, 8388607] 23 = true := by decide
  simp [drawsF, drawsC, Tryz.f23] at hops
  subst hops
  simp [loopsF, loopsC, Tryz.f23] at hb
  have hn : normE [3, 9] (writesC b) env0 ((3, mgO none) :: (9, .int .i64 ((0 : Nat) : Int)) :: env0) = normE [3, 9] (writesC b) env0 env0 := by simp [normE, h3, h9, mgO]
  rw [← hn]
  have kl : (ivC L).length = L.length * 3 := ivC_length L
  refine iter_ind (α := Nat × Option (List Iv × Iv)) (fun s => ⟨normE [3, 9] (writesC b) env0 ((3, mgO s.2) :: (9, .int .i64 (s.1 : Int)) :: env0), mgM L s.2, d⟩) (fun s => L.length - s.1) (fun s => s.1 ≤ L.length ∧ mgN s.2 ≤ s.1 ∧ mgV none L = mgV s.2 (L.drop s.1)) (.exit 0) _ d _ (by simp) ?_ K (0, none) ⟨by simp, by simp [mgN], by rw [List.drop_zero]⟩ (by simp only; omega)
  rintro ⟨n, st⟩ ⟨hn1, hn2, he⟩
  simp only at hn1 hn2 he ⊢
  clear hn
  subst hb
  by_cases hlt : n < L.length
  · left
    obtain ⟨k, hk⟩ : ∃ k, L[n]? = some k := ⟨L[n], List.getElem?_eq_getElem hlt⟩
    obtain ⟨k1, _, _, _⟩ := ivC_at hk
    have hd : L.drop n = k :: L.drop (n + 1) := by
      rw [List.getElem?_eq_some_iff] at hk
      obtain ⟨h1, h2⟩ := hk
      rw [← h2]; exact List.drop_eq_getElem_cons h1
    rw [hd] at he
    have w1 : IntKind.i64.wrap ((n : Int) + 1) = ((n + 1 : Nat) : Int) := by rw [wrap_i64 (by omega) (by omega)]; omega
    have k5 : n * 3 + 3 ≤ (ivC L).length := by omega
    obtain ⟨u, f, t⟩ := k
    simp only at k1
    cases st with
    | none =>
      rw [mgV] at he
      refine ⟨(n + 1, some ([], (u, f, t))), ?_⟩
      refine exists_and_fin (show (n + 1 ≤ L.length ∧ mgN (some (([] : List Iv), (u, f, t))) ≤ n + 1 ∧ mgV none L = mgV (some ([], (u, f, t))) (L.drop (n + 1))) ∧ L.length - (n + 1) < L.length - n from ⟨⟨by omega, by simp [mgN], he⟩, by omega⟩) ?_
      simp [-runDraw, runDraw_light hbs, runDrawL, lightAll, lightRec, hab, h7, h8, hlt, k1, k5, mgM, mgO, mgR, w1, ivC, ivC_refs, ivC_ren, Nat.testBit]
    | some st =>
      obtain ⟨acc, z⟩ := st
      rw [mgV] at he
      simp only [mgN] at hn2
      obtain ⟨a, ha⟩ : ∃ a, a = acc.length := ⟨_, rfl⟩
      obtain ⟨R, hR⟩ : ∃ R, R = mgR acc z := ⟨_, rfl⟩
      rw [← ha] at hn2
      have rl : R.length = (a + 1) * 3 := by rw [hR, mgR_eq, ivC_length, ha]; simp
      have cl : (ivC acc).length = a * 3 := by rw [ivC_length, ha]
      have q0 : R[a * 3]? = some (.str z.1) := by rw [hR, mgR, List.getElem?_append_right (by omega), cl, Nat.sub_self]; rfl
      have q1 : R[a * 3 + 1]? = some (.str z.2.1) := by rw [hR, mgR, List.getElem?_append_right (by omega), cl, show a * 3 + 1 - a * 3 = 1 by omega]; rfl
      have q2 : R[a * 3 + 2]? = some (.str z.2.2) := by rw [hR, mgR, List.getElem?_append_right (by omega), cl, show a * 3 + 2 - a * 3 = 2 by omega]; rfl
      have j0 : ∀ h, R[a * 3]'h = .str z.1 := fun h => by rw [List.getElem?_eq_getElem h] at q0; exact Option.some.inj q0
      have j1 : ∀ h, R[a * 3 + 1]'h = .str z.2.1 := fun h => by rw [List.getElem?_eq_getElem h] at q1; exact Option.some.inj q1
      have j2 : ∀ h, R[a * 3 + 2]'h = .str z.2.2 := fun h => by rw [List.getElem?_eq_getElem h] at q2; exact Option.some.inj q2
      have c0 : a * 3 < (a + 1) * 3 := by omega
      have c1 : a * 3 + 1 < (a + 1) * 3 := by omega
      have c2 : a * 3 + 2 < (a + 1) * 3 := by omega
      have c3 : a * 3 + 3 ≤ (a + 1) * 3 := by omega
      have c4 : a * 3 + 2 + 1 ≤ (a + 1) * 3 := by omega
      have hR1 : ∀ f, AV.rens f R = R := fun f => by rw [hR, mgR_eq]; exact ivC_ren f _
      have hR2 : ∀ n, AV.refsL n R = [] := fun n => by rw [hR, mgR_eq]; exact ivC_refs n _
      have hRt : R.take ((a + 1) * 3) = R := List.take_of_length_le (by omega)
      have wa : IntKind.i64.wrap (a : Int) = (a : Int) := wrap_i64 (by omega) (by omega)
      have hai : (a : Int) < (a : Int) + 1 := by omega
      have b1 : (a + 1 + 1) * 48 ≤ 140737488355328 := by omega
      have b2 : a + 1 + 1 ≤ 140737488355328 := by omega
      have b3 : a ≤ 140737488355326 := by omega
      have m0 : mgM L (some (acc, z)) = [.cells false 3 (ivC L), .cells true 3 R] := by rw [hR]; rfl
      have v0 : mgO (some (acc, z)) = .slice 1 0 (a + 1) none := by rw [ha]; rfl
      by_cases hz : z.1 = u ∧ z.2.2 = f
      · rw [if_pos hz] at he
        obtain ⟨z1, z2⟩ := hz
        have hst : R.take (a * 3 + 2) ++ [.str t] = mgR acc (z.1, z.2.1, t) := by
          rw [hR, mgR, mgR, List.take_append, cl, List.take_of_length_le (by omega), show a * 3 + 2 - a * 3 = 2 by omega]
          simp
        have hdr : R.drop (a * 3 + 3) = [] := List.drop_of_length_le (by omega)
        have hdr2 : R.drop (a * 3 + 2 + 1) = [] := List.drop_of_length_le (by omega)
        refine ⟨(n + 1, some (acc, (z.1, z.2.1, t))), ?_⟩
        refine exists_and_fin (show (n + 1 ≤ L.length ∧ mgN (some (acc, (z.1, z.2.1, t))) ≤ n + 1 ∧ mgV none L = mgV (some (acc, (z.1, z.2.1, t))) (L.drop (n + 1))) ∧ L.length - (n + 1) < L.length - n from ⟨⟨by omega, by simp only [mgN]; omega, he⟩, by omega⟩) ?_
        have m1 : mgM L (some (acc, (z.1, z.2.1, t))) = [.cells false 3 (ivC L), .cells true 3 (mgR acc (z.1, z.2.1, t))] := rfl
        have v1 : mgO (some (acc, (z.1, z.2.1, t))) = .slice 1 0 (a + 1) none := by rw [ha]; rfl
        rw [m0, v0, m1, v1, ← hst]
        have hT1 : ∀ f, AV.rens f (R.take (a * 3 + 2)) = R.take (a * 3 + 2) := fun f => rens_closeds (closeds_take _ _ (by rw [hR, mgR_eq]; exact ivC_closed _))
        have hT2 : ∀ n, AV.refsL n (R.take (a * 3 + 2)) = [] := fun n => refsL_take n _ _ (hR2 n)
        clear he hst m0 v0 m1 v1 hR
        simp [-runDraw, runDraw_light hbs, runDrawL, lightAll, lightRec, hab, h7, h8, hlt, k1, k5, w1, wa, hai, rl, j0, j1, j2, c0, c1, c2, c3, c4, z1, z2, hdr, hdr2, hT1, hT2, ivC_refs, ivC_ren, Nat.testBit]
      · rw [if_neg hz] at he
        refine ⟨(n + 1, some (acc ++ [z], (u, f, t))), ?_⟩
        refine exists_and_fin (show (n + 1 ≤ L.length ∧ mgN (some (acc ++ [z], (u, f, t))) ≤ n + 1 ∧ mgV none L = mgV (some (acc ++ [z], (u, f, t))) (L.drop (n + 1))) ∧ L.length - (n + 1) < L.length - n from ⟨⟨by omega, by simp [mgN]; omega, he⟩, by omega⟩) ?_
        have m1 : mgM L (some (acc ++ [z], (u, f, t))) = [.cells false 3 (ivC L), .cells true 3 (R ++ [.str u, .str f, .str t])] := by rw [hR, mgR_eq]; rfl
        have v1 : mgO (some (acc ++ [z], (u, f, t))) = .slice 1 0 (a + 1 + 1) none := by rw [ha]; simp [mgO]
        rw [m0, v0, m1, v1]
        clear he m0 v0 m1 v1 hR
        by_cases z1 : z.1 = u
        · have z2 : ¬ z.2.2 = f := fun e => hz ⟨z1, e⟩
          have e1 : (z.1 == u) = true := by simpa using z1
          have e2 : (z.2.2 == f) = false := by simpa using z2
          simp [-runDraw, runDraw_light hbs, runDrawL, lightAll, lightRec, hab, h7, h8, hlt, k1, k5, w1, wa, hai, rl, j0, j1, j2, c0, c1, c2, c3, c4, e1, e2, b1, b2, b3, hRt, hR1, hR2, ivC_refs, ivC_ren, Nat.testBit]
        · have e1 : (z.1 == u) = false := by simpa using z1
          by_cases z2 : z.2.2 = f
          · have e2 : (z.2.2 == f) = true := by simpa using z2
            simp [-runDraw, runDraw_light hbs, runDrawL, lightAll, lightRec, hab, h7, h8, hlt, k1, k5, w1, wa, hai, rl, j0, j1, j2, c0, c1, c2, c3, c4, e1, e2, b1, b2, b3, hRt, hR1, hR2, ivC_refs, ivC_ren, Nat.testBit]
          · have e2 : (z.2.2 == f) = false := by simpa using z2
            simp [-runDraw, runDraw_light hbs, runDrawL, lightAll, lightRec, hab, h7, h8, hlt, k1, k5, w1, wa, hai, rl, j0, j1, j2, c0, c1, c2, c3, c4, e1, e2, b1, b2, b3, hRt, hR1, hR2, ivC_refs, ivC_ren, Nat.testBit]
  · right
    have e : L.drop n = [] := List.drop_of_length_le (by omega)
    rw [e] at he
    have : mgV st [] = st := by cases st <;> rfl
    rw [this] at he
    rw [he]
    simp [h8, hlt]
end Go.Proofs
