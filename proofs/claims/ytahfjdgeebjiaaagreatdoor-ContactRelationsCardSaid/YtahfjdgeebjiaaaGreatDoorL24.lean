/- Part L24 of a proof: see its last part, YtahfjdgeebjiaaaGreatDoorL55.lean. -/
import Derived.Test.YtahfjdgeebjiaaaGreatDoorL22
import Derived.Test.YtahfjdgeebjiaaaGreatDoorL23
import Derived.Test.YtahfjdgeebjiaaaGreatDoorL11
set_option linter.all false
namespace Go.Proofs
open Go.Eng
noncomputable def Tryz.numF (f : FuncId) (args : List AV) : Option AV :=
  match f, args with
  | 304, [.str s, .int .i64 b, .int .i64 w] => if s ≠ [] ∧ s.all isD = true ∧ s.length ≤ 18 ∧ b = 10 ∧ w = 64 then some (.tuple [.int .u64 (valD s : Nat), .nilIface]) else none
  | 308, [.int .u64 u, .int .i64 b] => if 0 ≤ u ∧ u ≤ 18446744073709551615 ∧ b = 10 then some (.str (natD u.toNat)) else none
  | f, args => Tryz.strF f args
theorem Tryz.num_ok : OracleOk Tryz.prog (pureO Tryz.numF) := pureO_ok fun f args v h mem => by
  unfold Tryz.numF at h
  split at h
  · split at h
    · rename_i hc
      obtain ⟨h1, h2, h3, rfl, rfl⟩ := hc
      cases h
      exact Tryz.aParseUint _ h1 h2 h3 mem
    · cases h
  · split at h
    · rename_i hc
      obtain ⟨h1, h2, rfl⟩ := hc
      cases h
      have hd := (Int.toNat_lt h1).2 (show _ < ((18446744073709551616 : Nat) : Int) by omega)
      have := Tryz.aFormatUint _ hd mem
      rw [Int.toNat_of_nonneg h1] at this
      exact this
    · cases h
  · have := Tryz.str_ok.fn _ _ mem ⟨v, none, []⟩ (by unfold pureO; simp only; rw [h])
    simpa [CallRes.mem] using this
noncomputable def Tryz.bnO6 : Oracle := fun c args M => ((pureO Tryz.numF).or Tryz.bnO5) c args M
theorem Tryz.bnO6_ok : OracleOk Tryz.prog Tryz.bnO6 := Tryz.num_ok.or Tryz.bnO5_ok
def openMem : List Nat → Mem
  | [] => [.cells true 0 [.bool false, .nilslice], .cells true 1 []]
  | x :: l => [.cells true 0 [.bool false, .nilslice], .absent, .cells true 1 (iN .u64 (x :: l))]
def openOut : List Nat → AV
  | [] => .slice 1 0 0 none
  | x :: l => .slice 2 0 (l.length + 1) none
theorem Tryz.open_loop {K : Nat} (s0 : List UInt8) (hd : s0.all isD = true) (hs : s0.length ≤ 1000000) (hK : s0.length < K) {b : Code} (hb : loopsF Tryz.f262 = [b]) :
    ∃ F : Env → Bool → Env, ∀ env0 d, (Go.Eng.look env0 3 = .str s0 ∧ Go.Eng.look env0 5 = .slice 1 0 0 none) →
      execC (tyOf Tryz.prog) (fun _ => [3, 5]) Tryz.bnO6 K 44 0 true (.loop b) ⟨env0, openMem [], d⟩ = some (.exit 0, ⟨F env0 d, openMem (chunks s0), d⟩) ∧
      (Go.Eng.look (F env0 d) 5 = openOut (chunks s0) ∧ Go.Eng.look (F env0 d) 2 = Go.Eng.look env0 2 ∧ Go.Eng.look (F env0 d) 4 = Go.Eng.look env0 4) := by
  refine loop_rule rfl (fun env0 => Go.Eng.look env0 3 = .str s0 ∧ Go.Eng.look env0 5 = .slice 1 0 0 none) (fun env0 env' => Go.Eng.look env' 5 = openOut (chunks s0) ∧ Go.Eng.look env' 2 = Go.Eng.look env0 2 ∧ Go.Eng.look env' 4 = Go.Eng.look env0 4) ?_
  rintro env0 d ⟨h3, h5⟩
  simp [loopsF, loopsC, Tryz.f262] at hb
  have hn : normE [3, 5] (writesC b) env0 ((3, .str s0) :: (5, openOut []) :: env0) = normE [3, 5] (writesC b) env0 env0 := by simp [normE, h3, h5, openOut]
  rw [← hn]
  refine iter_ind (α := List UInt8 × List Nat) (fun a => ⟨normE [3, 5] (writesC b) env0 ((3, .str a.1) :: (5, openOut a.2) :: env0), openMem a.2, d⟩) (fun a => a.1.length)
    (fun a => a.1.all isD = true ∧ a.1.length ≤ s0.length ∧ a.2 ++ chunks a.1 = chunks s0) (.exit 0) _ d _ (by simp) ?_ K (s0, []) ⟨hd, Nat.le_refl _, rfl⟩ hK
  rintro ⟨s, done⟩ ⟨hall, hle, hinv⟩
  simp only at hall hle hinv
  clear hn
  subst hb
  by_cases hs0 : s = []
  · right
    subst hs0
    rw [chunks_nil, List.append_nil] at hinv
    rw [← hinv]
    simp
  · left
    have hp : 0 < s.length := List.length_pos_iff.2 hs0
    rw [chunks_pos hs0] at hinv
    have hdl : done.length ≤ 1000000 := by
      have h1 := (chunks_spec _ s0 (Nat.le_refl _) hd).2.2
      rw [← hinv] at h1
      simp at h1; omega
    obtain ⟨k, hk⟩ : ∃ k, k = s.length - 9 := ⟨_, rfl⟩
    rw [← hk] at hinv
    obtain ⟨n, hn⟩ : ∃ n, n = valD (s.drop k) := ⟨_, rfl⟩
    have hnb : n < 1000000000 := by rw [hn, hk]; exact chunk_lt hall
    rw [← hn] at hinv
    have w1 : IntKind.i64.wrap ((s.length : Int) - 9) = (s.length : Int) - 9 := wrap_i64 (by omega) (by omega)
    have hmax : (if (s.length : Int) - 9 < 0 then (0 : Int) else (s.length : Int) - 9) = (k : Int) := by split <;> omega
    have hkl : k ≤ s.length := by omega
    have hks : (s.drop k).take (s.length - k) = s.drop k := List.take_of_length_le (by simp)
    have hdne : s.drop k ≠ [] := by intro e; have := congrArg List.length e; simp at this; omega
    have hdall := all_drop hall k
    have hdlen : (s.drop k).length ≤ 18 := by simp; omega
    have hkI : (k : Int) ≤ (s.length : Int) := by omega
    have hm1 : (done.length + 1) * 8 ≤ 140737488355328 := by omega
    have hm2 : done.length + 1 ≤ 140737488355328 := by omega
    obtain ⟨sd, hsd⟩ : ∃ sd, sd = s.drop k := ⟨_, rfl⟩
    rw [← hsd] at hks hdne hdall hdlen hn
    refine ⟨(s.take k, done ++ [n]), ?_⟩
    refine exists_and_fin (r := _ ∧ _) (show ((s.take k).all isD = true ∧ (s.take k).length ≤ s0.length ∧ (done ++ [n]) ++ chunks (s.take k) = chunks s0) ∧ (s.take k).length < s.length by
      refine ⟨⟨all_take hall k, by simp; omega, ?_⟩, by simp; omega⟩
      rw [← hinv]; simp) ?_
    clear hinv
    have hpI : 0 < (s.length : Int) := by omega
    cases done with
    | nil =>
      simp [openMem, openOut, Tryz.bnO6, Oracle.or, pureO, Tryz.numF, hp, w1, hmax, hkI, hkl, ← hsd, hks, hdne, hdall, hdlen, ← hn, iN_cons, Nat.testBit]
    | cons x l =>
      have ht : (iN .u64 l).take l.length = iN .u64 l := List.take_of_length_le (by simp)
      simp only [List.length_cons] at hm1 hm2
      simp [openMem, openOut, Tryz.bnO6, Oracle.or, pureO, Tryz.numF, hp, w1, hmax, hkI, hkl, ← hsd, hks, hdne, hdall, hdlen, ← hn, ht, hm1, hm2, iN_cons, iN_append, Nat.testBit]
end Go.Proofs
