/- Part B47 of a proof: see its last part, YtiopbpbcgccngaaGreatDoorB55.lean. -/
import Derived.Test.YtiopbpbcgccngaaGreatDoorB46
import Derived.Test.YtiopbpbcgccngaaGreatDoorB33
import Derived.Test.YtiopbpbcgccngaaGreatDoorB30
import Derived.Test.YtiopbpbcgccngaaGreatDoorB11
set_option linter.all false
namespace Go.Proofs
open Go.Eng
theorem Tryz.aSplit (s : List UInt8) (mem : Mem) : ACallsTo Tryz.prog 125 [.str s] mem (.tuple [.bool (Lib.hasPrefix s [45]), .str (Lib.trimPrefix s [45])]) mem := by
  have hG : fnOf Tryz.prog 125 = some Tryz.f125 := by kernel_rfl
  refine Tryz.run (noOracle_ok _) (lv := fun _ => []) (K := 1) rfl rfl ?_ mem
  cases s with
  | nil => simp [callFn, hG, Tryz.f125, Lib.hasPrefix, Lib.trimPrefix]
  | cons c r =>
    have hp : 0 < (r.length : Int) + 1 := by omega
    have h1 : (1 : Int) ≤ (r.length : Int) + 1 := by omega
    by_cases h : c = 45
    · subst h
      have e1 : Lib.hasPrefix (45 :: r) [45] = true := by simp [Lib.hasPrefix, List.isPrefixOf]
      have e2 : Lib.trimPrefix (45 :: r) [45] = r := by unfold Lib.trimPrefix; rw [e1]; rfl
      rw [e1, e2]
      simp [callFn, hG, Tryz.f125, hp, h1, Nat.testBit]
    · have h' : ¬ (45 : UInt8) = c := fun e => h e.symm
      have e1 : Lib.hasPrefix (c :: r) [45] = false := by simp [Lib.hasPrefix, List.isPrefixOf, h']
      have e2 : Lib.trimPrefix (c :: r) [45] = c :: r := by unfold Lib.trimPrefix; rw [e1]; rfl
      have h3 : ¬ ((c.toNat : Int) = 45) := by
        intro e
        apply h
        apply UInt8.toNat_inj.1
        have : c.toNat = 45 := by omega
        rw [this]; rfl
      rw [e1, e2]
      simp [callFn, hG, Tryz.f125, hp, h3]
noncomputable def Tryz.rgF1 (f : FuncId) (args : List AV) : Option AV :=
  match f, args with
  | 125, [.str s] => some (.tuple [.bool (Lib.hasPrefix s [45]), .str (Lib.trimPrefix s [45])])
  | f, args => Tryz.strF f args
theorem Tryz.rg1_ok : OracleOk Tryz.prog (pureO Tryz.rgF1) := pureO_ok fun f args v h mem => by
  unfold Tryz.rgF1 at h
  split at h
  · cases h; exact Tryz.aSplit _ mem
  · have := Tryz.str_ok.fn _ _ mem ⟨v, none, []⟩ (by unfold pureO; simp only; rw [h])
    simpa [CallRes.mem] using this
theorem Tryz.aRSign (n : Int) (mem : Mem) : ACallsTo Tryz.prog 128 [.str (intS n)] mem (.int .i64 (sgnI n)) mem := by
  have hG : fnOf Tryz.prog 128 = some Tryz.f128 := by kernel_rfl
  refine Tryz.run Tryz.rg1_ok (lv := fun _ => []) (K := 1) rfl rfl ?_ mem
  by_cases h1 : n < 0
  · simp [callFn, hG, Tryz.f128, pureO, Tryz.rgF1, hasPrefix_intS, trimPrefix_intS, h1, sgnI]
  · by_cases h0 : n = 0
    · subst h0
      have : intS 0 = [48] := rfl
      simp [callFn, hG, Tryz.f128, pureO, Tryz.rgF1, hasPrefix_intS, trimPrefix_intS, sgnI, intS_beq_zero]
    · simp [callFn, hG, Tryz.f128, pureO, Tryz.rgF1, hasPrefix_intS, trimPrefix_intS, h1, h0, sgnI, intS_beq_zero]
theorem Tryz.aRAbs (n : Int) (mem : Mem) : ACallsTo Tryz.prog 130 [.str (intS n)] mem (.str (natD n.natAbs)) mem := by
  have hG : fnOf Tryz.prog 130 = some Tryz.f130 := by kernel_rfl
  refine Tryz.run Tryz.rg1_ok (lv := fun _ => []) (K := 1) rfl rfl ?_ mem
  simp [callFn, hG, Tryz.f130, pureO, Tryz.rgF1, trimPrefix_intS]
theorem Tryz.aROf (n : Int) (hn : fitsI n = true) (mem : Mem) : ACallsTo Tryz.prog 174 [.int .i64 n] mem (.str (intS n)) mem := by
  have hG : fnOf Tryz.prog 174 = some Tryz.f174 := by kernel_rfl
  refine Tryz.run Tryz.rg1_ok (lv := fun _ => []) (K := 1) rfl rfl ?_ mem
  simp [callFn, hG, Tryz.f174, pureO, Tryz.rgF1, Tryz.strF, hn]
theorem Tryz.aRNeg (n : Int) (hl : (natD n.natAbs).length ≤ 1000000000) (mem : Mem) : ACallsTo Tryz.prog 172 [.str (intS n)] mem (.str (intS (-n))) mem := by
  have hG : fnOf Tryz.prog 172 = some Tryz.f172 := by kernel_rfl
  refine Tryz.run Tryz.rg1_ok (lv := fun _ => []) (K := 1) rfl rfl ?_ mem
  by_cases h1 : n < 0
  · have e : intS (-n) = natD n.natAbs := by rw [intS_natAbs (by omega), Int.natAbs_neg]
    simp [callFn, hG, Tryz.f172, pureO, Tryz.rgF1, hasPrefix_intS, trimPrefix_intS, h1, e]
  · by_cases h0 : n = 0
    · subst h0
      have e : natD 0 = [48] := natD_zero
      have e2 : intS 0 = [48] := rfl
      have e3 : Lib.hasPrefix [48] [45] = false := rfl
      have e4 : Lib.trimPrefix [48] [45] = [48] := rfl
      simp [callFn, hG, Tryz.f172, pureO, Tryz.rgF1, e2, e3, e4]
    · have e : intS (-n) = 45 :: natD n.natAbs := by rw [intS_neg_pos (by omega), intS_natAbs (by omega)]
      have hm : 1 + (natD n.natAbs).length ≤ maxInt := by unfold maxInt; omega
      simp [callFn, hG, Tryz.f172, pureO, Tryz.rgF1, hasPrefix_intS, trimPrefix_intS, h1, h0, intS_beq_zero, e, hm]
end Go.Proofs
namespace Go.Proofs
open Go.Eng
theorem Tryz.canon_loop {O : Oracle} {K : Nat} (s : List UInt8) (hs : s.length ≤ 1000000000) (hK : s.length < K) {b : Code} (hb : loopsF Tryz.f126 = [b]) :
    ∃ F : Env → Bool → Env, ∀ env0 d, (Go.Eng.look env0 4 = .str s ∧ Go.Eng.look env0 5 = .int .i64 0) →
      execC (tyOf Tryz.prog) (fun _ => [5]) O K 43 0 true (.loop b) ⟨env0, [], d⟩ = some (if s.all isD then .exit 0 else .ret, ⟨F env0 d, [], d⟩) ∧
      ((s.all isD = false → Go.Eng.look (F env0 d) 2 = .bool false) ∧ (s.all isD = true → Go.Eng.look (F env0 d) 3 = Go.Eng.look env0 3 ∧ Go.Eng.look (F env0 d) 4 = Go.Eng.look env0 4)) := by
  refine loop_rule rfl (fun env0 => Go.Eng.look env0 4 = .str s ∧ Go.Eng.look env0 5 = .int .i64 0) (fun env0 env' => (s.all isD = false → Go.Eng.look env' 2 = .bool false) ∧ (s.all isD = true → Go.Eng.look env' 3 = Go.Eng.look env0 3 ∧ Go.Eng.look env' 4 = Go.Eng.look env0 4)) ?_
  rintro env0 d ⟨h4, h5⟩
  have hn : normE [5] (writesC b) env0 ((5, .int .i64 ((0 : Nat) : Int)) :: env0) = normE [5] (writesC b) env0 env0 := by simp [normE, h5]
  rw [← hn]
  refine iter_ind (α := Nat) (fun i => ⟨normE [5] (writesC b) env0 ((5, .int .i64 (i : Int)) :: env0), [], d⟩)
    (fun i => s.length - i) (fun i => i ≤ s.length ∧ s.all isD = (s.drop i).all isD) (if s.all isD then .exit 0 else .ret) _ d _ (by split <;> simp) ?_ K 0 ⟨Nat.zero_le _, rfl⟩ (by simp only [Nat.sub_zero]; exact hK)
  rintro i ⟨hi, hall⟩
  clear hn
  simp [loopsF, loopsC, Tryz.f126] at hb
  by_cases hil : i = s.length
  · right
    have hd : s.drop i = [] := List.drop_of_length_le (by omega)
    have : s.all isD = true := by rw [hall, hd]; rfl
    subst hil
    subst hb
    rw [this]
    simp [h4]
  · have hlt : i < s.length := by omega
    have hltI : (i : Int) < (s.length : Int) := by omega
    obtain ⟨c, hc⟩ : ∃ c, s[i]? = some c := ⟨s[i], by simp [hlt]⟩
    have hc' : s[i] = c := (List.getElem?_eq_some_iff.1 hc).2
    have hd : s.drop i = c :: s.drop (i + 1) := by
      rw [List.drop_eq_getElem_cons hlt, hc']
    have hw : IntKind.i64.wrap ((i : Int) + 1) = ((i + 1 : Nat) : Int) := by rw [wrap_i64 (by omega) (by omega)]; omega
    rw [hd, List.all_cons] at hall
    by_cases h1 : c.toNat < 48
    · right
      have hnD : isD c = false := by unfold isD; simp; omega
      have h1' : ((c.toNat : Int) < 48) := by omega
      have : s.all isD = false := by rw [hall, hnD]; rfl
      subst hb
      rw [this]
      simp [h4, hlt, hltI, hc, hc', h1']
    · have h1' : ¬ ((c.toNat : Int) < 48) := by omega
      by_cases h2 : 57 < c.toNat
      · right
        have hnD : isD c = false := by unfold isD; simp; omega
        have h2' : (57 < (c.toNat : Int)) := by omega
        have : s.all isD = false := by rw [hall, hnD]; rfl
        subst hb
        rw [this]
        simp [h4, hlt, hltI, hc, hc', h1', h2']
      · left
        have hnD : isD c = true := by unfold isD; simp; omega
        have h2' : ¬ (57 < (c.toNat : Int)) := by omega
        rw [hnD, Bool.true_and] at hall
        refine ⟨i + 1, ?_⟩
        refine exists_and_fin2 (show (i + 1 ≤ s.length ∧ s.all isD = (s.drop (i + 1)).all isD) ∧ _ from ⟨⟨hlt, hall⟩, by omega⟩) ?_
        subst hb
        simp [h4, hlt, hltI, hc, hc', h1', h2', hw]
def canI (s : List UInt8) : Bool := (intP s).isSome
def canT (mn : Bool) (t : List UInt8) : Bool := match t with
  | [] => false
  | c :: r => (c :: r).all isD && !(c == 48 && (mn || decide (0 < r.length)))
theorem canT_canI (s : List UInt8) : canT (Lib.hasPrefix s [45]) (Lib.trimPrefix s [45]) = canI s := by
  have h0 : ∀ t, canT false t = canonN t := by
    intro t
    cases t with
    | nil => rfl
    | cons c r =>
      simp only [canT, canonN, List.all_cons, Bool.false_or]
      rw [Bool.eq_iff_iff]
      cases r with
      | nil => simp
      | cons x r => simp
  have h1 : ∀ t, canT true t = (canonN t && !(t.head? == some 48)) := by
    intro t
    cases t with
    | nil => rfl
    | cons c r =>
      simp only [canT, canonN, List.all_cons, Bool.true_or, Bool.and_true, List.head?_cons]
      rw [Bool.eq_iff_iff]
      simp
      grind
  have plain : ∀ t : List UInt8, (∀ r, t ≠ 45 :: r) → canT false t = canI t := by
    intro t ht
    rw [h0]
    unfold canI
    rw [intP_plain ht]
    cases hc : canonN t with
    | true => rw [natP_yes hc]; rfl
    | false => rw [natP_no hc]; rfl
  unfold Lib.trimPrefix
  cases s with
  | nil => rw [show Lib.hasPrefix [] [45] = false from rfl]; exact plain [] (by simp)
  | cons c r =>
    by_cases h : c = 45
    · subst h
      rw [show Lib.hasPrefix (45 :: r) [45] = true by simp [Lib.hasPrefix, List.isPrefixOf]]
      simp only [if_true, List.length_singleton, List.drop_succ_cons, List.drop_zero]
      rw [h1]
      unfold canI
      rw [intP_minus]
      cases hc : canonN r with
      | true =>
        rw [natP_yes hc, Bool.true_and]
        have hv := natD_valD hc
        cases hvd : valD r with
        | zero =>
          rw [hvd, natD_zero] at hv
          rw [← hv]; rfl
        | succ u =>
          rw [hvd] at hv
          have hh := natD_head (u + 1) (by omega)
          rw [hv] at hh
          have : (r.head? == some 48) = false := by simpa using hh
          rw [this]; rfl
      | false =>
        rw [natP_no hc]; simp
    · have h1 : Lib.hasPrefix (c :: r) [45] = false := by
        have h' : ¬ (45 : UInt8) = c := fun e => h e.symm
        simp [Lib.hasPrefix, List.isPrefixOf, h']
      rw [h1]
      exact plain (c :: r) (by intro r' e; exact h (List.cons.inj e).1)
theorem Tryz.aCanonical (s : List UInt8) (hs : s.length ≤ 1000000000) (mem : Mem) : ACallsTo Tryz.prog 126 [.str s] mem (.bool (canI s)) mem := by
  have hG : fnOf Tryz.prog 126 = some Tryz.f126 := by kernel_rfl
  refine Tryz.run Tryz.rg1_ok (lv := fun _ => [5]) (K := s.length + 1) rfl rfl ?_ mem
  rw [← canT_canI]
  obtain ⟨b, hb⟩ : ∃ b, loopsF Tryz.f126 = [b] := ⟨_, rfl⟩
  have ht : (Lib.trimPrefix s [45]).length ≤ s.length := by unfold Lib.trimPrefix; split <;> simp
  obtain ⟨mn, hmn⟩ : ∃ mn, mn = Lib.hasPrefix s [45] := ⟨_, rfl⟩
  obtain ⟨t, htp⟩ : ∃ t, t = Lib.trimPrefix s [45] := ⟨_, rfl⟩
  rw [← htp] at ht
  rw [← hmn, ← htp]
  obtain ⟨F, hF⟩ := Tryz.canon_loop (O := pureO Tryz.rgF1) (K := s.length + 1) t (by omega) (by omega) hb
  simp [loopsF, loopsC, Tryz.f126] at hb
  subst hb
  cases hall : t.all isD with
  | false =>
    have hc : canT mn t = false := by
      cases t with
      | nil => rfl
      | cons c r => simp only [canT]; rw [hall]; rfl
    simp only [hall] at hF
    rw [hc]
    simp [callFn, hG, Tryz.f126, pureO, Tryz.rgF1, ← hmn, ← htp, hF]
  | true =>
    simp only [hall] at hF
    cases t with
    | nil =>
      rw [show canT mn [] = false from rfl]
      simp [callFn, hG, Tryz.f126, pureO, Tryz.rgF1, ← hmn, ← htp, hF]
    | cons c r =>
      have hc : canT mn (c :: r) = !(c == 48 && (mn || decide (0 < r.length))) := by simp only [canT]; rw [hall]; rfl
      rw [hc]
      have hr0 : ¬ ((r.length : Int) + 1 = 0) := by omega
      by_cases h48 : c = 48
      · subst h48
        cases mn with
        | true => simp [callFn, hG, Tryz.f126, pureO, Tryz.rgF1, ← hmn, ← htp, hF, hr0]
        | false =>
          by_cases hr : 0 < r.length
          · have hr' : 1 < (r.length : Int) + 1 := by omega
            simp [callFn, hG, Tryz.f126, pureO, Tryz.rgF1, ← hmn, ← htp, hF, hr0, hr, hr']
          · have hr' : ¬ 1 < (r.length : Int) + 1 := by omega
            simp [callFn, hG, Tryz.f126, pureO, Tryz.rgF1, ← hmn, ← htp, hF, hr0, hr, hr']
      · have h48' : ¬ ((c.toNat : Int) = 48) := fun e => h48 (u8_48.1 e)
        simp [callFn, hG, Tryz.f126, pureO, Tryz.rgF1, ← hmn, ← htp, hF, hr0, h48, h48']
end Go.Proofs
namespace Go.Proofs
open Go.Eng
noncomputable def Tryz.rgF2 (f : FuncId) (args : List AV) : Option AV :=
  match f, args with
  | 126, [.str s] => if s.length ≤ 1000000000 then some (.bool (canI s)) else none
  | f, args => Tryz.rgF1 f args
theorem Tryz.rg2_ok : OracleOk Tryz.prog (pureO Tryz.rgF2) := pureO_ok fun f args v h mem => by
  unfold Tryz.rgF2 at h
  split at h
  · split at h
    · rename_i hl; cases h; exact Tryz.aCanonical _ hl mem
    · cases h
  · have := Tryz.rg1_ok.fn _ _ mem ⟨v, none, []⟩ (by unfold pureO; simp only; rw [h])
    simpa [CallRes.mem] using this
theorem Tryz.aRRight (s : List UInt8) (hs : s.length ≤ 1000000000) (mem : Mem) : ACallsTo Tryz.prog 93 [.str s] mem (.bool (okI s)) mem := by
  have hG : fnOf Tryz.prog 93 = some Tryz.f93 := by kernel_rfl
  refine Tryz.run Tryz.rg2_ok (lv := fun _ => []) (K := 1) rfl rfl ?_ mem
  cases hn : intP s with
  | none =>
    have h1 : canI s = false := by unfold canI; rw [hn]; rfl
    have h2 : okI s = false := by unfold okI; rw [hn]
    rw [h2]
    simp [callFn, hG, Tryz.f93, pureO, Tryz.rgF2, Tryz.rgF1, hs, h1]
  | some n =>
    have h1 : canI s = true := by unfold canI; rw [hn]; rfl
    have h2 : okI s = decide ((natD n.natAbs).length ≤ 200) := by unfold okI; rw [hn]
    have h3 : Lib.trimPrefix s [45] = natD n.natAbs := by rw [intP_some hn, trimPrefix_intS]
    rw [h2]
    by_cases hl : (natD n.natAbs).length ≤ 200
    · have hl' : ((natD n.natAbs).length : Int) ≤ 200 := by omega
      simp [callFn, hG, Tryz.f93, pureO, Tryz.rgF2, Tryz.rgF1, hs, h1, h3, hl, hl']
    · have hl' : ¬ ((natD n.natAbs).length : Int) ≤ 200 := by omega
      simp [callFn, hG, Tryz.f93, pureO, Tryz.rgF2, Tryz.rgF1, hs, h1, h3, hl, hl']
theorem Tryz.rsmall_loop {O : Oracle} {K : Nat} (u : Nat) (hl : (natD u).length ≤ 18) (hK : 20 < K) {b : Code} (hb : loopsF Tryz.f221 = [b]) :
    ∃ F : Env → Bool → Env, ∀ env0 d, (Go.Eng.look env0 5 = .str (natD u) ∧ Go.Eng.look env0 6 = .int .i64 0 ∧ Go.Eng.look env0 7 = .int .i64 0) →
      execC (tyOf Tryz.prog) (fun _ => [6, 7]) O K 45 0 true (.loop b) ⟨env0, [], d⟩ = some (.exit 0, ⟨F env0 d, [], d⟩) ∧
      (Go.Eng.look (F env0 d) 6 = .int .i64 (-(u : Int)) ∧ Go.Eng.look (F env0 d) 4 = Go.Eng.look env0 4) := by
  obtain ⟨s, hs⟩ : ∃ s, s = natD u := ⟨_, rfl⟩
  have hd : s.all isD = true := by rw [hs]; exact natD_all u
  have hv : valD s = u := by rw [hs]; exact valD_natD u
  rw [← hs] at hl ⊢
  refine loop_rule rfl (fun env0 => Go.Eng.look env0 5 = .str s ∧ Go.Eng.look env0 6 = .int .i64 0 ∧ Go.Eng.look env0 7 = .int .i64 0) (fun env0 env' => Go.Eng.look env' 6 = .int .i64 (-(u : Int)) ∧ Go.Eng.look env' 4 = Go.Eng.look env0 4) ?_
  rintro env0 d ⟨h5, h6, h7⟩
  have hv0 : valD (s.take 0) = 0 := by rw [List.take_zero]; unfold valD; rw [valF_nil]
  have hn : normE [6, 7] (writesC b) env0 ((6, .int .i64 (-((valD (s.take 0) : Nat) : Int))) :: (7, .int .i64 ((0 : Nat) : Int)) :: env0) = normE [6, 7] (writesC b) env0 env0 := by rw [hv0]; simp [normE, h6, h7]
  rw [← hn]
  refine iter_ind (α := Nat) (fun j => ⟨normE [6, 7] (writesC b) env0 ((6, .int .i64 (-((valD (s.take j) : Nat) : Int))) :: (7, .int .i64 (j : Int)) :: env0), [], d⟩)
    (fun j => s.length - j) (fun j => j ≤ s.length) (.exit 0) _ d _ (by simp) ?_ K 0 (Nat.zero_le _) (by simp only [Nat.sub_zero]; omega)
  intro j hj
  clear hn hv0
  simp [loopsF, loopsC, Tryz.f221] at hb
  by_cases hje : j = s.length
  · right
    subst hje
    rw [List.take_length, hv]
    subst hb
    simp [h5]
  · left
    have hlt : j < s.length := by omega
    have hltI : (j : Int) < (s.length : Int) := by omega
    obtain ⟨c, hc⟩ : ∃ c, s[j]? = some c := ⟨s[j], by simp [hlt]⟩
    have hc' : s[j] = c := (List.getElem?_eq_some_iff.1 hc).2
    have hcD := List.all_eq_true.1 hd c (List.mem_of_getElem? hc)
    have hcd := isD_lt hcD
    have hc48 : 48 ≤ c.toNat := by unfold isD at hcD; simp only [Bool.and_eq_true, decide_eq_true_eq] at hcD; exact hcD.1
    have hst : s.take (j + 1) = s.take j ++ [c] := by rw [List.take_add_one, hc]; rfl
    have hvn : valD (s.take (j + 1)) = 10 * valD (s.take j) + (c.toNat - 48) := by rw [hst, valD_snoc]
    have hvb : valD (s.take j) < 10 ^ 17 := by
      have h1 := valD_lt (all_take hd j)
      have h2 : (s.take j).length ≤ 17 := by rw [List.length_take]; omega
      have h3 : 10 ^ (s.take j).length ≤ 10 ^ 17 := Nat.pow_le_pow_right (by omega) h2
      omega
    obtain ⟨v, hvv⟩ : ∃ v, v = valD (s.take j) := ⟨_, rfl⟩
    obtain ⟨v2, hvv2⟩ : ∃ v, v = valD (s.take (j + 1)) := ⟨_, rfl⟩
    rw [← hvv] at hvb hvn
    rw [← hvv2] at hvn
    obtain ⟨k, hk⟩ : ∃ k : Nat, k = c.toNat - 48 := ⟨_, rfl⟩
    have w0 : IntKind.i64.wrap (c.toNat : Int) = (c.toNat : Int) := wrap_i64 (by omega) (by have := c.toNat_lt; omega)
    have w1 : IntKind.i64.wrap ((c.toNat : Int) - 48) = (k : Int) := by rw [wrap_i64 (by omega) (by have := c.toNat_lt; omega)]; omega
    have w2 : IntKind.i64.wrap (-9223372036854775808 + (k : Int)) = -9223372036854775808 + (k : Int) := wrap_i64 (by omega) (by omega)
    obtain ⟨z, hz⟩ : ∃ z, z = (-9223372036854775808 + (k : Int)).tdiv 10 := ⟨_, rfl⟩
    have hzb : z ≤ -900000000000000000 ∧ -922337203685477581 ≤ z := by
      have e : -9223372036854775808 + (k : Int) = -((9223372036854775808 - k : Nat) : Int) := by omega
      obtain ⟨w, hw⟩ : ∃ w, w = (9223372036854775808 - k) / 10 := ⟨_, rfl⟩
      have hz3 : z = -(w : Int) := by rw [hz, e, Int.neg_tdiv, tdiv_lit _ 10, ← hw]
      omega
    have w3 : IntKind.i64.wrap z = z := wrap_i64 (by omega) (by omega)
    have hzl : ¬ (-(v : Int) < z) := by omega
    have w4 : IntKind.i64.wrap (10 * -(v : Int)) = 10 * -(v : Int) := wrap_i64 (by omega) (by omega)
    have w4' : IntKind.i64.wrap (-(10 * (v : Int))) = -(10 * (v : Int)) := wrap_i64 (by omega) (by omega)
    have w5 : IntKind.i64.wrap (10 * -(v : Int) - (k : Int)) = -(v2 : Int) := by rw [wrap_i64 (by omega) (by omega)]; omega
    have w5' : IntKind.i64.wrap (-(10 * (v : Int)) - (k : Int)) = -(v2 : Int) := by rw [wrap_i64 (by omega) (by omega)]; omega
    have w6 : IntKind.i64.wrap ((j : Int) + 1) = ((j + 1 : Nat) : Int) := by rw [wrap_i64 (by omega) (by omega)]; omega
    refine ⟨j + 1, ?_⟩
    refine exists_and_fin (show j + 1 ≤ s.length ∧ _ from ⟨hlt, by omega⟩) ?_
    subst hb
    simp [h5, hlt, hltI, hc, hc', ← hvv, ← hvv2, w0, w1, w2, ← hz, w3, hzl, w4, w4', w5, w5', w6]
theorem Tryz.aRSmall (n : Int) (hl : (natD n.natAbs).length ≤ 18) (mem : Mem) : ACallsTo Tryz.prog 221 [.str (intS n)] mem (.tuple [.int .i64 n, .bool true]) mem := by
  have hG : fnOf Tryz.prog 221 = some Tryz.f221 := by kernel_rfl
  refine Tryz.run Tryz.rg1_ok (lv := fun _ => [6, 7]) (K := 21) rfl rfl ?_ mem
  obtain ⟨b, hb⟩ : ∃ b, loopsF Tryz.f221 = [b] := ⟨_, rfl⟩
  obtain ⟨F, hF⟩ := Tryz.rsmall_loop (O := pureO Tryz.rgF1) (K := 21) n.natAbs hl (by omega) hb
  have hlt : n.natAbs < 10 ^ 18 := by
    have h1 := natD_lt_pow n.natAbs
    have h2 : 10 ^ (natD n.natAbs).length ≤ 10 ^ 18 := Nat.pow_le_pow_right (by omega) hl
    omega
  obtain ⟨u, hu⟩ : ∃ u, u = n.natAbs := ⟨_, rfl⟩
  rw [← hu] at hF hl hlt
  have hl' : ¬ (19 < ((natD u).length : Int)) := by omega
  simp [loopsF, loopsC, Tryz.f221] at hb
  subst hb
  by_cases h0 : n < 0
  · have e : -(u : Int) = n := by omega
    rw [e] at hF
    simp [callFn, hG, Tryz.f221, pureO, Tryz.rgF1, hasPrefix_intS, trimPrefix_intS, ← hu, hl', hF, h0]
  · have e : (u : Int) = n := by omega
    have h1 : ¬ (-(u : Int) = -9223372036854775808) := by omega
    have h1' : ¬ ((u : Int) = 9223372036854775808) := by omega
    have h2 : IntKind.i64.wrap (u : Int) = n := by rw [wrap_i64 (by omega) (by omega)]; exact e
    have h3 : ¬ u = 9223372036854775808 := by omega
    simp [callFn, hG, Tryz.f221, pureO, Tryz.rgF1, hasPrefix_intS, trimPrefix_intS, ← hu, hl', hF, h0, h1, h1', h2, h3]
noncomputable def Tryz.rgF3 (f : FuncId) (args : List AV) : Option AV :=
  match f, args with
  | 221, [.str s] => match intP s with
    | some n => if (natD n.natAbs).length ≤ 18 then some (.tuple [.int .i64 n, .bool true]) else none
    | none => none
  | 174, [.int .i64 n] => if fitsI n then some (.str (intS n)) else none
  | 128, [.str s] => match intP s with
    | some n => some (.int .i64 (sgnI n))
    | none => none
  | 130, [.str s] => match intP s with
    | some n => some (.str (natD n.natAbs))
    | none => none
  | 172, [.str s] => match intP s with
    | some n => if (natD n.natAbs).length ≤ 1000000000 then some (.str (intS (-n))) else none
    | none => none
  | f, args => Tryz.rgF2 f args
theorem Tryz.rg3_ok : OracleOk Tryz.prog (pureO Tryz.rgF3) := pureO_ok fun f args v h mem => by
  unfold Tryz.rgF3 at h
  split at h
  · split at h
    · rename_i n hn
      split at h
      · rename_i hl; cases h; rw [intP_some hn]; exact Tryz.aRSmall n hl mem
      · cases h
    · cases h
  · split at h
    · rename_i hc; cases h; exact Tryz.aROf _ hc mem
    · cases h
  · split at h
    · rename_i n hn; cases h; rw [intP_some hn]; exact Tryz.aRSign n mem
    · cases h
  · split at h
    · rename_i n hn; cases h; rw [intP_some hn]; exact Tryz.aRAbs n mem
    · cases h
  · split at h
    · rename_i n hn
      split at h
      · rename_i hl; cases h; rw [intP_some hn]; exact Tryz.aRNeg n hl mem
      · cases h
    · cases h
  · have := Tryz.rg2_ok.fn _ _ mem ⟨v, none, []⟩ (by unfold pureO; simp only; rw [h])
    simpa [CallRes.mem] using this
theorem Tryz.aRBrief (n : Int) (hl : (natD n.natAbs).length ≤ 1000000000) (mem : Mem) : ACallsTo Tryz.prog 173 [.str (intS n)] mem (if (natD n.natAbs).length ≤ 17 then .tuple [.int .i64 n, .bool true] else .tuple [.int .i64 0, .bool false]) mem := by
  have hG : fnOf Tryz.prog 173 = some Tryz.f173 := by kernel_rfl
  refine Tryz.run Tryz.rg3_ok (lv := fun _ => []) (K := 1) rfl (by split <;> rfl) ?_ mem
  by_cases h : (natD n.natAbs).length ≤ 17
  · have h1 : ¬ (17 < ((natD n.natAbs).length : Int)) := by omega
    have h2 : (natD n.natAbs).length ≤ 18 := by omega
    simp [callFn, hG, Tryz.f173, pureO, Tryz.rgF3, Tryz.rgF2, Tryz.rgF1, trimPrefix_intS, intP_intS, h, h1, h2]
  · have h1 : (17 < ((natD n.natAbs).length : Int)) := by omega
    simp [callFn, hG, Tryz.f173, pureO, Tryz.rgF3, Tryz.rgF2, Tryz.rgF1, trimPrefix_intS, h, h1]
end Go.Proofs
namespace Go.Proofs
open Go.Eng
theorem closeS_add_same {a b : Int} (hs : decide (a < 0) = decide (b < 0)) : closeS (decide (a < 0)) (a.natAbs + b.natAbs) = intS (a + b) := by
  rw [← closeS_intS (a + b)]
  have : (a + b).natAbs = a.natAbs + b.natAbs := by
    by_cases h1 : a < 0 <;> by_cases h2 : b < 0 <;> simp [h1, h2] at hs <;> omega
  rw [this]
  by_cases h1 : a < 0 <;> by_cases h2 : b < 0 <;> simp [h1, h2] at hs
  · rw [decide_eq_true h1, decide_eq_true (by omega)]
  · rw [decide_eq_false h1, decide_eq_false (by omega)]
theorem closeS_add_lt {a b : Int} (hs : ¬ decide (a < 0) = decide (b < 0)) (hlt : a.natAbs < b.natAbs) : closeS (decide (b < 0)) (b.natAbs - a.natAbs) = intS (a + b) := by
  rw [← closeS_intS (a + b)]
  have h0 : (a + b).natAbs = b.natAbs - a.natAbs := by
    by_cases h1 : a < 0 <;> by_cases h2 : b < 0 <;> simp [h1, h2] at hs <;> omega
  rw [h0]
  by_cases h1 : a < 0 <;> by_cases h2 : b < 0 <;> simp [h1, h2] at hs
  · rw [decide_eq_false h2, decide_eq_false (by omega)]
  · rw [decide_eq_true h2, decide_eq_true (by omega)]
theorem closeS_add_ge {a b : Int} (hs : ¬ decide (a < 0) = decide (b < 0)) (hge : b.natAbs ≤ a.natAbs) : closeS (decide (a < 0)) (a.natAbs - b.natAbs) = intS (a + b) := by
  rw [← closeS_intS (a + b)]
  have h0 : (a + b).natAbs = a.natAbs - b.natAbs := by
    by_cases h1 : a < 0 <;> by_cases h2 : b < 0 <;> simp [h1, h2] at hs <;> omega
  rw [h0]
  by_cases hz : a.natAbs - b.natAbs = 0
  · unfold closeS; rw [if_pos hz, if_pos hz]
  by_cases h1 : a < 0 <;> by_cases h2 : b < 0 <;> simp [h1, h2] at hs
  · rw [decide_eq_true h1, decide_eq_true (by omega)]
  · rw [decide_eq_false h1, decide_eq_false (by omega)]
theorem dig4_length (n : Nat) : (dig 10000 n).length ≤ (natD n).length := by
  obtain ⟨c1, c2, c3⟩ := chunks4_spec _ (natD n) (Nat.le_refl _) (natD_all _)
  rw [valD_natD] at c2
  have hd : ltrim (chunks4 (natD n)) = dig 10000 n := by rw [← dig_lval (by omega) c1, c2]
  have := ltrim_length_le (chunks4 (natD n))
  rw [hd] at this
  omega
noncomputable def Tryz.rgF4 (f : FuncId) (args : List AV) : Option AV :=
  match f, args with
  | 173, [.str s] => match intP s with
    | some n => if (natD n.natAbs).length ≤ 1000000000 then some (if (natD n.natAbs).length ≤ 17 then .tuple [.int .i64 n, .bool true] else .tuple [.int .i64 0, .bool false]) else none
    | none => none
  | f, args => Tryz.rgF3 f args
theorem Tryz.rg4_ok : OracleOk Tryz.prog (pureO Tryz.rgF4) := pureO_ok fun f args v h mem => by
  unfold Tryz.rgF4 at h
  split at h
  · split at h
    · rename_i n hn
      split at h
      · rename_i hl; cases h; rw [intP_some hn]; exact Tryz.aRBrief n hl mem
      · cases h
    · cases h
  · have := Tryz.rg3_ok.fn _ _ mem ⟨v, none, []⟩ (by unfold pureO; simp only; rw [h])
    simpa [CallRes.mem] using this
noncomputable def Tryz.roO : Oracle := fun c args M => ((pureO Tryz.rgF4).or Tryz.rfO5) c args M
theorem Tryz.roO_ok : OracleOk Tryz.prog Tryz.roO := Tryz.rg4_ok.or Tryz.rfO5_ok
theorem rs0 {A : List Nat} (ow : Bool) (l : Mem) : sliceN .i64 (.cells ow 1 (iN .i64 A) :: l) (.slice 0 0 A.length none) = some A := sliceN_at rfl (by simp) (List.take_of_length_le (by simp))
theorem rs1 {A : List Nat} (ow : Bool) (a0 : Slot) (l : Mem) : sliceN .i64 (a0 :: .cells ow 1 (iN .i64 A) :: l) (.slice 1 0 A.length none) = some A := sliceN_at rfl (by simp) (List.take_of_length_le (by simp))
theorem rs2 {A : List Nat} (ow : Bool) (a0 a1 : Slot) (l : Mem) : sliceN .i64 (a0 :: a1 :: .cells ow 1 (iN .i64 A) :: l) (.slice 2 0 A.length none) = some A := sliceN_at rfl (by simp) (List.take_of_length_le (by simp))
theorem rs3 {A : List Nat} (ow : Bool) (a0 a1 a2 : Slot) (l : Mem) : sliceN .i64 (a0 :: a1 :: a2 :: .cells ow 1 (iN .i64 A) :: l) (.slice 3 0 A.length none) = some A := sliceN_at rfl (by simp) (List.take_of_length_le (by simp))
set_option maxHeartbeats 3200000 in
theorem Tryz.aRAdd (a b : Int) (ha : (natD a.natAbs).length ≤ 10000) (hb : (natD b.natAbs).length ≤ 10000) (mem : Mem) : ACallsTo Tryz.prog 171 [.str (intS a), .str (intS b)] mem (.str (intS (a + b))) mem := by
  have hG : fnOf Tryz.prog 171 = some Tryz.f171 := by kernel_rfl
  refine Tryz.run Tryz.roO_ok (lv := fun _ => []) (K := 1) rfl rfl ?_ mem
  have c1 : decide (a < 0) = decide (b < 0) → closeS (decide (a < 0)) (a.natAbs + b.natAbs) = intS (a + b) := closeS_add_same
  have c2 : ¬ decide (a < 0) = decide (b < 0) → a.natAbs < b.natAbs → closeS (decide (b < 0)) (b.natAbs - a.natAbs) = intS (a + b) := closeS_add_lt
  have c3 : ¬ decide (a < 0) = decide (b < 0) → b.natAbs ≤ a.natAbs → closeS (decide (a < 0)) (a.natAbs - b.natAbs) = intS (a + b) := closeS_add_ge
  obtain ⟨n, hn⟩ : ∃ n, a.natAbs = n := ⟨_, rfl⟩
  obtain ⟨m, hm⟩ : ∃ m, b.natAbs = m := ⟨_, rfl⟩
  rw [hn, hm] at c1 c2 c3
  rw [hn] at ha
  rw [hm] at hb
  have la1 : (natD n).length ≤ 1000000000 := by omega
  have lb1 : (natD m).length ≤ 1000000000 := by omega
  by_cases hq : (natD n).length ≤ 17 ∧ (natD m).length ≤ 17
  · obtain ⟨q1, q2⟩ := hq
    have s1 : n < 10 ^ 17 := by
      have h1 := natD_lt_pow n
      have h2 : 10 ^ (natD n).length ≤ 10 ^ 17 := Nat.pow_le_pow_right (by omega) q1
      omega
    have s2 : m < 10 ^ 17 := by
      have h1 := natD_lt_pow m
      have h2 : 10 ^ (natD m).length ≤ 10 ^ 17 := Nat.pow_le_pow_right (by omega) q2
      omega
    have w1 : IntKind.i64.wrap (a + b) = a + b := wrap_i64 (by omega) (by omega)
    have hf : fitsI (a + b) = true := by unfold fitsI; simp; omega
    simp [callFn, hG, Tryz.f171, Tryz.roO, Oracle.or, pureO, Tryz.rgF4, Tryz.rgF3, intP_intS, hn, hm, la1, lb1, q1, q2, w1, hf]
  · have da := dig4_length n
    have db := dig4_length m
    have la2 : (natD n).length ≤ 1000000 := by omega
    have lb2 : (natD m).length ≤ 1000000 := by omega
    have hne : dig 10000 n ≠ [] ∨ dig 10000 m ≠ [] := by
      by_cases h : (natD n).length ≤ 17
      · right
        rw [ne_eq, dig_eq_nil (by omega)]
        intro e
        apply hq
        rw [e]; exact ⟨h, by decide⟩
      · left
        rw [ne_eq, dig_eq_nil (by omega)]
        intro e
        apply h
        rw [e]; decide
    have va : lval 10000 (dig 10000 n) = n := lval_dig (by omega) _
    have vb : lval 10000 (dig 10000 m) = m := lval_dig (by omega) _
    have oa : lok 10000 (dig 10000 n) = true := lok_dig (by omega) _
    have ob : lok 10000 (dig 10000 m) = true := lok_dig (by omega) _
    have ta : ltrim (dig 10000 n) = dig 10000 n := ltrim_dig (by omega) _
    have tb : ltrim (dig 10000 m) = dig 10000 m := ltrim_dig (by omega) _
    obtain ⟨A, hA⟩ : ∃ A, A = dig 10000 n := ⟨_, rfl⟩
    obtain ⟨B, hB⟩ : ∃ B, B = dig 10000 m := ⟨_, rfl⟩
    rw [← hA] at da va oa ta hne
    rw [← hB] at db vb ob tb hne
    have hne2 := hne.symm
    have g1 : A.length ≤ 1000000 := by omega
    have g2 : B.length ≤ 1000000 := by omega
    have g3 : A.length ≤ 1000000000 := by omega
    have g4 : B.length ≤ 1000000000 := by omega
    by_cases hs : (decide (a < 0)) = (decide (b < 0))
    · obtain ⟨S, hS⟩ : ∃ S, S = dig 10000 (n + m) := ⟨_, rfl⟩
      have vs : lval 10000 S = n + m := by rw [hS]; exact lval_dig (by omega) _
      have os : lok 10000 S = true := by rw [hS]; exact lok_dig (by omega) _
      have ts : ltrim S = S := by rw [hS]; exact ltrim_dig (by omega) _
      have g5 : S.length ≤ 100000 := by
        have h1 := natD_length_add ha hb
        have h2 := dig4_length (n + m)
        rw [hS]; omega
      have hres := c1 hs
      have hs' : (decide (a < 0) == decide (b < 0)) = true := by rw [hs]; simp
      have p0 : 0 ≤ (n : Int) + (m : Int) := by omega
      have p1 : ((n : Int) + (m : Int)).toNat = n + m := by omega
      by_cases q1 : (natD n).length ≤ 17
      · have q2 : ¬ (natD m).length ≤ 17 := fun e => hq ⟨q1, e⟩
        simp [callFn, hG, Tryz.f171, Tryz.roO, Oracle.or, pureO, Tryz.rgF4, Tryz.rgF3, Tryz.rgF2, Tryz.rgF1, Tryz.strF, intP_intS, natP_natD, hn, hm, la1, lb1, q1, q2, Tryz.rfO5, Tryz.rfO4, Tryz.rfO3, Tryz.rfO2, Tryz.rfO1, hasPrefix_intS, trimPrefix_intS, la2, lb2, ← hA, ← hB, rs0, rs1, rs2, hne, hne2, oa, ob, ta, tb, g1, g2, g3, g4, va, vb, p0, p1, ← hS, os, ts, g5, vs, hs', hres]
      · by_cases q2 : (natD m).length ≤ 17
        · simp [callFn, hG, Tryz.f171, Tryz.roO, Oracle.or, pureO, Tryz.rgF4, Tryz.rgF3, Tryz.rgF2, Tryz.rgF1, Tryz.strF, intP_intS, natP_natD, hn, hm, la1, lb1, q1, q2, Tryz.rfO5, Tryz.rfO4, Tryz.rfO3, Tryz.rfO2, Tryz.rfO1, hasPrefix_intS, trimPrefix_intS, la2, lb2, ← hA, ← hB, rs0, rs1, rs2, hne, hne2, oa, ob, ta, tb, g1, g2, g3, g4, va, vb, p0, p1, ← hS, os, ts, g5, vs, hs', hres]
        · simp [callFn, hG, Tryz.f171, Tryz.roO, Oracle.or, pureO, Tryz.rgF4, Tryz.rgF3, Tryz.rgF2, Tryz.rgF1, Tryz.strF, intP_intS, natP_natD, hn, hm, la1, lb1, q1, q2, Tryz.rfO5, Tryz.rfO4, Tryz.rfO3, Tryz.rfO2, Tryz.rfO1, hasPrefix_intS, trimPrefix_intS, la2, lb2, ← hA, ← hB, rs0, rs1, rs2, hne, hne2, oa, ob, ta, tb, g1, g2, g3, g4, va, vb, p0, p1, ← hS, os, ts, g5, vs, hs', hres]
    · have hs' : (decide (a < 0) == decide (b < 0)) = false := by
        cases h1 : decide (a < 0) <;> cases h2 : decide (b < 0) <;> simp [h1, h2] at hs ⊢
      by_cases hlt : n < m
      · obtain ⟨S, hS⟩ : ∃ S, S = dig 10000 (m - n) := ⟨_, rfl⟩
        have vs : lval 10000 S = m - n := by rw [hS]; exact lval_dig (by omega) _
        have os : lok 10000 S = true := by rw [hS]; exact lok_dig (by omega) _
        have ts : ltrim S = S := by rw [hS]; exact ltrim_dig (by omega) _
        have g5 : S.length ≤ 100000 := by
          have h1 := natD_length_mono (show m - n ≤ m by omega)
          have h2 := dig4_length (m - n)
          rw [hS]; omega
        have hres := c2 hs hlt
        have p0 : 0 ≤ (m : Int) + -(n : Int) := by omega
        have p1 : ((m : Int) + -(n : Int)).toNat = m - n := by omega
        by_cases q1 : (natD n).length ≤ 17
        · have q2 : ¬ (natD m).length ≤ 17 := fun e => hq ⟨q1, e⟩
          simp [callFn, hG, Tryz.f171, Tryz.roO, Oracle.or, pureO, Tryz.rgF4, Tryz.rgF3, Tryz.rgF2, Tryz.rgF1, Tryz.strF, intP_intS, natP_natD, hn, hm, la1, lb1, q1, q2, Tryz.rfO5, Tryz.rfO4, Tryz.rfO3, Tryz.rfO2, Tryz.rfO1, hasPrefix_intS, trimPrefix_intS, la2, lb2, ← hA, ← hB, rs0, rs1, rs2, hne, hne2, oa, ob, ta, tb, g1, g2, g3, g4, va, vb, p0, p1, hlt, ← hS, os, ts, g5, vs, hs', hres]
        · by_cases q2 : (natD m).length ≤ 17
          · simp [callFn, hG, Tryz.f171, Tryz.roO, Oracle.or, pureO, Tryz.rgF4, Tryz.rgF3, Tryz.rgF2, Tryz.rgF1, Tryz.strF, intP_intS, natP_natD, hn, hm, la1, lb1, q1, q2, Tryz.rfO5, Tryz.rfO4, Tryz.rfO3, Tryz.rfO2, Tryz.rfO1, hasPrefix_intS, trimPrefix_intS, la2, lb2, ← hA, ← hB, rs0, rs1, rs2, hne, hne2, oa, ob, ta, tb, g1, g2, g3, g4, va, vb, p0, p1, hlt, ← hS, os, ts, g5, vs, hs', hres]
          · simp [callFn, hG, Tryz.f171, Tryz.roO, Oracle.or, pureO, Tryz.rgF4, Tryz.rgF3, Tryz.rgF2, Tryz.rgF1, Tryz.strF, intP_intS, natP_natD, hn, hm, la1, lb1, q1, q2, Tryz.rfO5, Tryz.rfO4, Tryz.rfO3, Tryz.rfO2, Tryz.rfO1, hasPrefix_intS, trimPrefix_intS, la2, lb2, ← hA, ← hB, rs0, rs1, rs2, hne, hne2, oa, ob, ta, tb, g1, g2, g3, g4, va, vb, p0, p1, hlt, ← hS, os, ts, g5, vs, hs', hres]
      · obtain ⟨S, hS⟩ : ∃ S, S = dig 10000 (n - m) := ⟨_, rfl⟩
        have vs : lval 10000 S = n - m := by rw [hS]; exact lval_dig (by omega) _
        have os : lok 10000 S = true := by rw [hS]; exact lok_dig (by omega) _
        have ts : ltrim S = S := by rw [hS]; exact ltrim_dig (by omega) _
        have g5 : S.length ≤ 100000 := by
          have h1 := natD_length_mono (show n - m ≤ n by omega)
          have h2 := dig4_length (n - m)
          rw [hS]; omega
        have hres := c3 hs (by omega)
        have p0 : 0 ≤ (n : Int) + -(m : Int) := by omega
        have p1 : ((n : Int) + -(m : Int)).toNat = n - m := by omega
        by_cases q1 : (natD n).length ≤ 17
        · have q2 : ¬ (natD m).length ≤ 17 := fun e => hq ⟨q1, e⟩
          simp [callFn, hG, Tryz.f171, Tryz.roO, Oracle.or, pureO, Tryz.rgF4, Tryz.rgF3, Tryz.rgF2, Tryz.rgF1, Tryz.strF, intP_intS, natP_natD, hn, hm, la1, lb1, q1, q2, Tryz.rfO5, Tryz.rfO4, Tryz.rfO3, Tryz.rfO2, Tryz.rfO1, hasPrefix_intS, trimPrefix_intS, la2, lb2, ← hA, ← hB, rs0, rs1, rs2, hne, hne2, oa, ob, ta, tb, g1, g2, g3, g4, va, vb, p0, p1, hlt, ← hS, os, ts, g5, vs, hs', hres]
        · by_cases q2 : (natD m).length ≤ 17
          · simp [callFn, hG, Tryz.f171, Tryz.roO, Oracle.or, pureO, Tryz.rgF4, Tryz.rgF3, Tryz.rgF2, Tryz.rgF1, Tryz.strF, intP_intS, natP_natD, hn, hm, la1, lb1, q1, q2, Tryz.rfO5, Tryz.rfO4, Tryz.rfO3, Tryz.rfO2, Tryz.rfO1, hasPrefix_intS, trimPrefix_intS, la2, lb2, ← hA, ← hB, rs0, rs1, rs2, hne, hne2, oa, ob, ta, tb, g1, g2, g3, g4, va, vb, p0, p1, hlt, ← hS, os, ts, g5, vs, hs', hres]
          · simp [callFn, hG, Tryz.f171, Tryz.roO, Oracle.or, pureO, Tryz.rgF4, Tryz.rgF3, Tryz.rgF2, Tryz.rgF1, Tryz.strF, intP_intS, natP_natD, hn, hm, la1, lb1, q1, q2, Tryz.rfO5, Tryz.rfO4, Tryz.rfO3, Tryz.rfO2, Tryz.rfO1, hasPrefix_intS, trimPrefix_intS, la2, lb2, ← hA, ← hB, rs0, rs1, rs2, hne, hne2, oa, ob, ta, tb, g1, g2, g3, g4, va, vb, p0, p1, hlt, ← hS, os, ts, g5, vs, hs', hres]
end Go.Proofs
