/- Part L11 of a proof: see its last part, YtahfjdgeebjiaaaGreatDoorL55.lean. -/
import Derived.Lib.ItoaNum
import Derived.Lib.Atoi
import Derived.Lib.Strings
import Derived.Lib.Bytealg
import Derived.Lib.IndexLaws
set_option linter.all false
namespace Go.Eng
def digB (k : Nat) : UInt8 := UInt8.ofNat (48 + k)
def isD (c : UInt8) : Bool := decide (48 ≤ c.toNat) && decide (c.toNat ≤ 57)
def natDF : Nat → Nat → List UInt8 → List UInt8
  | 0, _, acc => acc
  | f + 1, u, acc => if u < 10 then digB u :: acc else natDF f (u / 10) (digB (u % 10) :: acc)
def natD (u : Nat) : List UInt8 := natDF (u.log2 + 1) u []
theorem natDF_eq : ∀ (f u : Nat) (acc : List UInt8), u < 2 ^ f → 0 < f → natDF f u acc = Lib.decDigits u ++ acc
  | 0, u, acc, _, h => by omega
  | f + 1, u, acc, h, _ => by
    unfold natDF
    by_cases h10 : u < 10
    · rw [if_pos h10, Lib.decDigits, dif_pos h10]; rfl
    · rw [if_neg h10, Lib.decDigits, dif_neg h10]
      have hf : 0 < f := by
        cases f with
        | zero => simp at h; omega
        | succ f => omega
      rw [natDF_eq f (u / 10) _ (by rw [Nat.pow_succ] at h; omega) hf]
      simp [digB]
theorem natD_eq (u : Nat) : natD u = Lib.decDigits u := by
  unfold natD
  rw [natDF_eq _ _ _ Nat.lt_log2_self (by omega)]
  simp
theorem natD_small {u : Nat} (h : u < 10) : natD u = [digB u] := by rw [natD_eq, Lib.decDigits, dif_pos h]; rfl
theorem natD_big {u : Nat} (h : ¬ u < 10) : natD u = natD (u / 10) ++ [digB (u % 10)] := by
  have e : Lib.decDigits u = Lib.decDigits (u / 10) ++ [UInt8.ofNat (48 + u % 10)] := by
    conv => lhs; rw [Lib.decDigits]
    rw [dif_neg h]
  unfold digB
  rw [natD_eq u, natD_eq (u / 10), e]
def valF (a : Nat) (l : List UInt8) : Nat := l.foldl (fun a c => 10 * a + (c.toNat - 48)) a
theorem valF_nil (a : Nat) : valF a [] = a := by unfold valF; rw [List.foldl_nil]
theorem valF_cons (a : Nat) (c : UInt8) (r : List UInt8) : valF a (c :: r) = valF (10 * a + (c.toNat - 48)) r := by unfold valF; rw [List.foldl_cons]
def valD (l : List UInt8) : Nat := valF 0 l
theorem valF_append : ∀ (l r : List UInt8) (a : Nat), valF a (l ++ r) = valF (valF a l) r
  | [], _, a => by rw [List.nil_append, valF_nil]
  | c :: l, r, a => by rw [List.cons_append, valF_cons, valF_cons, valF_append l r]
theorem valD_snoc (l : List UInt8) (c : UInt8) : valD (l ++ [c]) = 10 * valD l + (c.toNat - 48) := by
  unfold valD; rw [valF_append, valF_cons, valF_nil]
theorem digB_toNat {k : Nat} (h : k < 10) : (digB k).toNat = 48 + k := by
  unfold digB
  simp [UInt8.toNat_ofNat']
  omega
theorem digB_isD {k : Nat} (h : k < 10) : isD (digB k) = true := by
  unfold isD; rw [digB_toNat h]; simp; omega
theorem digB_of_isD {c : UInt8} (h : isD c = true) : digB (c.toNat - 48) = c := by
  unfold isD at h
  simp only [Bool.and_eq_true, decide_eq_true_eq] at h
  unfold digB
  apply UInt8.toNat_inj.1
  simp [UInt8.toNat_ofNat']
  omega
theorem isD_lt {c : UInt8} (h : isD c = true) : c.toNat - 48 < 10 := by
  unfold isD at h
  simp only [Bool.and_eq_true, decide_eq_true_eq] at h
  omega
theorem natD_ind {p : Nat → Prop} (h0 : ∀ u, u < 10 → p u) (h1 : ∀ u, ¬ u < 10 → p (u / 10) → p u) (u : Nat) : p u := by
  induction u using Nat.strongRecOn with
  | _ u ih =>
    by_cases h : u < 10
    · exact h0 u h
    · exact h1 u h (ih (u / 10) (by omega))
theorem valD_natD (u : Nat) : valD (natD u) = u := by
  induction u using natD_ind with
  | h0 u h =>
    rw [natD_small h]
    unfold valD
    rw [valF_cons, valF_nil, digB_toNat h]; omega
  | h1 u h ih => rw [natD_big h, valD_snoc, ih, digB_toNat (by omega)]; omega
theorem natD_all (u : Nat) : (natD u).all isD = true := by
  induction u using natD_ind with
  | h0 u h => rw [natD_small h]; simp [digB_isD h]
  | h1 u h ih => rw [natD_big h, List.all_append, ih]; simp [digB_isD (show u % 10 < 10 by omega)]
theorem natD_ne (u : Nat) : natD u ≠ [] := by
  induction u using natD_ind with
  | h0 u h => rw [natD_small h]; simp
  | h1 u h ih => rw [natD_big h]; simp
theorem natD_pos (u : Nat) : 0 < (natD u).length := List.length_pos_iff.2 (natD_ne u)
theorem natD_head (u : Nat) (hu : 0 < u) : (natD u).head? ≠ some 48 := by
  induction u using natD_ind with
  | h0 u h =>
    rw [natD_small h]
    simp only [List.head?_cons, ne_eq, Option.some.injEq]
    intro e
    have := congrArg UInt8.toNat e
    rw [digB_toNat h] at this
    simp at this
    omega
  | h1 u h ih =>
    rw [natD_big h, List.head?_append]
    have := ih (by omega)
    cases hh : (natD (u / 10)).head? with
    | none => exact absurd (List.head?_eq_none_iff.1 hh) (natD_ne _)
    | some x => rw [hh] at this; simpa using this
theorem natD_zero : natD 0 = [48] := by rw [natD_small (by omega)]; rfl
def canonN (l : List UInt8) : Bool := match l with
  | [] => false
  | c :: r => isD c && r.all isD && (!(c == 48) || r.isEmpty)
theorem canonN_natD (u : Nat) : canonN (natD u) = true := by
  have h1 := natD_all u
  have h2 := natD_ne u
  by_cases hu : u = 0
  · subst hu; rw [natD_zero]; rfl
  · have h3 := natD_head u (by omega)
    cases hl : natD u with
    | nil => exact absurd hl h2
    | cons c r =>
      rw [hl] at h1 h3
      simp only [List.all_cons, Bool.and_eq_true] at h1
      simp only [List.head?_cons, ne_eq, Option.some.injEq] at h3
      simp [canonN, h1.1, h1.2, h3]
theorem canonN_init {l : List UInt8} {c : UInt8} (hl : l ≠ []) (h : canonN (l ++ [c]) = true) : canonN l = true ∧ isD c = true ∧ l ≠ [48] := by
  cases l with
  | nil => exact absurd rfl hl
  | cons x r =>
    simp only [List.cons_append, canonN, List.all_append, List.all_cons, List.all_nil, Bool.and_true, Bool.and_eq_true] at h
    obtain ⟨⟨h1, h2, h3⟩, h4⟩ := h
    have h5 : (x == 48) = false := by
      cases hx : x == 48 with
      | false => rfl
      | true => rw [hx] at h4; simp at h4
    refine ⟨by simp [canonN, h1, h2, h5], h3, ?_⟩
    intro e
    cases e
    simp at h5
theorem snocInd {p : List UInt8 → Prop} (h0 : p []) (h1 : ∀ l c, p l → p (l ++ [c])) (l : List UInt8) : p l := by
  have : ∀ n (l : List UInt8), l.length = n → p l := by
    intro n
    induction n with
    | zero => intro l hl; rw [List.eq_nil_of_length_eq_zero hl]; exact h0
    | succ n ih =>
      intro l hl
      have hne : l ≠ [] := by intro e; rw [e] at hl; simp at hl
      rw [← List.dropLast_concat_getLast hne]
      exact h1 _ _ (ih _ (by simp [hl]))
  exact this _ l rfl
theorem natD_valD {l : List UInt8} (h : canonN l = true) : natD (valD l) = l := by
  induction l using snocInd with
  | h0 => cases h
  | h1 l c ih =>
    by_cases hl : l = []
    · subst hl
      simp only [List.nil_append, canonN, List.all_nil, Bool.and_true, List.isEmpty_nil, Bool.or_true] at h
      unfold valD
      rw [List.nil_append, valF_cons, valF_nil, Nat.mul_zero, Nat.zero_add, natD_small (isD_lt h), digB_of_isD h]
    · obtain ⟨h1, h2, h3⟩ := canonN_init hl h
      have hi := ih h1
      have hv : valD l ≠ 0 := by
        intro e
        rw [e, natD_zero] at hi
        exact h3 hi.symm
      have hd := isD_lt h2
      rw [valD_snoc, natD_big (by omega), show (10 * valD l + (c.toNat - 48)) / 10 = valD l by omega, show (10 * valD l + (c.toNat - 48)) % 10 = c.toNat - 48 by omega, hi, digB_of_isD h2]
def natP (l : List UInt8) : Option Nat := if canonN l then some (valD l) else none
theorem natP_natD (u : Nat) : natP (natD u) = some u := by unfold natP; rw [if_pos (canonN_natD u), valD_natD]
theorem natP_some {l : List UInt8} {u : Nat} (h : natP l = some u) : l = natD u := by
  unfold natP at h
  split at h
  · rename_i hc; cases h; exact (natD_valD hc).symm
  · cases h
theorem natD_inj {u v : Nat} (h : natD u = natD v) : u = v := by rw [← valD_natD u, h, valD_natD]
theorem pow_le_natD (u : Nat) (hu : 0 < u) : 10 ^ ((natD u).length - 1) ≤ u := by
  induction u using natD_ind with
  | h0 u h => rw [natD_small h]; simp; omega
  | h1 u h ih =>
    rw [natD_big h]
    have := ih (by omega)
    have hp := natD_pos (u / 10)
    simp only [List.length_append, List.length_singleton, Nat.add_sub_cancel]
    have e : 10 ^ (natD (u / 10)).length = 10 ^ ((natD (u / 10)).length - 1) * 10 := by rw [← Nat.pow_succ]; congr 1; omega
    rw [e]; omega
theorem natD_lt_pow (u : Nat) : u < 10 ^ (natD u).length := by
  rw [natD_eq, Lib.decDigits_length]; exact Lib.lt_pow_nDigits u
theorem natD_length_le {u k : Nat} (hk : 0 < k) (h : u < 10 ^ k) : (natD u).length ≤ k := by
  by_cases hu : u = 0
  · subst hu; rw [natD_zero]; exact hk
  · have h1 := pow_le_natD u (by omega)
    have h2 : 10 ^ ((natD u).length - 1) < 10 ^ k := by omega
    have := (Nat.pow_lt_pow_iff_right (by omega : 1 < 10)).1 h2
    omega
def intS (n : Int) : List UInt8 := match n with
  | .ofNat u => natD u
  | .negSucc u => 45 :: natD (u + 1)
theorem intS_eq (n : Int) : intS n = Lib.itoa n := by
  unfold Lib.itoa
  cases n with
  | ofNat u => rw [if_neg (by simp)]; simp [intS, natD_eq]
  | negSucc u => rw [if_pos (Int.negSucc_lt_zero u)]; simp [intS, natD_eq]
def intP (l : List UInt8) : Option Int := match l with
  | 45 :: r => match natP r with
    | some (u + 1) => some (.negSucc u)
    | _ => none
  | l => match natP l with
    | some u => some (.ofNat u)
    | none => none
theorem natD_ne_minus (u : Nat) : (natD u).head? ≠ some 45 := by
  cases hl : natD u with
  | nil => simp
  | cons c r =>
    have := natD_all u
    rw [hl] at this
    simp only [List.all_cons, Bool.and_eq_true] at this
    simp only [List.head?_cons, ne_eq, Option.some.injEq]
    rintro rfl
    exact absurd this.1 (by decide)
theorem intP_intS (n : Int) : intP (intS n) = some n := by
  cases n with
  | ofNat u =>
    have h := natD_ne_minus u
    simp only [intS]
    unfold intP
    split
    · rename_i r hr
      rw [hr] at h; simp at h
    · rw [natP_natD]
  | negSucc u => simp [intS, intP, natP_natD]
theorem intP_some {l : List UInt8} {n : Int} (h : intP l = some n) : l = intS n := by
  unfold intP at h
  split at h
  · split at h
    · rename_i hr
      cases h
      simp [intS, natP_some hr]
    · cases h
  · split at h
    · rename_i hr
      cases h
      simp [intS, natP_some hr]
    · cases h
theorem intS_inj {m n : Int} (h : intS m = intS n) : m = n := by
  have := intP_intS m
  rw [h, intP_intS] at this
  exact (Option.some.inj this).symm
end Go.Eng
namespace Go.Eng
theorem hasPrefix_intS (n : Int) : Lib.hasPrefix (intS n) [45] = decide (n < 0) := by
  cases n with
  | ofNat u =>
    have h := natD_ne_minus u
    simp only [intS]
    cases hl : natD u with
    | nil => exact absurd hl (natD_ne u)
    | cons c r =>
      rw [hl] at h
      simp only [List.head?_cons, ne_eq, Option.some.injEq] at h
      rw [show decide (Int.ofNat u < 0) = false by simp]
      have h' : ¬ (45 : UInt8) = c := fun e => h e.symm
      simp [Lib.hasPrefix, List.isPrefixOf, h']
  | negSucc u => simp [intS, Lib.hasPrefix, List.isPrefixOf, Int.negSucc_lt_zero]
theorem trimPrefix_intS (n : Int) : Lib.trimPrefix (intS n) [45] = natD n.natAbs := by
  unfold Lib.trimPrefix
  rw [hasPrefix_intS]
  cases n with
  | ofNat u =>
    rw [show decide (Int.ofNat u < 0) = false by simp]
    rfl
  | negSucc u => simp [intS, Int.negSucc_lt_zero, Int.natAbs]
theorem digitVal_isD {c : UInt8} (h : isD c = true) : Lib.digitVal c = some (c.toNat - 48) := by
  unfold isD at h
  simp only [Bool.and_eq_true, decide_eq_true_eq] at h
  unfold Lib.digitVal
  rw [if_pos h]
theorem decFrom_valF : ∀ (l : List UInt8) (a : Nat), l.all isD = true → Lib.decFrom a l = some (valF a l)
  | [], a, _ => by rw [valF_nil]; rfl
  | c :: r, a, h => by
    simp only [List.all_cons, Bool.and_eq_true] at h
    unfold Lib.decFrom
    rw [digitVal_isD h.1, valF_cons]
    simp only
    rw [decFrom_valF r _ h.2, Nat.mul_comm]
theorem decNat_natD (u : Nat) : Lib.decNat (natD u) = some u := by
  unfold Lib.decNat
  have h : (natD u).isEmpty = false := by
    cases hl : natD u with
    | nil => exact absurd hl (natD_ne u)
    | cons => rfl
  rw [h]
  simp only [Bool.false_eq_true, if_false]
  rw [decFrom_valF _ _ (natD_all u)]
  exact congrArg some (valD_natD u)
theorem atoi_intS (n : Int) : Lib.atoi (intS n) = some n := by
  cases n with
  | ofNat u =>
    have h1 := natD_ne_minus u
    have h2 := natD_all u
    have h3 := decNat_natD u
    simp only [intS]
    cases hl : natD u with
    | nil => exact absurd hl (natD_ne u)
    | cons c r =>
      rw [hl] at h1 h2 h3
      simp only [List.head?_cons, ne_eq, Option.some.injEq] at h1
      simp only [List.all_cons, Bool.and_eq_true] at h2
      have hc : ¬ c = 43 := by rintro rfl; exact absurd h2.1 (by decide)
      simp [Lib.atoi, h1, hc, h3]
  | negSucc u =>
    simp [intS, Lib.atoi, decNat_natD, Int.negSucc_eq]
theorem natD_lt_of_length {u v : Nat} (h : (natD u).length < (natD v).length) : u < v := by
  have h1 := natD_lt_pow u
  have hv : 0 < v := by
    by_cases hv : v = 0
    · subst hv
      rw [natD_zero] at h
      have := natD_pos u
      simp only [List.length_singleton] at h
      omega
    · omega
  have h2 := pow_le_natD v hv
  have h3 : 10 ^ (natD u).length ≤ 10 ^ ((natD v).length - 1) := Nat.pow_le_pow_right (by omega) (by omega)
  exact Nat.lt_of_lt_of_le h1 (Nat.le_trans h3 h2)
def cmpN (u v : Nat) : Int := if u < v then -1 else if v < u then 1 else 0
theorem valF_lt_pow : ∀ (l : List UInt8) (a : Nat), l.all isD = true → valF a l < (a + 1) * 10 ^ l.length
  | [], a, _ => by rw [valF_nil]; simp
  | c :: r, a, h => by
    simp only [List.all_cons, Bool.and_eq_true] at h
    have hd := isD_lt h.1
    have := valF_lt_pow r (10 * a + (c.toNat - 48)) h.2
    rw [valF_cons]
    refine Nat.lt_of_lt_of_le this ?_
    rw [List.length_cons, Nat.pow_succ, Nat.mul_comm (10 ^ r.length) 10, ← Nat.mul_assoc]
    exact Nat.mul_le_mul_right _ (by omega)
theorem le_valF : ∀ (l : List UInt8) (a : Nat), a * 10 ^ l.length ≤ valF a l
  | [], a => by rw [valF_nil]; simp
  | c :: r, a => by
    have := le_valF r (10 * a + (c.toNat - 48))
    rw [valF_cons]
    refine Nat.le_trans ?_ this
    rw [List.length_cons, Nat.pow_succ, Nat.mul_comm (10 ^ r.length) 10, ← Nat.mul_assoc]
    exact Nat.mul_le_mul_right _ (by omega)
theorem compareBytes_valF : ∀ (l r : List UInt8) (a : Nat), l.length = r.length → l.all isD = true → r.all isD = true → Lib.compareBytes l r = cmpN (valF a l) (valF a r)
  | [], [], a, _, _, _ => by
    rw [valF_nil]
    show (0 : Int) = cmpN a a
    unfold cmpN; rw [if_neg (by omega), if_neg (by omega)]
  | [], _ :: _, _, h, _, _ => by simp at h
  | _ :: _, [], _, h, _, _ => by simp at h
  | c :: l, d :: r, a, h, h1, h2 => by
    simp only [List.length_cons, Nat.add_right_cancel_iff] at h
    simp only [List.all_cons, Bool.and_eq_true] at h1 h2
    have key : ∀ {x y : UInt8} {l r : List UInt8}, isD x = true → isD y = true → l.all isD = true → l.length = r.length → x < y → valF (10 * a + (x.toNat - 48)) l < valF (10 * a + (y.toNat - 48)) r := by
      intro x y l r hx hy hl hlr hxy
      have e1 := valF_lt_pow l (10 * a + (x.toNat - 48)) hl
      have e2 := le_valF r (10 * a + (y.toNat - 48))
      have hxy' : x.toNat < y.toNat := hxy
      unfold isD at hx hy
      simp only [Bool.and_eq_true, decide_eq_true_eq] at hx hy
      rw [hlr] at e1
      have : (10 * a + (x.toNat - 48) + 1) * 10 ^ r.length ≤ (10 * a + (y.toNat - 48)) * 10 ^ r.length := Nat.mul_le_mul_right _ (by omega)
      omega
    unfold Lib.compareBytes
    rw [valF_cons, valF_cons]
    by_cases hcd : c < d
    · rw [if_pos hcd]
      have := key h1.1 h2.1 h1.2 h hcd
      unfold cmpN; rw [if_pos this]
    · rw [if_neg hcd]
      by_cases hdc : d < c
      · rw [if_pos hdc]
        have := key h2.1 h1.1 h2.2 h.symm hdc
        unfold cmpN; rw [if_neg (by omega), if_pos this]
      · rw [if_neg hdc]
        have hn1 : ¬ c.toNat < d.toNat := hcd
        have hn2 : ¬ d.toNat < c.toNat := hdc
        have e : c.toNat = d.toNat := by omega
        rw [e]
        exact compareBytes_valF l r _ h h1.2 h2.2
theorem compareBytes_natD {u v : Nat} (h : (natD u).length = (natD v).length) : Lib.compareBytes (natD u) (natD v) = cmpN u v := by
  have := compareBytes_valF (natD u) (natD v) 0 h (natD_all u) (natD_all v)
  rw [this]
  show cmpN (valD (natD u)) (valD (natD v)) = _
  rw [valD_natD, valD_natD]
def sgnI (n : Int) : Int := if n < 0 then -1 else if n = 0 then 0 else 1
def cmpI (m n : Int) : Int := if m < n then -1 else if n < m then 1 else 0
theorem intS_zero (n : Int) : intS n = [48] ↔ n = 0 := by
  constructor
  · intro h; exact intS_inj (h.trans (by rfl))
  · rintro rfl; rfl
theorem intS_beq_zero (n : Int) : (intS n == [48]) = decide (n = 0) := by
  rw [Bool.eq_iff_iff]; simp [intS_zero]
theorem intS_length_pos (n : Int) : 0 < (intS n).length := by
  cases n with
  | ofNat u => exact natD_pos u
  | negSucc u => simp [intS]
theorem intS_neg_pos {n : Int} (h : 0 < n) : intS (-n) = 45 :: intS n := by
  cases n with
  | ofNat u =>
    cases u with
    | zero => simp at h
    | succ u => rfl
  | negSucc u => exact absurd h (by have := Int.negSucc_lt_zero u; omega)
theorem intS_drop_neg {n : Int} (h : n < 0) : (intS n).drop 1 = intS (-n) := by
  have := intS_neg_pos (n := -n) (by omega)
  rw [Int.neg_neg] at this
  rw [this]
  rfl
theorem intS_natAbs {n : Int} (h : 0 ≤ n) : intS n = natD n.natAbs := by
  cases n with
  | ofNat u => rfl
  | negSucc u => exact absurd h (by have := Int.negSucc_lt_zero u; omega)
theorem cmpI_eq (a b : Int) : cmpI a b = if sgnI a ≠ sgnI b then (if sgnI a < sgnI b then -1 else 1) else
    if (natD a.natAbs).length ≠ (natD b.natAbs).length then (if (natD a.natAbs).length < (natD b.natAbs).length then - sgnI a else sgnI a) else sgnI a * cmpN a.natAbs b.natAbs := by
  by_cases hs : sgnI a ≠ sgnI b
  · rw [if_pos hs]
    unfold sgnI at hs ⊢
    unfold cmpI
    repeat' split
    all_goals first | rfl | omega
  · rw [if_neg hs]
    by_cases hl : (natD a.natAbs).length ≠ (natD b.natAbs).length
    · rw [if_pos hl]
      by_cases hlt : (natD a.natAbs).length < (natD b.natAbs).length
      · rw [if_pos hlt]
        have := natD_lt_of_length hlt
        unfold sgnI at hs ⊢
        unfold cmpI
        repeat' split
        all_goals first | rfl | omega
      · rw [if_neg hlt]
        have := natD_lt_of_length (u := b.natAbs) (v := a.natAbs) (by omega)
        unfold sgnI at hs ⊢
        unfold cmpI
        repeat' split
        all_goals first | rfl | omega
    · rw [if_neg hl]
      unfold sgnI at hs ⊢
      unfold cmpI cmpN
      repeat' split
      all_goals first | rfl | omega
end Go.Eng
namespace Go.Eng
def ratS (q : Rat) : List UInt8 := if q.den = 1 then intS q.num else intS q.num ++ 47 :: natD q.den
theorem natD_no_slash (u : Nat) : (47 : UInt8) ∉ natD u := by
  intro h
  have := List.all_eq_true.1 (natD_all u) _ h
  exact absurd this (by decide)
theorem intS_no_slash (n : Int) : (47 : UInt8) ∉ intS n := by
  cases n with
  | ofNat u => exact natD_no_slash u
  | negSucc u =>
    simp only [intS, List.mem_cons, not_or]
    exact ⟨by decide, natD_no_slash _⟩
theorem indexByte_not_mem : ∀ (l : List UInt8) (c : UInt8), c ∉ l → Lib.indexByte l c = -1
  | [], _, _ => rfl
  | b :: l, c, h => by
    simp only [List.mem_cons, not_or] at h
    unfold Lib.indexByte
    rw [if_neg (by simpa using fun e => h.1 e.symm), indexByte_not_mem l c h.2]
    rfl
theorem indexByte_at : ∀ (l r : List UInt8) (c : UInt8), c ∉ l → Lib.indexByte (l ++ c :: r) c = l.length
  | [], r, c, _ => by simp [Lib.indexByte]
  | b :: l, r, c, h => by
    simp only [List.mem_cons, not_or] at h
    rw [List.cons_append]
    unfold Lib.indexByte
    rw [if_neg (by simpa using fun e => h.1 e.symm), indexByte_at l r c h.2]
    have hn : ¬ (((l.length : Int) == -1) = true) := by rw [beq_iff_eq]; omega
    rw [if_neg hn]
    rfl
theorem indexByte_ratS (q : Rat) : Lib.indexByte (ratS q) 47 = if q.den = 1 then -1 else ((intS q.num).length : Int) := by
  unfold ratS
  split
  · exact indexByte_not_mem _ _ (intS_no_slash _)
  · exact indexByte_at _ _ _ (intS_no_slash _)
def ratOf (n : Int) (d : Nat) : Option Rat := if h : 1 < d ∧ n.natAbs.gcd d = 1 then some ⟨n, d, by omega, h.2⟩ else none
def ratP (l : List UInt8) : Option Rat := match l.idxOf? 47 with
  | none => match intP l with
    | some n => some ⟨n, 1, by decide, Nat.gcd_one_right _⟩
    | none => none
  | some i => match intP (l.take i), natP (l.drop (i + 1)) with
    | some n, some d => ratOf n d
    | _, _ => none
theorem idxOf_none {l : List UInt8} {c : UInt8} (h : c ∉ l) : l.idxOf? c = none := List.idxOf?_eq_none_iff.2 h
theorem idxOf_at {l r : List UInt8} {c : UInt8} (h : c ∉ l) : (l ++ c :: r).idxOf? c = some l.length := by
  rw [List.idxOf?_eq_some_iff]
  refine ⟨by simp, by simp, fun j hj => ?_⟩
  rw [List.getElem_append_left hj]
  intro e
  exact h (e ▸ List.getElem_mem hj)
theorem ratP_ratS (q : Rat) : ratP (ratS q) = some q := by
  unfold ratP ratS
  by_cases h : q.den = 1
  · rw [if_pos h, idxOf_none (intS_no_slash _)]
    simp only [intP_intS]
    congr 1
    apply Rat.ext
    · rfl
    · exact h.symm
  · have h1 : List.drop ((intS q.num).length + 1) (intS q.num ++ 47 :: natD q.den) = natD q.den := by
      rw [List.drop_append]; simp
    have h2 : List.take (intS q.num).length (intS q.num ++ 47 :: natD q.den) = intS q.num := List.take_left' rfl
    have hd : 1 < q.den := by have := q.den_nz; omega
    have hr : q.num.natAbs.gcd q.den = 1 := q.reduced
    rw [if_neg h, idxOf_at (intS_no_slash _)]
    simp only
    rw [h1, h2, intP_intS, natP_natD]
    simp only [ratOf]
    rw [dif_pos ⟨hd, hr⟩]
theorem ratP_some {l : List UInt8} {q : Rat} (h : ratP l = some q) : l = ratS q := by
  unfold ratP at h
  split at h
  · split at h
    · rename_i n hn
      cases h
      unfold ratS
      rw [if_pos rfl]
      exact intP_some hn
    · cases h
  · rename_i i hi
    split at h
    · rename_i n d hn hd
      unfold ratOf at h
      split at h
      · rename_i hc
        cases h
        unfold ratS
        rw [if_neg (by show ¬ d = 1; omega)]
        obtain ⟨hlt, hget, _⟩ := List.idxOf?_eq_some_iff.1 hi
        show l = intS n ++ 47 :: natD d
        rw [← intP_some hn, ← natP_some hd]
        have : l.drop i = 47 :: l.drop (i + 1) := by rw [List.drop_eq_getElem_cons hlt, hget]
        rw [← this, List.take_append_drop]
      · cases h
    · cases h
theorem ratS_inj {p q : Rat} (h : ratS p = ratS q) : p = q := by
  have := ratP_ratS p
  rw [h, ratP_ratS] at this
  exact (Option.some.inj this).symm
theorem ratS_zero (q : Rat) : ratS q = [48] ↔ q = 0 := by
  constructor
  · intro h; exact ratS_inj (h.trans (by rfl))
  · rintro rfl; rfl
theorem ratS_beq_zero (q : Rat) : (ratS q == [48]) = decide (q = 0) := by
  rw [Bool.eq_iff_iff]; simp [ratS_zero]
theorem neg_num (q : Rat) : (-q).num = -q.num := rfl
theorem neg_den (q : Rat) : (-q).den = q.den := rfl
theorem ratS_neg_pos {q : Rat} (h : 0 < q.num) : ratS (-q) = 45 :: ratS q := by
  unfold ratS
  rw [neg_num, neg_den, intS_neg_pos h]
  split <;> rfl
theorem ratS_of_neg {q : Rat} (h : q.num < 0) : ratS q = 45 :: ratS (-q) := by
  have := ratS_neg_pos (q := -q) (by rw [neg_num]; omega)
  rwa [Rat.neg_neg] at this
theorem num_zero {q : Rat} : q.num = 0 ↔ q = 0 := by
  constructor
  · intro h
    apply Rat.ext
    · exact h
    · have := q.reduced
      rw [h] at this
      simpa [Nat.Coprime] using this
  · rintro rfl; rfl
theorem ratS_head {q : Rat} (h : 0 ≤ q.num) : ∃ c r, ratS q = c :: r ∧ isD c = true := by
  have h1 : ∃ c r, intS q.num = c :: r ∧ isD c = true := by
    rw [intS_natAbs h]
    have := natD_all q.num.natAbs
    cases hl : natD q.num.natAbs with
    | nil => exact absurd hl (natD_ne _)
    | cons c r =>
      rw [hl] at this
      simp only [List.all_cons, Bool.and_eq_true] at this
      exact ⟨c, r, rfl, this.1⟩
  obtain ⟨c, r, e, hc⟩ := h1
  unfold ratS
  split
  · exact ⟨c, r, e, hc⟩
  · exact ⟨c, r ++ 47 :: natD q.den, by rw [e]; rfl, hc⟩
theorem isD_ne_minus {c : UInt8} (h : isD c = true) : ¬ ((c.toNat : Int) = 45) := by
  unfold isD at h
  simp only [Bool.and_eq_true, decide_eq_true_eq] at h
  omega
def sgnR (q : Rat) : Int := sgnI q.num
end Go.Eng
namespace Go.Eng
def lval (B : Nat) : List Nat → Nat
  | [] => 0
  | d :: l => d + B * lval B l
def lok (B : Nat) (l : List Nat) : Bool := l.all fun d => decide (d < B)
def ltrim : List Nat → List Nat
  | [] => []
  | d :: l => match ltrim l with
    | [] => if d = 0 then [] else [d]
    | x :: r => d :: x :: r
def digF (B : Nat) : Nat → Nat → List Nat
  | 0, _ => []
  | f + 1, n => if n = 0 then [] else n % B :: digF B f (n / B)
def dig (B n : Nat) : List Nat := digF B (n.log2 + 1) n
theorem digF_eq {B : Nat} (hB : 2 ≤ B) : ∀ (f g n : Nat), n < 2 ^ f → n < 2 ^ g → digF B f n = digF B g n
  | 0, g, n, h, _ => by
    have : n = 0 := by simp at h; omega
    subst this
    cases g <;> simp [digF]
  | f + 1, 0, n, _, h => by
    have : n = 0 := by simp at h; omega
    subst this
    simp [digF]
  | f + 1, g + 1, n, h1, h2 => by
    unfold digF
    by_cases hn : n = 0
    · rw [if_pos hn, if_pos hn]
    · rw [if_neg hn, if_neg hn]
      have h : n / B ≤ n / 2 := Nat.div_le_div_left hB (by omega)
      rw [Nat.pow_succ] at h1 h2
      rw [digF_eq hB f g (n / B) (by omega) (by omega)]
theorem dig_zero (B : Nat) : dig B 0 = [] := by simp [dig, digF]
theorem dig_pos {B n : Nat} (hB : 2 ≤ B) (hn : n ≠ 0) : dig B n = n % B :: dig B (n / B) := by
  have h1 : n < 2 ^ (n.log2 + 1) := Nat.lt_log2_self
  have h2 : n / B < 2 ^ ((n / B).log2 + 1) := Nat.lt_log2_self
  have h : n / B ≤ n / 2 := Nat.div_le_div_left hB (by omega)
  show digF B (n.log2 + 1) n = _
  rw [digF, if_neg hn]
  congr 1
  exact digF_eq hB _ _ _ (by rw [Nat.pow_succ] at h1; omega) h2
theorem dig_ind {B : Nat} (hB : 2 ≤ B) {p : Nat → Prop} (h0 : p 0) (h1 : ∀ n, n ≠ 0 → p (n / B) → p n) (n : Nat) : p n := by
  induction n using Nat.strongRecOn with
  | _ n ih =>
    by_cases hn : n = 0
    · subst hn; exact h0
    · exact h1 n hn (ih (n / B) (Nat.div_lt_self (by omega) hB))
theorem lval_dig {B : Nat} (hB : 2 ≤ B) (n : Nat) : lval B (dig B n) = n := by
  induction n using dig_ind hB with
  | h0 => rw [dig_zero]; rfl
  | h1 n hn ih =>
    rw [dig_pos hB hn, lval, ih]
    have := Nat.mod_add_div n B
    omega
theorem lok_dig {B : Nat} (hB : 2 ≤ B) (n : Nat) : lok B (dig B n) = true := by
  induction n using dig_ind hB with
  | h0 => rw [dig_zero]; rfl
  | h1 n hn ih =>
    rw [dig_pos hB hn]
    unfold lok at ih ⊢
    rw [List.all_cons, ih]
    simp [Nat.mod_lt n (show 0 < B by omega)]
theorem lval_append (B : Nat) : ∀ (l r : List Nat), lval B (l ++ r) = lval B l + B ^ l.length * lval B r
  | [], r => by simp [lval]
  | d :: l, r => by
    rw [List.cons_append, lval, lval, lval_append B l r, List.length_cons, Nat.pow_succ, Nat.mul_add, Nat.mul_comm (B ^ l.length) B, Nat.mul_assoc]
    omega
theorem lval_lt {B : Nat} : ∀ {l : List Nat}, lok B l = true → lval B l < B ^ l.length
  | [], _ => by simp [lval]
  | d :: l, h => by
    unfold lok at h
    simp only [List.all_cons, Bool.and_eq_true, decide_eq_true_eq] at h
    have := lval_lt (l := l) h.2
    rw [lval, List.length_cons, Nat.pow_succ]
    have h2 : B * (lval B l + 1) ≤ B * B ^ l.length := Nat.mul_le_mul_left _ this
    rw [Nat.mul_add] at h2
    rw [Nat.mul_comm (B ^ l.length) B]
    omega
theorem lval_ltrim (B : Nat) : ∀ l : List Nat, lval B (ltrim l) = lval B l
  | [] => rfl
  | d :: l => by
    have ih := lval_ltrim B l
    unfold ltrim
    split
    · rename_i h
      rw [h] at ih
      rw [lval, ← ih]
      split
      · rename_i h0; subst h0; simp [lval]
      · simp [lval]
    · rename_i x r h
      rw [h] at ih
      show d + B * lval B (x :: r) = d + B * lval B l
      rw [ih]
theorem dig_eq_nil {B n : Nat} (hB : 2 ≤ B) : dig B n = [] ↔ n = 0 := by
  constructor
  · intro h
    by_cases hn : n = 0
    · exact hn
    · rw [dig_pos hB hn] at h; cases h
  · rintro rfl; exact dig_zero B
theorem dig_lval {B : Nat} (hB : 2 ≤ B) : ∀ {l : List Nat}, lok B l = true → dig B (lval B l) = ltrim l
  | [], _ => dig_zero B
  | d :: l, h => by
    unfold lok at h
    simp only [List.all_cons, Bool.and_eq_true, decide_eq_true_eq] at h
    have ih := dig_lval hB (l := l) h.2
    have hd : lval B (d :: l) = d + B * lval B l := rfl
    have hdiv : (d + B * lval B l) / B = lval B l := by
      rw [Nat.add_mul_div_left _ _ (by omega), Nat.div_eq_of_lt h.1, Nat.zero_add]
    have hmod : (d + B * lval B l) % B = d := by
      rw [Nat.add_mul_mod_self_left, Nat.mod_eq_of_lt h.1]
    rw [hd]
    unfold ltrim
    split
    · rename_i ht
      rw [ht] at ih
      have h0 := (dig_eq_nil hB).1 ih
      rw [h0]
      split
      · rename_i hd0; subst hd0; exact dig_zero B
      · rename_i hd0
        rw [dig_pos hB (by omega), Nat.mul_zero, Nat.add_zero, Nat.mod_eq_of_lt h.1, Nat.div_eq_of_lt h.1, dig_zero]
    · rename_i x r ht
      rw [ht] at ih
      have hne : lval B l ≠ 0 := by
        intro e
        rw [e, dig_zero] at ih; cases ih
      have : d + B * lval B l ≠ 0 := by
        have : 0 < B * lval B l := Nat.mul_pos (by omega) (by omega)
        omega
      rw [dig_pos hB this, hdiv, hmod, ih]
theorem ltrim_dig {B : Nat} (hB : 2 ≤ B) (n : Nat) : ltrim (dig B n) = dig B n := by
  rw [← dig_lval hB (lok_dig hB n), lval_dig hB]
theorem ltrim_snoc_zero : ∀ l : List Nat, ltrim (l ++ [0]) = ltrim l
  | [] => rfl
  | d :: l => by
    rw [List.cons_append, ltrim, ltrim_snoc_zero l, ltrim]
theorem ltrim_snoc {d : Nat} (hd : d ≠ 0) : ∀ l : List Nat, ltrim (l ++ [d]) = l ++ [d]
  | [] => by simp [ltrim, hd]
  | c :: l => by
    rw [List.cons_append, ltrim, ltrim_snoc hd l]
    cases l <;> rfl
theorem snocIndN {p : List Nat → Prop} (h0 : p []) (h1 : ∀ l c, p l → p (l ++ [c])) (l : List Nat) : p l := by
  have : ∀ n (l : List Nat), l.length = n → p l := by
    intro n
    induction n with
    | zero => intro l hl; rw [List.eq_nil_of_length_eq_zero hl]; exact h0
    | succ n ih =>
      intro l hl
      have hne : l ≠ [] := by intro e; rw [e] at hl; simp at hl
      rw [← List.dropLast_concat_getLast hne]
      exact h1 _ _ (ih _ (by simp [hl]))
  exact this _ l rfl
theorem ltrim_eq_of_last {l : List Nat} (h : l.getLast? ≠ some 0) : ltrim l = l := by
  induction l using snocIndN with
  | h0 => rfl
  | h1 l d _ =>
    rw [List.getLast?_append] at h
    simp at h
    exact ltrim_snoc h l
theorem ltrim_length_le : ∀ l : List Nat, (ltrim l).length ≤ l.length
  | [] => Nat.le_refl _
  | d :: l => by
    have := ltrim_length_le l
    unfold ltrim
    split
    · split <;> simp
    · rename_i x r h
      rw [h] at this
      simp only [List.length_cons] at this ⊢
      omega
theorem ltrim_prefix : ∀ l : List Nat, ltrim l = l.take (ltrim l).length
  | [] => rfl
  | d :: l => by
    have := ltrim_prefix l
    unfold ltrim
    split
    · split <;> simp
    · rename_i x r h
      rw [h] at this
      rw [List.length_cons, List.take_succ_cons, ← this]
theorem dig_length_le {B : Nat} (hB : 2 ≤ B) {l : List Nat} (h : lok B l = true) : (dig B (lval B l)).length ≤ l.length := by
  rw [dig_lval hB h]; exact ltrim_length_le l
theorem dig_lt_pow {B : Nat} (hB : 2 ≤ B) (n : Nat) : n < B ^ (dig B n).length := by
  have := lval_lt (lok_dig hB n)
  rwa [lval_dig hB] at this
theorem pow_le_dig {B : Nat} (hB : 2 ≤ B) (n : Nat) (hn : n ≠ 0) : B ^ ((dig B n).length - 1) ≤ n := by
  induction n using dig_ind hB with
  | h0 => exact absurd rfl hn
  | h1 n _ ih =>
    rw [dig_pos hB hn, List.length_cons, Nat.add_sub_cancel]
    by_cases h0 : n / B = 0
    · rw [h0, dig_zero]; simp; omega
    · have := ih h0
      have hp : 0 < (dig B (n / B)).length := by
        cases h : dig B (n / B) with
        | nil => exact absurd ((dig_eq_nil hB).1 h) h0
        | cons => simp
      have e : B ^ (dig B (n / B)).length = B * B ^ ((dig B (n / B)).length - 1) := by
        rw [Nat.mul_comm, ← Nat.pow_succ]; congr 1; omega
      rw [e]
      exact Nat.le_trans (Nat.mul_le_mul_left _ this) (Nat.mul_div_le n B)
theorem dig_length_lt {B : Nat} (hB : 2 ≤ B) {m n : Nat} (h : (dig B m).length < (dig B n).length) : m < n := by
  have hn : n ≠ 0 := by rintro rfl; rw [dig_zero] at h; simp at h
  have h1 := dig_lt_pow hB m
  have h2 := pow_le_dig hB n hn
  have h3 : B ^ (dig B m).length ≤ B ^ ((dig B n).length - 1) := Nat.pow_le_pow_right (by omega) (by omega)
  omega
theorem dig_inj {B : Nat} (hB : 2 ≤ B) {m n : Nat} (h : dig B m = dig B n) : m = n := by
  rw [← lval_dig hB m, h, lval_dig hB]
theorem dig_length_le_of_lt {B : Nat} (hB : 2 ≤ B) {n k : Nat} (h : n < B ^ k) : (dig B n).length ≤ k := by
  by_cases hn : n = 0
  · subst hn; rw [dig_zero]; simp
  · have h1 := pow_le_dig hB n hn
    have h2 : B ^ ((dig B n).length - 1) < B ^ k := by omega
    have := (Nat.pow_lt_pow_iff_right (by omega : 1 < B)).1 h2
    omega
theorem lok_get {B : Nat} {l : List Nat} (h : lok B l = true) {i d : Nat} (hi : l[i]? = some d) : d < B := by
  have := List.all_eq_true.1 h d (List.mem_of_getElem? hi)
  simpa using this
theorem lok_append {B : Nat} {l r : List Nat} : lok B (l ++ r) = (lok B l && lok B r) := by simp [lok, List.all_append]
theorem lok_cons {B d : Nat} {r : List Nat} : lok B (d :: r) = (decide (d < B) && lok B r) := rfl
theorem lok_nil {B : Nat} : lok B [] = true := rfl
theorem lok_take {B : Nat} {l : List Nat} (h : lok B l = true) (k : Nat) : lok B (l.take k) = true := by
  unfold lok at h ⊢
  rw [List.all_eq_true] at h ⊢
  exact fun d hd => h d (List.mem_of_mem_take hd)
theorem lok_drop {B : Nat} {l : List Nat} (h : lok B l = true) (k : Nat) : lok B (l.drop k) = true := by
  unfold lok at h ⊢
  rw [List.all_eq_true] at h ⊢
  exact fun d hd => h d (List.mem_of_mem_drop hd)
theorem lval_snoc (B : Nat) (l : List Nat) (d : Nat) : lval B (l ++ [d]) = lval B l + B ^ l.length * d := by
  rw [lval_append]; simp [lval]
theorem cmpN_snoc {B : Nat} {l r : List Nat} {c d : Nat} (hl : lok B l = true) (hr : lok B r = true) (he : l.length = r.length) :
    cmpN (lval B (l ++ [c])) (lval B (r ++ [d])) = if c = d then cmpN (lval B l) (lval B r) else if c < d then -1 else 1 := by
  rw [lval_snoc, lval_snoc, he]
  have h1 := lval_lt hl
  have h2 := lval_lt hr
  rw [he] at h1
  generalize B ^ r.length = p at *
  split
  · rename_i h; subst h
    unfold cmpN
    by_cases h3 : lval B l < lval B r
    · rw [if_pos h3, if_pos (by omega)]
    · rw [if_neg h3, if_neg (by omega)]
      by_cases h4 : lval B r < lval B l
      · rw [if_pos h4, if_pos (by omega)]
      · rw [if_neg h4, if_neg (by omega)]
  · rename_i h
    split
    · rename_i h3
      have : p * (c + 1) ≤ p * d := Nat.mul_le_mul_left _ h3
      rw [Nat.mul_add] at this
      unfold cmpN
      rw [if_pos (by omega)]
    · have : p * (d + 1) ≤ p * c := Nat.mul_le_mul_left _ (by omega)
      rw [Nat.mul_add] at this
      unfold cmpN
      rw [if_neg (by omega), if_pos (by omega)]
def addL (B : Nat) : List Nat → List Nat → Nat → List Nat
  | [], _, c => [c]
  | x :: a, b, c => (c + x + b.headD 0) % B :: addL B a b.tail ((c + x + b.headD 0) / B)
theorem lval_tail (B : Nat) (b : List Nat) : lval B b = b.headD 0 + B * lval B b.tail := by
  cases b <;> simp [lval]
theorem lval_addL (B : Nat) : ∀ (a b : List Nat) (c : Nat), b.length ≤ a.length → lval B (addL B a b c) = lval B a + lval B b + c
  | [], b, c, h => by
    have : b = [] := List.eq_nil_of_length_eq_zero (by simpa using h)
    subst this
    simp [addL, lval]
  | x :: a, b, c, h => by
    have ht : b.tail.length ≤ a.length := by simp at h ⊢; omega
    rw [addL, lval, lval_addL B a b.tail _ ht, lval_tail B b, lval]
    have := Nat.mod_add_div (c + x + b.headD 0) B
    rw [Nat.mul_add, Nat.mul_add]
    omega
theorem lok_headD {B : Nat} (hB : 0 < B) {b : List Nat} (h : lok B b = true) : b.headD 0 < B := by
  cases b with
  | nil => exact hB
  | cons d b => rw [lok_cons, Bool.and_eq_true, decide_eq_true_eq] at h; exact h.1
theorem lok_tail {B : Nat} {b : List Nat} (h : lok B b = true) : lok B b.tail = true := by
  cases b with
  | nil => rfl
  | cons d b => rw [lok_cons, Bool.and_eq_true] at h; exact h.2
theorem lok_addL {B : Nat} (hB : 2 ≤ B) : ∀ (a b : List Nat) (c : Nat), lok B a = true → lok B b = true → c ≤ 1 → lok B (addL B a b c) = true
  | [], b, c, _, _, hc => by simp [addL, lok]; omega
  | x :: a, b, c, ha, hb, hc => by
    rw [lok_cons, Bool.and_eq_true, decide_eq_true_eq] at ha
    have h1 := lok_headD (by omega) hb
    rw [addL, lok_cons, Bool.and_eq_true, decide_eq_true_eq]
    refine ⟨Nat.mod_lt _ (by omega), lok_addL hB a _ _ ha.2 (lok_tail hb) ?_⟩
    have : (c + x + b.headD 0) / B < 2 := by rw [Nat.div_lt_iff_lt_mul (by omega)]; omega
    omega
def subL (B : Nat) : List Nat → List Nat → Nat → List Nat
  | [], _, _ => []
  | x :: a, b, c => if x < c + b.headD 0 then (x + B - (c + b.headD 0)) :: subL B a b.tail 1 else (x - (c + b.headD 0)) :: subL B a b.tail 0
theorem lval_subL {B : Nat} (hB : 2 ≤ B) : ∀ (a b : List Nat) (c : Nat), lok B a = true → lok B b = true → c ≤ 1 → b.length ≤ a.length → lval B b + c ≤ lval B a →
    lval B (subL B a b c) + lval B b + c = lval B a ∧ lok B (subL B a b c) = true
  | [], b, c, _, _, _, h, h2 => by
    have : b = [] := List.eq_nil_of_length_eq_zero (by simpa using h)
    subst this
    simp only [lval] at h2
    simp only [subL, lval]
    exact ⟨by omega, rfl⟩
  | x :: a, b, c, ha, hb, hc, h, h2 => by
    have ht : b.tail.length ≤ a.length := by simp at h ⊢; omega
    rw [lok_cons, Bool.and_eq_true, decide_eq_true_eq] at ha
    have h1 := lok_headD (by omega) hb
    have hbt := lok_tail hb
    rw [lval_tail B b] at h2 ⊢
    rw [lval] at h2 ⊢
    unfold subL
    split
    · rename_i hlt
      have h3 : lval B b.tail + 1 ≤ lval B a := by
        have : B * lval B b.tail < B * lval B a := by omega
        have := Nat.lt_of_mul_lt_mul_left this
        omega
      obtain ⟨i1, i2⟩ := lval_subL hB a b.tail 1 ha.2 hbt (by omega) ht h3
      have e : B * lval B a = B * lval B (subL B a b.tail 1) + B * lval B b.tail + B := by rw [← i1, Nat.mul_add, Nat.mul_add, Nat.mul_one]
      rw [lval, lok_cons, i2, Bool.and_true, decide_eq_true_eq, e]
      exact ⟨by omega, by omega⟩
    · rename_i hlt
      have h3 : lval B b.tail + 0 ≤ lval B a := by
        have : B * lval B b.tail < B * lval B a + B := by omega
        rw [← Nat.mul_succ] at this
        have := Nat.lt_of_mul_lt_mul_left this
        omega
      obtain ⟨i1, i2⟩ := lval_subL hB a b.tail 0 ha.2 hbt (by omega) ht h3
      have e : B * lval B a = B * lval B (subL B a b.tail 0) + B * lval B b.tail := by rw [← i1, Nat.mul_add, Nat.mul_add, Nat.mul_zero, Nat.add_zero]
      rw [lval, lok_cons, i2, Bool.and_true, decide_eq_true_eq, e]
      exact ⟨by omega, by omega⟩
def carryL (B : Nat) : List Nat → Nat → List Nat
  | [], _ => []
  | o :: l, c => if c = 0 then o :: l else (c + o) % B :: carryL B l ((c + o) / B)
def rowL (B x : Nat) : List Nat → List Nat → Nat → List Nat
  | o, [], c => carryL B o c
  | [], _ :: _, _ => []
  | o :: l, y :: b, c => (c + (o + x * y)) % B :: rowL B x l b ((c + (o + x * y)) / B)
theorem length_carryL (B : Nat) : ∀ (o : List Nat) (c : Nat), (carryL B o c).length = o.length
  | [], _ => rfl
  | o :: l, c => by
    unfold carryL
    split
    · rfl
    · simp [length_carryL B l]
theorem length_rowL (B x : Nat) : ∀ (o b : List Nat) (c : Nat), (rowL B x o b c).length = o.length
  | o, [], c => by cases o <;> exact length_carryL B _ c
  | [], _ :: _, _ => rfl
  | o :: l, y :: b, c => by simp [rowL, length_rowL B x l b]
theorem lval_carryL {B : Nat} (hB : 2 ≤ B) : ∀ (o : List Nat) (c : Nat), lok B o = true → lval B o + c < B ^ o.length → lval B (carryL B o c) = lval B o + c ∧ lok B (carryL B o c) = true
  | [], c, _, h => by
    simp only [lval, List.length_nil, Nat.pow_zero] at h
    simp only [carryL, lval]
    exact ⟨by omega, rfl⟩
  | o :: l, c, ho, h => by
    unfold carryL
    split
    · rename_i hc; subst hc; exact ⟨by omega, ho⟩
    · rw [lok_cons, Bool.and_eq_true, decide_eq_true_eq] at ho
      have hmd := Nat.mod_add_div (c + o) B
      rw [lval, List.length_cons, Nat.pow_succ, Nat.mul_comm (B ^ l.length)] at h
      have h2 : lval B l + (c + o) / B < B ^ l.length := by
        have : B * (lval B l + (c + o) / B) < B * B ^ l.length := by rw [Nat.mul_add]; omega
        exact Nat.lt_of_mul_lt_mul_left this
      obtain ⟨i1, i2⟩ := lval_carryL hB l _ ho.2 h2
      rw [lval, lval, i1, lok_cons, i2, Nat.mul_add]
      refine ⟨by omega, ?_⟩
      simp [Nat.mod_lt (c + o) (show 0 < B by omega)]
theorem lval_rowL {B : Nat} (hB : 2 ≤ B) (x : Nat) : ∀ (o b : List Nat) (c : Nat), lok B o = true → lval B o + x * lval B b + c < B ^ o.length →
    b.length ≤ o.length → lval B (rowL B x o b c) = lval B o + x * lval B b + c ∧ lok B (rowL B x o b c) = true
  | o, [], c, ho, h, _ => by
    simp only [lval, Nat.mul_zero, Nat.add_zero] at h ⊢
    have : rowL B x o [] c = carryL B o c := by cases o <;> rfl
    rw [this]
    exact lval_carryL hB o c ho h
  | [], y :: b, c, _, _, hl => by simp at hl
  | o :: l, y :: b, c, ho, h, hl => by
    rw [lok_cons, Bool.and_eq_true, decide_eq_true_eq] at ho
    have hmd := Nat.mod_add_div (c + (o + x * y)) B
    have e : x * (y + B * lval B b) = x * y + B * (x * lval B b) := by rw [Nat.mul_add, ← Nat.mul_assoc, ← Nat.mul_assoc, Nat.mul_comm x B]
    rw [lval, lval, e, List.length_cons, Nat.pow_succ, Nat.mul_comm (B ^ l.length)] at h
    have h2 : lval B l + x * lval B b + (c + (o + x * y)) / B < B ^ l.length := by
      have : B * (lval B l + x * lval B b + (c + (o + x * y)) / B) < B * B ^ l.length := by rw [Nat.mul_add, Nat.mul_add]; omega
      exact Nat.lt_of_mul_lt_mul_left this
    obtain ⟨i1, i2⟩ := lval_rowL hB x l b _ ho.2 h2 (by simpa using hl)
    rw [rowL, lval, i1, lok_cons, i2, lval, lval, e, Nat.mul_add, Nat.mul_add]
    refine ⟨by omega, ?_⟩
    simp [Nat.mod_lt (c + (o + x * y)) (show 0 < B by omega)]
def rowsL (B : Nat) : List Nat → List Nat → List Nat → List Nat
  | [], _, o => o
  | x :: a, b, o => match rowL B x o b 0 with
    | [] => []
    | d :: r => d :: rowsL B a b r
theorem lval_rowsL {B : Nat} (hB : 2 ≤ B) : ∀ (a b o : List Nat), lok B o = true → lval B o + lval B a * lval B b < B ^ o.length → a.length + b.length ≤ o.length →
    lval B (rowsL B a b o) = lval B o + lval B a * lval B b ∧ lok B (rowsL B a b o) = true ∧ (rowsL B a b o).length = o.length
  | [], b, o, ho, h, _ => by simp only [rowsL, lval, Nat.zero_mul, Nat.add_zero]; exact ⟨trivial, ho, trivial⟩
  | x :: a, b, o, ho, h, hl => by
    have e : (x + B * lval B a) * lval B b = x * lval B b + B * (lval B a * lval B b) := by rw [Nat.add_mul, Nat.mul_assoc]
    rw [lval, e] at h
    have hl' : a.length + 1 + b.length ≤ o.length := by simpa using hl
    obtain ⟨r1, r2⟩ := lval_rowL hB x o b 0 ho (by omega) (by omega)
    have r3 := length_rowL B x o b 0
    unfold rowsL
    split
    · rename_i hr; rw [hr] at r3; simp at r3; omega
    · rename_i d r hr
      rw [hr] at r1 r2 r3
      rw [lok_cons, Bool.and_eq_true, decide_eq_true_eq] at r2
      simp only [List.length_cons] at r3
      rw [lval] at r1
      have h2 : lval B r + lval B a * lval B b < B ^ r.length := by
        have : B * (lval B r + lval B a * lval B b) < B * B ^ r.length := by
          rw [Nat.mul_comm B (B ^ r.length), ← Nat.pow_succ, show r.length.succ = o.length from r3, Nat.mul_add]; omega
        exact Nat.lt_of_mul_lt_mul_left this
      obtain ⟨i1, i2, i3⟩ := lval_rowsL hB a b r r2.2 h2 (by omega)
      rw [lval, i1, lok_cons, i2, List.length_cons, i3, lval, e, Nat.mul_add]
      exact ⟨by omega, by simp [r2.1], r3⟩
theorem lval_times {B : Nat} (hB : 2 ≤ B) {a b : List Nat} (ha : lok B a = true) (hb : lok B b = true) :
    lval B (rowsL B a b (List.replicate (a.length + b.length + 1) 0)) = lval B a * lval B b ∧ lok B (rowsL B a b (List.replicate (a.length + b.length + 1) 0)) = true ∧
      (rowsL B a b (List.replicate (a.length + b.length + 1) 0)).length = a.length + b.length + 1 := by
  have hz : ∀ n, lval B (List.replicate n 0) = 0 := by
    intro n
    induction n with
    | zero => rfl
    | succ n ih => rw [List.replicate_succ, lval, ih]; simp
  have hzo : ∀ n, lok B (List.replicate n 0) = true := by
    intro n
    unfold lok
    rw [List.all_eq_true]
    intro d hd
    rw [List.mem_replicate] at hd
    simp [hd.2]; omega
  have h : lval B a * lval B b < B ^ (a.length + b.length + 1) := by
    have h1 := lval_lt ha
    have h2 := lval_lt hb
    have h3 : lval B a * lval B b < B ^ a.length * B ^ b.length := Nat.mul_lt_mul_of_lt_of_lt h1 h2
    rw [← Nat.pow_add] at h3
    have h4 : B ^ (a.length + b.length) ≤ B ^ (a.length + b.length + 1) := Nat.pow_le_pow_right (by omega) (by omega)
    omega
  have := lval_rowsL hB a b (List.replicate (a.length + b.length + 1) 0) (hzo _) (by rw [hz, Nat.zero_add, List.length_replicate]; exact h) (by rw [List.length_replicate]; omega)
  rwa [hz, Nat.zero_add, List.length_replicate] at this
def divL (B d : Nat) : List Nat → List Nat × Nat
  | [] => ([], 0)
  | x :: l => let p := divL B d l; ((p.2 * B + x) / d :: p.1, (p.2 * B + x) % d)
theorem divL_spec {B d : Nat} (hd : 0 < d) (hdB : d < B) : ∀ l : List Nat, lok B l = true → (divL B d l).2 < d ∧ lval B (divL B d l).1 * d + (divL B d l).2 = lval B l ∧ lok B (divL B d l).1 = true ∧ (divL B d l).1.length = l.length
  | [], _ => by simp [divL, lval, lok, hd]
  | x :: l, h => by
    rw [lok_cons, Bool.and_eq_true, decide_eq_true_eq] at h
    obtain ⟨i1, i2, i3, i4⟩ := divL_spec hd hdB l h.2
    simp only [divL]
    have hmd := Nat.mod_add_div ((divL B d l).2 * B + x) d
    refine ⟨Nat.mod_lt _ hd, ?_, ?_, by simp [i4]⟩
    · rw [lval, lval, ← i2, Nat.add_mul, Nat.mul_add]
      rw [Nat.mul_comm d] at hmd
      rw [Nat.mul_assoc, Nat.mul_comm B (divL B d l).2]
      omega
    · rw [lok_cons, Bool.and_eq_true, decide_eq_true_eq]
      refine ⟨?_, i3⟩
      rw [Nat.div_lt_iff_lt_mul hd]
      have h3 : ((divL B d l).2 + 1) * B ≤ d * B := Nat.mul_le_mul_right _ i1
      rw [Nat.add_mul] at h3
      rw [Nat.mul_comm B d]
      omega
theorem guess_le {p D top r b q : Nat} (hr : r < (D + 1) * p) (hb : top * p ≤ b) (hq : q * b ≤ r) (ht : 0 < top) : q ≤ D / top := by
  rw [Nat.le_div_iff_mul_le ht]
  have h1 : q * (top * p) ≤ q * b := Nat.mul_le_mul_left _ hb
  have h2 : (q * top) * p < (D + 1) * p := by rw [Nat.mul_assoc]; omega
  have := Nat.lt_of_mul_lt_mul_right h2
  omega
end Go.Eng
namespace Go.Eng
def rowK (B x : Nat) : List Nat → List Nat → Nat → List Nat × Nat
  | o, [], c => (o, c)
  | [], _ :: _, c => ([], c)
  | o :: l, y :: b, c => ((c + (o + x * y)) % B :: (rowK B x l b ((c + (o + x * y)) / B)).1, (rowK B x l b ((c + (o + x * y)) / B)).2)
theorem rowK_nil (B x : Nat) (o : List Nat) (c : Nat) : rowK B x o [] c = (o, c) := by cases o <;> rfl
theorem rowK_length (B x : Nat) : ∀ (o b : List Nat) (c : Nat), (rowK B x o b c).1.length = o.length
  | o, [], c => by rw [rowK_nil]
  | [], _ :: _, _ => rfl
  | o :: l, y :: b, c => by simp [rowK, rowK_length B x l b]
theorem rowL_eq (B x : Nat) : ∀ (o b : List Nat) (c : Nat), b.length ≤ o.length → rowL B x o b c = (rowK B x o b c).1.take b.length ++ carryL B ((rowK B x o b c).1.drop b.length) (rowK B x o b c).2
  | o, [], c, _ => by rw [rowK_nil]; cases o <;> rfl
  | [], _ :: _, _, h => by simp at h
  | o :: l, y :: b, c, h => by
    rw [rowL, rowK, rowL_eq B x l b _ (by simpa using h)]
    simp
theorem rowK_spec {B : Nat} (hB : 2 ≤ B) {x : Nat} (hx : x < B) : ∀ (o b : List Nat) (c : Nat), lok B o = true → lok B b = true → c < B → b.length ≤ o.length →
    lok B (rowK B x o b c).1 = true ∧ (rowK B x o b c).2 < B ∧ lval B (rowK B x o b c).1 + B ^ b.length * (rowK B x o b c).2 = lval B o + x * lval B b + c
  | o, [], c, ho, _, hc, _ => by
    rw [rowK_nil]
    simp only [lval, List.length_nil, Nat.pow_zero, Nat.mul_zero, Nat.one_mul]
    exact ⟨ho, hc, by omega⟩
  | [], _ :: _, _, _, _, _, h => by simp at h
  | o :: l, y :: b, c, ho, hb, hc, h => by
    rw [lok_cons, Bool.and_eq_true, decide_eq_true_eq] at ho hb
    have hxy : x * y ≤ (B - 1) * (B - 1) := Nat.mul_le_mul (by omega) (by omega)
    have hs : (c + (o + x * y)) / B < B := by
      rw [Nat.div_lt_iff_lt_mul (by omega)]
      obtain ⟨q, rfl⟩ : ∃ q, B = q + 1 := ⟨B - 1, by omega⟩
      have e1 : (q + 1) * (q + 1) = q * q + q + q + 1 := by rw [Nat.add_mul, Nat.mul_add]; omega
      simp only [Nat.add_sub_cancel] at hxy
      omega
    obtain ⟨i1, i2, i3⟩ := rowK_spec hB hx l b _ ho.2 hb.2 hs (by simpa using h)
    have hmd := Nat.mod_add_div (c + (o + x * y)) B
    have e : x * (y + B * lval B b) = x * y + B * (x * lval B b) := by rw [Nat.mul_add, ← Nat.mul_assoc, ← Nat.mul_assoc, Nat.mul_comm x B]
    have e2 : B ^ (b.length + 1) * (rowK B x l b ((c + (o + x * y)) / B)).2 = B * (B ^ b.length * (rowK B x l b ((c + (o + x * y)) / B)).2) := by
      rw [Nat.pow_succ, Nat.mul_comm (B ^ b.length) B, Nat.mul_assoc]
    simp only [rowK]
    refine ⟨?_, i2, ?_⟩
    · rw [lok_cons, i1]; simp [Nat.mod_lt (c + (o + x * y)) (show 0 < B by omega)]
    · rw [lval, lval, lval, e, List.length_cons, e2]
      have := congrArg (B * ·) i3
      simp only [Nat.mul_add] at this
      omega
theorem carryL_zero (B : Nat) (l : List Nat) : carryL B l 0 = l := by cases l <;> simp [carryL]
theorem lval_split (B : Nat) {l : List Nat} {n : Nat} (hn : n ≤ l.length) : lval B l = lval B (l.take n) + B ^ n * lval B (l.drop n) := by
  conv => lhs; rw [← List.take_append_drop n l]
  rw [lval_append, List.length_take, Nat.min_eq_left hn]
theorem guess_ok {B r b m D top : Nat} (hB : 2 ≤ B) (hm : (dig B b).length = m) (hm1 : 1 ≤ m) (htop : (dig B b)[m - 1]? = some top) (hr : r < B * b) (hbr : b ≤ r)
    (hD : ((dig B r).length = m ∧ (dig B r)[m - 1]? = some D) ∨ ((dig B r).length = m + 1 ∧ ∃ h l, (dig B r)[m]? = some h ∧ (dig B r)[m - 1]? = some l ∧ D = h * B + l)) :
    0 < top ∧ r / b ≤ D / top ∧ r / b ≤ B - 1 := by
  have hb := lval_dig hB b
  have hbo := lok_dig hB b
  have hrv := lval_dig hB r
  have hro := lok_dig hB r
  have hlt : m - 1 < (dig B b).length := by omega
  have ht : (dig B b)[m - 1] = top := (List.getElem?_eq_some_iff.1 htop).2
  have hb2 : b = lval B ((dig B b).take (m - 1)) + B ^ (m - 1) * top := by
    have := lval_split B (l := dig B b) (n := m - 1) (by omega)
    rw [hb, List.drop_eq_getElem_cons hlt, ht, List.drop_of_length_le (by omega)] at this
    simpa [lval] using this
  have htp : 0 < top := by
    rcases Nat.eq_zero_or_pos top with h | h
    · have h1 := ltrim_dig hB b
      have h2 : ltrim (dig B b) = ltrim ((dig B b).take (m - 1)) := by
        conv => lhs; rw [← List.take_append_drop (m - 1) (dig B b), List.drop_eq_getElem_cons hlt, ht, List.drop_of_length_le (by omega), h]
        exact ltrim_snoc_zero _
      have h3 := ltrim_length_le ((dig B b).take (m - 1))
      rw [← h2, h1, List.length_take] at h3
      omega
    · exact h
  have hbp : 0 < b := by
    rcases Nat.eq_zero_or_pos b with h | h
    · subst h; simp at hr
    · exact h
  have hq : r / b * b ≤ r := Nat.div_mul_le_self r b
  have hbtop : top * B ^ (m - 1) ≤ b := by rw [Nat.mul_comm]; omega
  have hrD : r < (D + 1) * B ^ (m - 1) := by
    rcases hD with ⟨h1, h2⟩ | ⟨h1, h, l, h2, h3, rfl⟩
    · have hl : m - 1 < (dig B r).length := by omega
      have e := lval_split B (l := dig B r) (n := m - 1) (by omega)
      rw [hrv, List.drop_eq_getElem_cons hl, (List.getElem?_eq_some_iff.1 h2).2, List.drop_of_length_le (by omega)] at e
      have h4 := lval_lt (lok_take hro (m - 1))
      rw [List.length_take, Nat.min_eq_left (by omega)] at h4
      simp [lval] at e
      rw [Nat.add_mul, Nat.one_mul, Nat.mul_comm D]
      omega
    · have hl : m - 1 < (dig B r).length := by omega
      have hl2 : m - 1 + 1 < (dig B r).length := by omega
      have hm' : m - 1 + 1 = m := by omega
      have e := lval_split B (l := dig B r) (n := m - 1) (by omega)
      rw [hrv, List.drop_eq_getElem_cons hl, (List.getElem?_eq_some_iff.1 h3).2, List.drop_eq_getElem_cons hl2, List.drop_of_length_le (by omega)] at e
      have e5 : (dig B r)[m - 1 + 1] = h := by
        have := (List.getElem?_eq_some_iff.1 h2).2
        simp only [hm']
        exact this
      rw [e5] at e
      have h4 := lval_lt (lok_take hro (m - 1))
      rw [List.length_take, Nat.min_eq_left (by omega)] at h4
      simp only [lval, Nat.mul_zero, Nat.add_zero] at e
      rw [Nat.mul_add] at e
      have e6 : (h * B + l + 1) * B ^ (m - 1) = B ^ (m - 1) * l + B ^ (m - 1) * (B * h) + B ^ (m - 1) := by
        rw [Nat.add_mul, Nat.add_mul, Nat.one_mul, Nat.mul_comm (h * B), Nat.mul_comm l, Nat.mul_comm h B]; omega
      omega
  refine ⟨htp, guess_le hrD hbtop hq htp, ?_⟩
  have : r / b < B := by rw [Nat.div_lt_iff_lt_mul hbp]; exact hr
  omega
theorem dig_length_bounds {B r b m : Nat} (hB : 2 ≤ B) (hm : (dig B b).length = m) (hr : r < B * b) (hbr : b ≤ r) : (dig B r).length = m ∨ (dig B r).length = m + 1 := by
  have h1 : m ≤ (dig B r).length := by
    rcases Nat.lt_or_ge (dig B r).length m with h | h
    · have := dig_length_lt hB (m := r) (n := b) (by omega); omega
    · exact h
  have h2 : r < B ^ (m + 1) := by
    have := dig_lt_pow hB b
    rw [hm] at this
    rw [Nat.pow_succ, Nat.mul_comm]
    exact Nat.lt_of_lt_of_le hr (Nat.mul_le_mul_left _ (by omega))
  have := dig_length_le_of_lt hB h2
  omega
theorem cons_dig {B a r : Nat} (hB : 2 ≤ B) (ha : a < B) : ltrim (a :: dig B r) = dig B (a + B * r) := by
  rw [← dig_lval hB (show lok B (a :: dig B r) = true by rw [lok_cons, lok_dig hB]; simp [ha]), lval, lval_dig hB]
end Go.Eng
namespace Go.Eng
def chunksF : Nat → List UInt8 → List Nat
  | 0, _ => []
  | f + 1, s => if s = [] then [] else valD (s.drop (s.length - 9)) :: chunksF f (s.take (s.length - 9))
def chunks (s : List UInt8) : List Nat := chunksF s.length s
theorem chunksF_eq : ∀ (f g : Nat) (s : List UInt8), s.length ≤ f → s.length ≤ g → chunksF f s = chunksF g s
  | 0, 0, s, _, _ => rfl
  | 0, g + 1, s, h, _ => by
    have : s = [] := List.eq_nil_of_length_eq_zero (by omega)
    subst this; simp [chunksF]
  | f + 1, 0, s, _, h => by
    have : s = [] := List.eq_nil_of_length_eq_zero (by omega)
    subst this; simp [chunksF]
  | f + 1, g + 1, s, h1, h2 => by
    unfold chunksF
    by_cases hs : s = []
    · simp [hs]
    · have : 0 < s.length := List.length_pos_iff.2 hs
      rw [if_neg hs, if_neg hs, chunksF_eq f g (s.take (s.length - 9)) (by simp; omega) (by simp; omega)]
theorem chunks_nil : chunks [] = [] := rfl
theorem chunks_pos {s : List UInt8} (h : s ≠ []) : chunks s = valD (s.drop (s.length - 9)) :: chunks (s.take (s.length - 9)) := by
  have hp : 0 < s.length := List.length_pos_iff.2 h
  unfold chunks
  obtain ⟨f, hf⟩ : ∃ f, s.length = f + 1 := ⟨s.length - 1, by omega⟩
  have e : chunksF s.length s = chunksF (f + 1) s := by rw [hf]
  rw [e, chunksF, if_neg h]
  congr 1
  exact chunksF_eq _ _ _ (by simp; omega) (by simp)
theorem valF_split (l : List UInt8) (a : Nat) : valF a l = a * 10 ^ l.length + valD l := by
  induction l generalizing a with
  | nil => unfold valD; rw [valF_nil, valF_nil]; simp
  | cons c r ih =>
    unfold valD
    rw [valF_cons, valF_cons, ih, ih (10 * 0 + _), List.length_cons, Nat.pow_succ]
    generalize 10 ^ r.length = p
    have : (10 * a + (c.toNat - 48)) * p = a * (p * 10) + (c.toNat - 48) * p := by rw [Nat.add_mul, Nat.mul_comm 10 a, Nat.mul_assoc, Nat.mul_comm 10 p]
    rw [this, Nat.mul_zero, Nat.zero_add]
    omega
theorem valD_append (l r : List UInt8) : valD (l ++ r) = valD l * 10 ^ r.length + valD r := by
  unfold valD
  rw [valF_append, valF_split]; rfl
theorem valD_lt {l : List UInt8} (h : l.all isD = true) : valD l < 10 ^ l.length := by
  have := valF_lt_pow l 0 h
  unfold valD
  omega
theorem all_drop {s : List UInt8} (h : s.all isD = true) (k : Nat) : (s.drop k).all isD = true := by
  rw [List.all_eq_true] at h ⊢
  exact fun c hc => h c (List.mem_of_mem_drop hc)
theorem all_take {s : List UInt8} (h : s.all isD = true) (k : Nat) : (s.take k).all isD = true := by
  rw [List.all_eq_true] at h ⊢
  exact fun c hc => h c (List.mem_of_mem_take hc)
theorem chunk_lt {s : List UInt8} (h : s.all isD = true) : valD (s.drop (s.length - 9)) < 1000000000 := by
  have h1 := valD_lt (all_drop h (s.length - 9))
  have h2 : (s.drop (s.length - 9)).length ≤ 9 := by simp; omega
  have h3 : 10 ^ (s.drop (s.length - 9)).length ≤ 10 ^ 9 := Nat.pow_le_pow_right (by omega) h2
  omega
theorem chunks_spec : ∀ (n : Nat) (s : List UInt8), s.length ≤ n → s.all isD = true → lok 1000000000 (chunks s) = true ∧ lval 1000000000 (chunks s) = valD s ∧ (chunks s).length ≤ s.length
  | 0, s, hn, _ => by
    have : s = [] := List.eq_nil_of_length_eq_zero (by omega)
    subst this
    exact ⟨rfl, by unfold valD; rw [valF_nil]; rfl, Nat.le_refl _⟩
  | n + 1, s, hn, h => by
    by_cases hs : s = []
    · subst hs; exact ⟨rfl, by unfold valD; rw [valF_nil]; rfl, Nat.le_refl _⟩
    · have hp : 0 < s.length := List.length_pos_iff.2 hs
      rw [chunks_pos hs]
      obtain ⟨i1, i2, i3⟩ := chunks_spec n (s.take (s.length - 9)) (by simp; omega) (all_take h _)
      have hv : valD s = valD (s.take (s.length - 9)) * 10 ^ (s.drop (s.length - 9)).length + valD (s.drop (s.length - 9)) := by
        conv => lhs; rw [← List.take_append_drop (s.length - 9) s]
        exact valD_append _ _
      refine ⟨?_, ?_, ?_⟩
      · rw [lok_cons, i1]; simp [chunk_lt h]
      · rw [lval, i2, hv]
        by_cases h9 : s.length ≤ 9
        · have e : s.length - 9 = 0 := by omega
          rw [e, List.take_zero]
          have : valD [] = 0 := by unfold valD; rw [valF_nil]
          rw [this]; omega
        · have e : (s.drop (s.length - 9)).length = 9 := by simp; omega
          rw [e]; omega
      · rw [List.length_cons]
        have : (s.take (s.length - 9)).length = s.length - 9 := by simp
        omega
end Go.Eng
namespace Go.Eng
def padW (w x : Nat) : List UInt8 := List.replicate (w - (natD x).length) 48 ++ natD x
theorem valF_zeros (k : Nat) (r : List UInt8) : valF 0 (List.replicate k 48 ++ r) = valF 0 r := by
  induction k with
  | zero => rfl
  | succ k ih =>
    rw [List.replicate_succ, List.cons_append, valF_cons]
    exact ih
theorem valD_padW (w x : Nat) : valD (padW w x) = x := by
  unfold padW valD
  rw [valF_zeros]
  exact valD_natD x
theorem padW_all (w x : Nat) : (padW w x).all isD = true := by
  unfold padW
  rw [List.all_append, natD_all, Bool.and_true, List.all_eq_true]
  intro c hc
  rw [(List.mem_replicate.1 hc).2]; rfl
theorem padW_length {w x : Nat} (hw : 0 < w) (hx : x < 10 ^ w) : (padW w x).length = w := by
  have := natD_length_le hw hx
  unfold padW
  simp only [List.length_append, List.length_replicate]
  omega
theorem canonN_append {v : Nat} (hv : 0 < v) {t : List UInt8} (ht : t.all isD = true) : canonN (natD v ++ t) = true := by
  have h1 := natD_all v
  have h2 := natD_ne v
  have h3 := natD_head v hv
  cases hl : natD v with
  | nil => exact absurd hl h2
  | cons c r =>
    rw [hl] at h1 h3
    simp only [List.all_cons, Bool.and_eq_true] at h1
    simp only [List.head?_cons, ne_eq, Option.some.injEq] at h3
    simp only [List.cons_append, canonN, List.all_append, h1.1, h1.2, ht]
    simp [h3]
theorem natD_pad {w x v : Nat} (hw : 0 < w) (hx : x < 10 ^ w) (hv : 0 < v) : natD (x + 10 ^ w * v) = natD v ++ padW w x := by
  have h := natD_valD (canonN_append hv (padW_all w x))
  rw [valD_append, valD_natD, valD_padW, padW_length hw hx] at h
  rw [← h, Nat.mul_comm, Nat.add_comm]
theorem natD_lead {w x : Nat} (hw : 0 < w) (hx : x < 10 ^ w) : (natD (10 ^ w + x)).drop 1 = padW w x := by
  have := natD_pad hw hx (v := 1) (by omega)
  rw [Nat.mul_one, Nat.add_comm] at this
  rw [this]
  rfl
theorem lval_drop {B : Nat} {l : List Nat} {j d : Nat} (h : l[j]? = some d) : lval B (l.drop j) = d + B * lval B (l.drop (j + 1)) := by
  have hj := (List.getElem?_eq_some_iff.1 h)
  obtain ⟨hj, rfl⟩ := hj
  rw [List.drop_eq_getElem_cons hj]; rfl
theorem lval_drop_pos {B n : Nat} (hB : 2 ≤ B) {j : Nat} (hj : j < (dig B n).length) : 0 < lval B ((dig B n).drop j) := by
  rcases Nat.eq_zero_or_pos (lval B ((dig B n).drop j)) with h | h
  · exfalso
    have h1 := dig_lval hB (lok_drop (lok_dig hB n) j)
    rw [h, dig_zero] at h1
    have h2 : ltrim (dig B n) = (dig B n) := ltrim_dig hB n
    have h3 := lval_split B (l := dig B n) (n := j) (by omega)
    rw [h, Nat.mul_zero, Nat.add_zero, lval_dig hB] at h3
    have h4 := lval_lt (lok_take (lok_dig hB n) j)
    rw [← h3, List.length_take, Nat.min_eq_left (by omega)] at h4
    have h5 := dig_length_le_of_lt hB h4
    omega
  · exact h
end Go.Eng
namespace Go.Eng
def chunksG : Nat → List UInt8 → List Nat
  | 0, _ => []
  | f + 1, s => if s = [] then [] else valD (s.drop (s.length - 4)) :: chunksG f (s.take (s.length - 4))
def chunks4 (s : List UInt8) : List Nat := chunksG s.length s
theorem chunksG_eq : ∀ (f g : Nat) (s : List UInt8), s.length ≤ f → s.length ≤ g → chunksG f s = chunksG g s
  | 0, 0, s, _, _ => rfl
  | 0, g + 1, s, h, _ => by
    have : s = [] := List.eq_nil_of_length_eq_zero (by omega)
    subst this; simp [chunksG]
  | f + 1, 0, s, _, h => by
    have : s = [] := List.eq_nil_of_length_eq_zero (by omega)
    subst this; simp [chunksG]
  | f + 1, g + 1, s, h1, h2 => by
    unfold chunksG
    by_cases hs : s = []
    · simp [hs]
    · have : 0 < s.length := List.length_pos_iff.2 hs
      rw [if_neg hs, if_neg hs, chunksG_eq f g (s.take (s.length - 4)) (by simp; omega) (by simp; omega)]
theorem chunks4_nil : chunks4 [] = [] := rfl
theorem chunks4_pos {s : List UInt8} (h : s ≠ []) : chunks4 s = valD (s.drop (s.length - 4)) :: chunks4 (s.take (s.length - 4)) := by
  have hp : 0 < s.length := List.length_pos_iff.2 h
  unfold chunks4
  obtain ⟨f, hf⟩ : ∃ f, s.length = f + 1 := ⟨s.length - 1, by omega⟩
  have e : chunksG s.length s = chunksG (f + 1) s := by rw [hf]
  rw [e, chunksG, if_neg h]
  congr 1
  exact chunksG_eq _ _ _ (by simp; omega) (by simp)
theorem chunk4_lt {s : List UInt8} (h : s.all isD = true) : valD (s.drop (s.length - 4)) < 10000 := by
  have h1 := valD_lt (all_drop h (s.length - 4))
  have h2 : (s.drop (s.length - 4)).length ≤ 4 := by simp; omega
  have h3 : 10 ^ (s.drop (s.length - 4)).length ≤ 10 ^ 4 := Nat.pow_le_pow_right (by omega) h2
  omega
theorem chunks4_spec : ∀ (n : Nat) (s : List UInt8), s.length ≤ n → s.all isD = true → lok 10000 (chunks4 s) = true ∧ lval 10000 (chunks4 s) = valD s ∧ (chunks4 s).length ≤ s.length
  | 0, s, hn, _ => by
    have : s = [] := List.eq_nil_of_length_eq_zero (by omega)
    subst this
    exact ⟨rfl, by unfold valD; rw [valF_nil]; rfl, Nat.le_refl _⟩
  | n + 1, s, hn, h => by
    by_cases hs : s = []
    · subst hs; exact ⟨rfl, by unfold valD; rw [valF_nil]; rfl, Nat.le_refl _⟩
    · have hp : 0 < s.length := List.length_pos_iff.2 hs
      rw [chunks4_pos hs]
      obtain ⟨i1, i2, i3⟩ := chunks4_spec n (s.take (s.length - 4)) (by simp; omega) (all_take h _)
      have hv : valD s = valD (s.take (s.length - 4)) * 10 ^ (s.drop (s.length - 4)).length + valD (s.drop (s.length - 4)) := by
        conv => lhs; rw [← List.take_append_drop (s.length - 4) s]
        exact valD_append _ _
      refine ⟨?_, ?_, ?_⟩
      · rw [lok_cons, i1]; simp [chunk4_lt h]
      · rw [lval, i2, hv]
        by_cases h4 : s.length ≤ 4
        · have e : s.length - 4 = 0 := by omega
          rw [e, List.take_zero]
          have : valD [] = 0 := by unfold valD; rw [valF_nil]
          rw [this]; omega
        · have e : (s.drop (s.length - 4)).length = 4 := by simp; omega
          rw [e]; omega
      · rw [List.length_cons]
        have : (s.take (s.length - 4)).length = s.length - 4 := by simp
        omega
end Go.Eng
namespace Go.Eng
def zval (B : Int) : List Int → Int
  | [] => 0
  | d :: l => d + B * zval B l
theorem zval_append (B : Int) : ∀ (l r : List Int), zval B (l ++ r) = zval B l + B ^ l.length * zval B r
  | [], r => by simp [zval]
  | d :: l, r => by
    rw [List.cons_append, zval, zval, zval_append B l r, List.length_cons, Int.pow_succ, Int.mul_add, Int.add_assoc]
    congr 2
    rw [← Int.mul_assoc, Int.mul_comm (B ^ l.length) B]
theorem zval_drop {B : Int} {l : List Int} {j : Nat} {d : Int} (h : l[j]? = some d) : zval B (l.drop j) = d + B * zval B (l.drop (j + 1)) := by
  obtain ⟨hj, rfl⟩ := List.getElem?_eq_some_iff.1 h
  rw [List.drop_eq_getElem_cons hj]; rfl
def natZ (l : List Nat) : List Int := l.map fun n : Nat => (n : Int)
theorem zval_natZ (B : Nat) : ∀ l : List Nat, zval B (natZ l) = (lval B l : Int)
  | [] => rfl
  | d :: l => by
    show (d : Int) + B * zval B (natZ l) = ((d + B * lval B l : Nat) : Int)
    rw [zval_natZ B l]; simp
theorem zval_replicate_zero (B : Int) : ∀ n, zval B (List.replicate n 0) = 0
  | 0 => rfl
  | n + 1 => by rw [List.replicate_succ, zval, zval_replicate_zero B n]; simp
theorem zval_set {B : Int} : ∀ {l : List Int} {j : Nat} {d : Int} (x : Int), l[j]? = some d → zval B (l.set j x) = zval B l + B ^ j * (x - d)
  | [], _, _, _, h => by simp at h
  | c :: l, 0, d, x, h => by
    simp only [List.getElem?_cons_zero, Option.some.injEq] at h
    subst h
    simp only [List.set_cons_zero, zval, Int.pow_zero, Int.one_mul]
    omega
  | c :: l, j + 1, d, x, h => by
    simp only [List.getElem?_cons_succ] at h
    simp only [List.set_cons_succ, zval]
    rw [zval_set x h, Int.pow_succ, Int.mul_add, Int.mul_comm (B ^ j) B, Int.mul_assoc]
    omega
theorem tmod_neg_fix (s : Int) : (if s.tmod 10000 < 0 then s.tmod 10000 + 10000 else s.tmod 10000) = s % 10000 := by
  rw [Int.tmod_eq_emod]
  split <;> split <;> omega
theorem tdiv_fix (s : Int) : (s - s % 10000).tdiv 10000 = s / 10000 := by
  have h : s - s % 10000 = 10000 * (s / 10000) := by omega
  rw [h, Int.mul_comm, Int.mul_tdiv_cancel _ (by omega)]
structure CarryI (A : List Int) (i : Nat) (over : Int) (out : List Nat) : Prop where
  len : out.length = i
  ok : lok 10000 out = true
  val : (lval 10000 out : Int) + 10000 ^ i * (zval 10000 (A.drop i) + over) = zval 10000 A
  b1 : over.natAbs ≤ 1000000000000
  b2 : i + over.natAbs ≤ A.length + 1000000000000
theorem CarryI.start (A : List Int) : CarryI A 0 0 [] := ⟨rfl, rfl, by simp [lval], by simp, by simp⟩
theorem carry_val {A : List Int} {i : Nat} {over s : Int} {out : List Nat} (h : CarryI A i over out) (hs : zval 10000 (A.drop i) + over = s + 10000 * zval 10000 (A.drop (i + 1))) :
    (lval 10000 (out ++ [(s % 10000).toNat]) : Int) + 10000 ^ (i + 1) * (zval 10000 (A.drop (i + 1)) + s / 10000) = zval 10000 A := by
  rw [← h.val, hs, lval_snoc, h.len]
  have h1 : ((s % 10000).toNat : Int) = s % 10000 := Int.toNat_of_nonneg (by omega)
  rw [Int.natCast_add, Int.natCast_mul, h1, Int.natCast_pow]
  have h2 : s = s % 10000 + 10000 * (s / 10000) := by omega
  have h3 : (10000 : Int) ^ (i + 1) = 10000 ^ i * 10000 := Int.pow_succ ..
  rw [h3]
  generalize (10000 : Int) ^ i = p
  generalize zval 10000 (A.drop (i + 1)) = z
  generalize s % 10000 = m at h2
  generalize s / 10000 = q at h2
  subst h2
  grind
theorem CarryI.ok_snoc {A : List Int} {i : Nat} {over : Int} {out : List Nat} (h : CarryI A i over out) (s : Int) : lok 10000 (out ++ [(s % 10000).toNat]) = true := by
  rw [lok_append, h.ok]
  have : (s % 10000).toNat < 10000 := by omega
  simp [lok, this]
theorem CarryI.next {A : List Int} {i : Nat} {over d : Int} {out : List Nat} (h : CarryI A i over out) (hd : A[i]? = some d) (hb : d.natAbs ≤ 1000000000000) :
    CarryI A (i + 1) ((over + d) / 10000) (out ++ [((over + d) % 10000).toNat]) := by
  have hi := (List.getElem?_eq_some_iff.1 hd).1
  have := h.b1
  refine ⟨by simp [h.len], h.ok_snoc _, carry_val h ?_, by omega, by omega⟩
  rw [zval_drop hd]; omega
theorem CarryI.over {A : List Int} {i : Nat} {over : Int} {out : List Nat} (h : CarryI A i over out) (hi : A.length ≤ i) (hA : 0 ≤ zval 10000 A) : 0 ≤ over := by
  have hd : A.drop i = [] := List.drop_of_length_le hi
  have hv := h.val
  rw [hd] at hv
  have hz : zval 10000 [] = 0 := rfl
  rw [hz, Int.zero_add] at hv
  have hl := lval_lt h.ok
  rw [h.len] at hl
  have hl' : (lval 10000 out : Int) < 10000 ^ i := by
    have : ((10000 ^ i : Nat) : Int) = (10000 : Int) ^ i := Int.natCast_pow ..
    rw [← this]; omega
  rcases Int.lt_or_le over 0 with h0 | h0
  · exfalso
    have hp : (0 : Int) < 10000 ^ i := Int.pow_pos (by omega)
    generalize (10000 : Int) ^ i = p at *
    have : p * over ≤ p * (-1) := Int.mul_le_mul_of_nonneg_left (by omega) (by omega)
    omega
  · exact h0
theorem CarryI.more {A : List Int} {i : Nat} {over : Int} {out : List Nat} (h : CarryI A i over out) (hi : A.length ≤ i) (hA : 0 ≤ zval 10000 A) (ho : over ≠ 0) :
    CarryI A (i + 1) (over / 10000) (out ++ [(over % 10000).toNat]) := by
  have h0 := h.over hi hA
  have := h.b1
  have := h.b2
  have hd : A.drop i = [] := List.drop_of_length_le hi
  have hd2 : A.drop (i + 1) = [] := List.drop_of_length_le (by omega)
  refine ⟨by simp [h.len], h.ok_snoc _, carry_val h ?_, by omega, by omega⟩
  rw [hd, hd2]
  show 0 + over = over + 10000 * 0
  omega
theorem CarryI.done {A : List Int} {i : Nat} {out : List Nat} (h : CarryI A i 0 out) (hi : A.length ≤ i) : ltrim out = dig 10000 (zval 10000 A).toNat := by
  have hd : A.drop i = [] := List.drop_of_length_le hi
  have hv := h.val
  rw [hd] at hv
  have hz : zval 10000 [] = 0 := rfl
  rw [hz, Int.zero_add, Int.mul_zero, Int.add_zero] at hv
  rw [← hv, Int.toNat_natCast, dig_lval (by omega) h.ok]
def jn (k : Int) : List Nat → List Nat → List Int
  | a, [] => natZ a
  | [], b :: bs => (k * (b : Int)) :: jn k [] bs
  | a :: as, b :: bs => ((a : Int) + k * (b : Int)) :: jn k as bs
theorem jn_nil (k : Int) (a : List Nat) : jn k a [] = natZ a := by cases a <;> rfl
theorem zval_jn (k : Int) : ∀ (a b : List Nat), zval 10000 (jn k a b) = (lval 10000 a : Int) + k * (lval 10000 b : Int)
  | a, [] => by
    rw [jn_nil]
    have := zval_natZ 10000 a
    rw [show ((10000 : Nat) : Int) = 10000 from rfl] at this
    rw [this]; simp [lval]
  | [], b :: bs => by
    rw [jn, zval, zval_jn k [] bs]
    simp only [lval, Int.natCast_add, Int.natCast_mul]
    show k * (b : Int) + 10000 * (((0 : Nat) : Int) + k * (lval 10000 bs : Int)) = ((0 : Nat) : Int) + k * ((b : Int) + (10000 : Int) * (lval 10000 bs : Int))
    grind
  | a :: as, b :: bs => by
    rw [jn, zval, zval_jn k as bs, lval, lval, Int.natCast_add, Int.natCast_mul, Int.natCast_add, Int.natCast_mul]
    show (a : Int) + k * (b : Int) + 10000 * ((lval 10000 as : Int) + k * (lval 10000 bs : Int)) = (a : Int) + (10000 : Int) * (lval 10000 as : Int) + k * ((b : Int) + (10000 : Int) * (lval 10000 bs : Int))
    grind
theorem jn_length (k : Int) : ∀ (a b : List Nat), (jn k a b).length = max a.length b.length
  | a, [] => by rw [jn_nil]; simp [natZ]
  | [], b :: bs => by rw [jn, List.length_cons, jn_length k [] bs]; simp
  | a :: as, b :: bs => by rw [jn, List.length_cons, jn_length k as bs]; simp only [List.length_cons]; omega
theorem jn_bound {k : Int} (hk : k.natAbs ≤ 10000) : ∀ {a b : List Nat}, lok 10000 a = true → lok 10000 b = true → ∀ d ∈ jn k a b, d.natAbs ≤ 1000000000
  | a, [], ha, _, d, hd => by
    rw [jn_nil] at hd
    simp only [natZ, List.mem_map] at hd
    obtain ⟨x, hx, rfl⟩ := hd
    have := List.all_eq_true.1 ha x hx
    simp at this; omega
  | [], b :: bs, ha, hb, d, hd => by
    rw [jn, List.mem_cons] at hd
    rw [lok_cons, Bool.and_eq_true, decide_eq_true_eq] at hb
    rcases hd with rfl | hd
    · rw [Int.natAbs_mul, Int.natAbs_natCast]
      have : k.natAbs * b ≤ 10000 * 10000 := Nat.mul_le_mul hk (by omega)
      omega
    · exact jn_bound hk ha hb.2 d hd
  | a :: as, b :: bs, ha, hb, d, hd => by
    rw [jn, List.mem_cons] at hd
    rw [lok_cons, Bool.and_eq_true, decide_eq_true_eq] at hb ha
    rcases hd with rfl | hd
    · have h1 : (k * (b : Int)).natAbs ≤ 10000 * 10000 := by rw [Int.natAbs_mul, Int.natAbs_natCast]; exact Nat.mul_le_mul hk (by omega)
      omega
    · exact jn_bound hk ha.2 hb.2 d hd
theorem ext_cons (x0 : Int) (J : List Int) (i : Nat) : (if (x0 :: J).length ≤ i + 1 then x0 :: J ++ [0] else x0 :: J) = x0 :: (if J.length ≤ i then J ++ [0] else J) := by
  simp only [List.length_cons, Nat.add_le_add_iff_right]
  split <;> rfl
theorem jn_step (k : Int) : ∀ (A B : List Nat) (i b : Nat), B[i]? = some b → ∃ x, (if (jn k A (B.take i)).length ≤ i then jn k A (B.take i) ++ [0] else jn k A (B.take i))[i]? = some x ∧
    (if (jn k A (B.take i)).length ≤ i then jn k A (B.take i) ++ [0] else jn k A (B.take i)).set i (x + k * (b : Int)) = jn k A (B.take (i + 1))
  | _, [], _, _, h => by simp at h
  | A, c :: B, 0, b, h => by
    simp only [List.getElem?_cons_zero, Option.some.injEq] at h
    subst h
    rw [List.take_zero, jn_nil]
    cases A with
    | nil => exact ⟨0, rfl, by simp [jn, natZ]⟩
    | cons a A => exact ⟨a, by simp [natZ], by simp [jn, natZ]⟩
  | A, c :: B, i + 1, b, h => by
    simp only [List.getElem?_cons_succ] at h
    rw [List.take_succ_cons, List.take_succ_cons]
    cases A with
    | nil =>
      obtain ⟨x, h1, h2⟩ := jn_step k [] B i b h
      refine ⟨x, ?_, ?_⟩
      · rw [jn, ext_cons]; simpa using h1
      · rw [jn, jn, ← h2, ext_cons]; simp
    | cons a A =>
      obtain ⟨x, h1, h2⟩ := jn_step k A B i b h
      refine ⟨x, ?_, ?_⟩
      · rw [jn, ext_cons]; simpa using h1
      · rw [jn, jn, ← h2, ext_cons]; simp
def addRow (x : Int) : List Nat → List Int → List Int
  | [], o => o
  | _ :: _, [] => []
  | b :: bs, d :: o => (d + x * (b : Int)) :: addRow x bs o
theorem addRow_nil (x : Int) (o : List Int) : addRow x [] o = o := by cases o <;> rfl
theorem addRow_length (x : Int) : ∀ (b : List Nat) (o : List Int), b.length ≤ o.length → (addRow x b o).length = o.length
  | [], o, _ => by rw [addRow_nil]
  | b :: bs, [], h => by simp at h
  | b :: bs, d :: o, h => by
    simp only [List.length_cons, Nat.add_le_add_iff_right] at h
    rw [addRow, List.length_cons, addRow_length x bs o h, List.length_cons]
theorem zval_addRow (x : Int) : ∀ (b : List Nat) (o : List Int), b.length ≤ o.length → zval 10000 (addRow x b o) = zval 10000 o + x * (lval 10000 b : Int)
  | [], o, _ => by rw [addRow_nil]; simp [lval]
  | b :: bs, [], h => by simp at h
  | b :: bs, d :: o, h => by
    simp only [List.length_cons, Nat.add_le_add_iff_right] at h
    rw [addRow, zval, zval_addRow x bs o h, zval, lval, Int.natCast_add, Int.natCast_mul]
    show d + x * (b : Int) + 10000 * (zval 10000 o + x * (lval 10000 bs : Int)) = d + 10000 * zval 10000 o + x * ((b : Int) + (10000 : Int) * (lval 10000 bs : Int))
    grind
theorem addRow_bound {x : Int} {m c : Nat} (hc : 10000 * 10000 ≤ c) (hx : x.natAbs ≤ 10000) : ∀ {b : List Nat} {o : List Int}, lok 10000 b = true → (∀ d ∈ o, d.natAbs ≤ m) → ∀ d ∈ addRow x b o, d.natAbs ≤ m + c
  | [], o, _, ho, d, hd => by
    rw [addRow_nil] at hd
    have := ho d hd; omega
  | b :: bs, [], _, _, d, hd => by simp [addRow] at hd
  | b :: bs, e :: o, hb, ho, d, hd => by
    rw [addRow, List.mem_cons] at hd
    rw [lok_cons, Bool.and_eq_true, decide_eq_true_eq] at hb
    rcases hd with rfl | hd
    · have h1 : (x * (b : Int)).natAbs ≤ 10000 * 10000 := by rw [Int.natAbs_mul, Int.natAbs_natCast]; exact Nat.mul_le_mul hx (by omega)
      have := ho e (by simp)
      omega
    · exact addRow_bound hc hx hb.2 (fun d hd => ho d (by simp [hd])) d hd
theorem addRow_step (x : Int) : ∀ (B : List Nat) (o : List Int) (k b : Nat) (y : Int), B[k]? = some b → o[k]? = some y → (addRow x (B.take k) o)[k]? = some y ∧ (addRow x (B.take k) o).set k (y + x * (b : Int)) = addRow x (B.take (k + 1)) o
  | [], _, _, _, _, h, _ => by simp at h
  | _ :: _, [], _, _, _, _, h => by simp at h
  | c' :: B, d :: o, 0, b, y, h, hy => by
    simp only [List.getElem?_cons_zero, Option.some.injEq] at h hy
    subst h hy
    exact ⟨rfl, by simp [addRow, addRow_nil]⟩
  | c :: B, d :: o, k + 1, b, y, h, hy => by
    simp only [List.getElem?_cons_succ] at h hy
    obtain ⟨h1, h2⟩ := addRow_step x B o k b y h hy
    rw [List.take_succ_cons, List.take_succ_cons, addRow, addRow]
    exact ⟨by simpa using h1, by simpa using h2⟩
def tzR (A B : List Nat) : Nat → List Int
  | 0 => List.replicate (A.length + B.length) 0
  | i + 1 => (tzR A B i).take i ++ addRow ((A.getD i 0 : Nat) : Int) B ((tzR A B i).drop i)
theorem tzR_spec {A B : List Nat} {c : Nat} (hc : 10000 * 10000 ≤ c) (hA : lok 10000 A = true) (hB : lok 10000 B = true) : ∀ i, i ≤ A.length → (tzR A B i).length = A.length + B.length ∧ zval 10000 (tzR A B i) = (lval 10000 (A.take i) : Int) * (lval 10000 B : Int) ∧ ∀ d ∈ tzR A B i, d.natAbs ≤ i * c
  | 0, _ => by
    refine ⟨by simp [tzR], by rw [tzR, zval_replicate_zero]; simp [lval], fun d hd => ?_⟩
    rw [tzR] at hd
    rw [(List.mem_replicate.1 hd).2]; simp
  | i + 1, h => by
    obtain ⟨h1, h2, h3⟩ := tzR_spec hc hA hB i (by omega)
    obtain ⟨x, hx, hx'⟩ : ∃ x, A[i]? = some x ∧ A.getD i 0 = x := ⟨A[i], by simp, by simp [List.getD, show i < A.length by omega]⟩
    have hxb := lok_get hA hx
    have hl : B.length ≤ ((tzR A B i).drop i).length := by rw [List.length_drop]; omega
    rw [tzR, hx']
    refine ⟨?_, ?_, fun d hd => ?_⟩
    · rw [List.length_append, addRow_length _ _ _ hl, List.length_take, List.length_drop]; omega
    · rw [zval_append, zval_addRow _ _ _ hl, List.length_take, Nat.min_eq_left (by omega)]
      have e1 : zval 10000 (tzR A B i) = zval 10000 ((tzR A B i).take i) + 10000 ^ i * zval 10000 ((tzR A B i).drop i) := by
        conv => lhs; rw [← List.take_append_drop i (tzR A B i)]
        rw [zval_append, List.length_take, Nat.min_eq_left (by omega)]
      have e2 : A.take (i + 1) = A.take i ++ [x] := by rw [List.take_add_one, hx]; rfl
      rw [e2, lval_snoc, List.length_take, Nat.min_eq_left (by omega), Int.natCast_add, Int.natCast_mul, Int.natCast_pow, Int.add_mul, ← h2, e1]
      show _ = _ + (10000 : Int) ^ i * (x : Int) * (lval 10000 B : Int)
      rw [Int.mul_add, Int.mul_assoc, Int.add_assoc]
    · rcases List.mem_append.1 hd with hd | hd
      · have := h3 d (List.mem_of_mem_take hd)
        rw [Nat.add_mul]; omega
      · have := addRow_bound (x := (x : Int)) (m := i * c) hc (by omega) hB (fun d hd => h3 d (List.mem_of_mem_drop hd)) d hd
        rw [Nat.add_mul, Nat.one_mul]; exact this
end Go.Eng
namespace Go.Eng
def big (k : Nat) (q : Rat) : Prop := q.num.natAbs < 10 ^ k ∧ q.den < 10 ^ k
theorem big.mono {k m : Nat} {q : Rat} (h : big k q) (hm : k ≤ m) : big m q := by
  have : 10 ^ k ≤ 10 ^ m := Nat.pow_le_pow_right (by omega) hm
  exact ⟨by have := h.1; omega, by have := h.2; omega⟩
theorem mkRat_le (n : Int) {d : Nat} (hd : d ≠ 0) : (mkRat n d).num.natAbs ≤ n.natAbs ∧ (mkRat n d).den ≤ d := by
  rw [Rat.num_mkRat, Rat.den_mkRat, if_neg hd, if_neg hd]
  refine ⟨?_, Nat.div_le_self _ _⟩
  exact Int.natAbs_ediv_le_natAbs _ _
theorem big_mkRat {k : Nat} {n : Int} {d : Nat} (hd : d ≠ 0) (h1 : n.natAbs < 10 ^ k) (h2 : d < 10 ^ k) : big k (mkRat n d) := by
  have := mkRat_le n hd
  exact ⟨by omega, by omega⟩
theorem mul_lt_pow {a b k : Nat} (h1 : a < 10 ^ k) (h2 : b < 10 ^ k) : a * b < 10 ^ (2 * k) := by
  have : a * b < 10 ^ k * 10 ^ k := Nat.mul_lt_mul'' h1 h2
  rwa [← Nat.pow_add, show k + k = 2 * k by omega] at this
theorem big_mul {k : Nat} {a b : Rat} (ha : big k a) (hb : big k b) : big (2 * k) (a * b) := by
  rw [Rat.mul_def']
  refine big_mkRat (Nat.mul_ne_zero a.den_nz b.den_nz) ?_ (mul_lt_pow ha.2 hb.2)
  rw [Int.natAbs_mul]
  exact mul_lt_pow ha.1 hb.1
theorem big_add {k : Nat} {a b : Rat} (ha : big k a) (hb : big k b) : big (2 * k + 1) (a + b) := by
  rw [Rat.add_def']
  have h2 := mul_lt_pow ha.2 hb.2
  have h3 : 10 ^ (2 * k + 1) = 10 ^ (2 * k) * 10 := Nat.pow_succ ..
  refine big_mkRat (Nat.mul_ne_zero a.den_nz b.den_nz) ?_ (by omega)
  have h4 := mul_lt_pow ha.1 hb.2
  have h5 := mul_lt_pow hb.1 ha.2
  have h6 := Int.natAbs_add_le (a.num * b.den) (b.num * a.den)
  rw [Int.natAbs_mul, Int.natAbs_mul, Int.natAbs_natCast, Int.natAbs_natCast] at h6
  omega
theorem big_neg {k : Nat} {a : Rat} (ha : big k a) : big k (-a) := by
  refine ⟨?_, ha.2⟩
  rw [Rat.neg_num, Int.natAbs_neg]; exact ha.1
theorem big_sub {k : Nat} {a b : Rat} (ha : big k a) (hb : big k b) : big (2 * k + 1) (a - b) := by
  rw [Rat.sub_eq_add_neg]; exact big_add ha (big_neg hb)
theorem big_inv {k : Nat} {a : Rat} (ha : big k a) : big k a⁻¹ := by
  have h0 : 0 < 10 ^ k := Nat.pow_pos (by omega)
  refine ⟨?_, ?_⟩
  · rw [Rat.num_inv, Int.natAbs_mul, Int.natAbs_natCast]
    have := ha.2
    have h1 : a.num.sign.natAbs ≤ 1 := by
      rcases Int.lt_trichotomy a.num 0 with h | h | h
      · rw [Int.sign_eq_neg_one_of_neg h]; decide
      · rw [h]; decide
      · rw [Int.sign_eq_one_of_pos h]; decide
    have : a.num.sign.natAbs * a.den ≤ 1 * a.den := Nat.mul_le_mul_right _ h1
    omega
  · rw [Rat.den_inv]
    have := ha.1
    by_cases hn : a.num = 0
    · rw [if_pos hn]
      have h2 := ha.2
      have := a.den_nz
      omega
    · rw [if_neg hn]; omega
theorem big_div {k : Nat} {a b : Rat} (ha : big k a) (hb : big k b) : big (2 * k) (a / b) := by
  rw [Rat.div_def]; exact big_mul ha (big_inv hb)
theorem big_zero {k : Nat} (hk : 0 < k) : big k 0 := by
  have h0 : 10 ^ 1 ≤ 10 ^ k := Nat.pow_le_pow_right (by omega) hk
  exact ⟨by show (0 : Nat) < 10 ^ k; omega, by show (1 : Nat) < 10 ^ k; omega⟩
theorem natD_length_big {n k : Nat} (hk : 0 < k) (h : n < 10 ^ k) : (natD n).length ≤ k := natD_length_le hk h
theorem intS_length (n : Int) : (intS n).length ≤ (natD n.natAbs).length + 1 := by
  cases n with
  | ofNat u => simp [intS]
  | negSucc u => simp [intS]
theorem big_length {k : Nat} (hk : 0 < k) {q : Rat} (h : big k q) : (ratS q).length ≤ 2 * k + 2 := by
  have h1 := natD_length_le hk h.1
  have h2 := natD_length_le hk h.2
  have h3 := intS_length q.num
  unfold ratS
  split
  · omega
  · simp only [List.length_append, List.length_cons]; omega
theorem big_of_length {k : Nat} {q : Rat} (h : (ratS q).length ≤ k) : big k q := by
  have h1 := natD_lt_pow q.num.natAbs
  have h2 := natD_lt_pow q.den
  have h3 : (natD q.num.natAbs).length ≤ (intS q.num).length := by
    cases q.num with
    | ofNat u => exact Nat.le_refl _
    | negSucc u => simp [intS]
  have hp := intS_length_pos q.num
  have h4 : (natD q.num.natAbs).length ≤ k ∧ (natD q.den).length ≤ k := by
    unfold ratS at h
    split at h
    · rename_i hd
      refine ⟨by omega, ?_⟩
      rw [hd]
      show 1 ≤ k
      omega
    · simp only [List.length_append, List.length_cons] at h
      omega
  have h5 : 10 ^ (natD q.num.natAbs).length ≤ 10 ^ k := Nat.pow_le_pow_right (by omega) h4.1
  have h6 : 10 ^ (natD q.den).length ≤ 10 ^ k := Nat.pow_le_pow_right (by omega) h4.2
  exact ⟨by omega, by omega⟩
theorem lowest_le {q : Rat} {N D : Int} (hD : D ≠ 0) (h : q.num * D = N * q.den) : (q.num.natAbs ≤ N.natAbs ∨ q.num = 0) ∧ q.den ≤ D.natAbs := by
  have hr : q.num.natAbs.Coprime q.den := q.reduced
  have e : q.num.natAbs * D.natAbs = N.natAbs * q.den := by
    have := congrArg Int.natAbs h
    rwa [Int.natAbs_mul, Int.natAbs_mul, Int.natAbs_natCast] at this
  have hd0 : 0 < D.natAbs := by omega
  constructor
  · by_cases hN : N.natAbs = 0
    · right
      rw [hN, Nat.zero_mul] at e
      rcases Nat.mul_eq_zero.1 e with h1 | h1 <;> omega
    · left
      have : q.num.natAbs ∣ N.natAbs := by
        apply Nat.Coprime.dvd_of_dvd_mul_right hr
        exact ⟨D.natAbs, e.symm⟩
      exact Nat.le_of_dvd (by omega) this
  · have : q.den ∣ D.natAbs := by
      apply Nat.Coprime.dvd_of_dvd_mul_left hr.symm
      exact ⟨N.natAbs, by rw [e, Nat.mul_comm]⟩
    exact Nat.le_of_dvd hd0 this
end Go.Eng
namespace Go.Eng
def asc : List (Rat × Rat) → Prop
  | a :: b :: l => a.1 < b.1 ∧ asc (b :: l)
  | _ => True
def passedV (l : List (Rat × Rat)) (u : Rat) : Nat := match l with
  | [] => 0
  | k :: r => (if k.1 ≤ u then 1 else 0) + passedV r u
def slopeV (a b : Rat × Rat) : Rat := (b.2 - a.2) / (b.1 - a.1)
def lineV (l : List (Rat × Rat)) (n : Nat) : Rat × Rat :=
  if l = [] then (0, 0) else if n = 0 then ((l.getD 0 (0, 0)).2, 0) else if n = l.length then ((l.getD (n - 1) (0, 0)).2, 0) else
    ((l.getD (n - 1) (0, 0)).2 - slopeV (l.getD (n - 1) (0, 0)) (l.getD n (0, 0)) * (l.getD (n - 1) (0, 0)).1, slopeV (l.getD (n - 1) (0, 0)) (l.getD n (0, 0)))
def valueV (l : List (Rat × Rat)) (u : Rat) : Rat := (lineV l (passedV l u)).1 + (lineV l (passedV l u)).2 * u
def lawL (u : Rat) : Rat × Rat → List (Rat × Rat) → Rat
  | a, [] => a.2
  | a, b :: l => if u ≤ b.1 then a.2 + (u - a.1) / (b.1 - a.1) * (b.2 - a.2) else lawL u b l
def lawV (u : Rat) : List (Rat × Rat) → Rat
  | [] => 0
  | a :: l => if u ≤ a.1 then a.2 else lawL u a l
theorem asc_tail {a : Rat × Rat} {l : List (Rat × Rat)} (h : asc (a :: l)) : asc l := by
  cases l with
  | nil => trivial
  | cons b l => exact h.2
theorem passedV_le (l : List (Rat × Rat)) (u : Rat) : passedV l u ≤ l.length := by
  induction l with
  | nil => exact Nat.le_refl _
  | cons k r ih => simp only [passedV, List.length_cons]; split <;> omega
theorem passedV_zero {l : List (Rat × Rat)} {u : Rat} (h : asc l) (h0 : ∀ a ∈ l.head?, u < a.1) : passedV l u = 0 := by
  induction l with
  | nil => rfl
  | cons k r ih =>
    have hk : u < k.1 := h0 k (by simp)
    have : ¬ k.1 ≤ u := Rat.not_le.2 hk
    simp only [passedV, if_neg this]
    rw [ih (asc_tail h) ?_]
    intro a ha
    cases r with
    | nil => simp at ha
    | cons b r =>
      simp at ha; subst ha
      have := h.1
      grind
theorem lineV_succ {a : Rat × Rat} {l : List (Rat × Rat)} {n : Nat} (hl : l ≠ []) (hn : n ≠ 0) : lineV (a :: l) (n + 1) = lineV l n := by
  obtain ⟨m, rfl⟩ : ∃ m, n = m + 1 := ⟨n - 1, by omega⟩
  unfold lineV
  simp [hl]
theorem valueV_cons {a b : Rat × Rat} {l : List (Rat × Rat)} {u : Rat} (h : asc (a :: b :: l)) (hu : b.1 ≤ u) : valueV (a :: b :: l) u = valueV (b :: l) u := by
  have ha : a.1 ≤ u := by have := h.1; grind
  have e : passedV (a :: b :: l) u = passedV (b :: l) u + 1 := by
    rw [passedV, if_pos ha, Nat.add_comm]
  have hn : passedV (b :: l) u ≠ 0 := by
    rw [passedV, if_pos hu]; omega
  unfold valueV
  rw [e, lineV_succ (by simp) hn]
theorem valueV_first {a b : Rat × Rat} {l : List (Rat × Rat)} {u : Rat} (h : asc (a :: b :: l)) (ha : a.1 ≤ u) (hu : u < b.1) : valueV (a :: b :: l) u = a.2 + (u - a.1) / (b.1 - a.1) * (b.2 - a.2) := by
  have e : passedV (a :: b :: l) u = 1 := by
    rw [passedV, if_pos ha, passedV_zero (asc_tail h) (by simpa using hu)]
  have hd : b.1 - a.1 ≠ 0 := by have := h.1; grind
  unfold valueV
  rw [e]
  have e2 : lineV (a :: b :: l) 1 = (a.2 - slopeV a b * a.1, slopeV a b) := by simp [lineV]
  rw [e2]
  simp only [slopeV, Rat.div_def]
  grind
theorem valueV_last {a : Rat × Rat} {u : Rat} (ha : a.1 ≤ u) : valueV [a] u = a.2 := by
  have e : passedV [a] u = 1 := by simp [passedV, ha]
  unfold valueV
  rw [e]
  simp [lineV, Rat.add_zero]
theorem valueV_at {a : Rat × Rat} {l : List (Rat × Rat)} (h : asc (a :: l)) : valueV (a :: l) a.1 = a.2 := by
  cases l with
  | nil => exact valueV_last (by grind)
  | cons b l =>
    rw [valueV_first h (by grind) h.1]
    have : (a.1 - a.1) / (b.1 - a.1) * (b.2 - a.2) = 0 := by
      rw [Rat.sub_self, Rat.div_def, Rat.zero_mul, Rat.zero_mul]
    rw [this, Rat.add_zero]
theorem valueV_lawL {u : Rat} : ∀ {a : Rat × Rat} {l : List (Rat × Rat)}, asc (a :: l) → a.1 < u → valueV (a :: l) u = lawL u a l
  | a, [], _, ha => valueV_last (by grind)
  | a, b :: l, h, ha => by
    unfold lawL
    by_cases hu : u ≤ b.1
    · rw [if_pos hu]
      by_cases he : u = b.1
      · rw [valueV_cons h (by grind), he, valueV_at (asc_tail h)]
        have hd : b.1 - a.1 ≠ 0 := by have := h.1; grind
        have : (b.1 - a.1) / (b.1 - a.1) = 1 := by rw [Rat.div_def, Rat.mul_inv_cancel _ hd]
        rw [this]
        grind
      · exact valueV_first h (by grind) (by grind)
    · rw [if_neg hu, valueV_cons h (by grind)]
      exact valueV_lawL (asc_tail h) (by grind)
theorem valueV_law {u : Rat} {l : List (Rat × Rat)} (h : asc l) : valueV l u = lawV u l := by
  cases l with
  | nil => simp [valueV, lineV, lawV, Rat.add_zero]
  | cons a l =>
    show _ = if u ≤ a.1 then a.2 else lawL u a l
    by_cases hu : u ≤ a.1
    · rw [if_pos hu]
      by_cases he : u = a.1
      · rw [he]; exact valueV_at h
      · have e : passedV (a :: l) u = 0 := passedV_zero h (by simp; grind)
        unfold valueV
        rw [e]
        simp [lineV, Rat.add_zero]
    · rw [if_neg hu]
      exact valueV_lawL h (by grind)
end Go.Eng
namespace Go.Eng
theorem rat_mul_den (q : Rat) : q * (q.den : Rat) = ((q.num : Int) : Rat) := by
  have h : (q.den : Rat) ≠ 0 := by
    intro e
    exact q.den_nz (Rat.natCast_eq_zero_iff.1 e)
  have e : q = (q.num : Rat) / (q.den : Rat) := by
    have := Rat.mkRat_eq_div q.num q.den
    rw [Rat.mkRat_self] at this
    exact this
  conv => lhs; lhs; rw [e]
  exact Rat.div_mul_cancel h
theorem den_ne (q : Rat) : (q.den : Rat) ≠ 0 := fun e => q.den_nz (Rat.natCast_eq_zero_iff.1 e)
theorem num_of_mul {q : Rat} {N D : Int} (h : q * (D : Rat) = (N : Rat)) : q.num * D = N * q.den := by
  apply Rat.intCast_inj.1
  rw [Rat.intCast_mul, Rat.intCast_mul, ← h, ← rat_mul_den, Rat.intCast_natCast]
  rw [Rat.mul_assoc, Rat.mul_assoc, Rat.mul_comm (q.den : Rat)]
theorem small_of_length {q : Rat} (h : (ratS q).length ≤ 40) : q.num.natAbs < 10 ^ 40 ∧ q.den < 10 ^ 38 := by
  have h1 := natD_lt_pow q.num.natAbs
  have h2 := natD_lt_pow q.den
  have h3 : (natD q.num.natAbs).length ≤ (intS q.num).length := by
    cases q.num with
    | ofNat u => exact Nat.le_refl _
    | negSucc u => simp [intS]
  have hp := natD_pos q.num.natAbs
  have h4 : (natD q.num.natAbs).length ≤ 40 ∧ ((natD q.den).length ≤ 38 ∨ q.den = 1) := by
    unfold ratS at h
    split at h
    · rename_i hd
      exact ⟨by omega, .inr hd⟩
    · simp only [List.length_append, List.length_cons] at h
      omega
  have h5 : 10 ^ (natD q.num.natAbs).length ≤ 10 ^ 40 := Nat.pow_le_pow_right (by omega) h4.1
  refine ⟨by omega, ?_⟩
  rcases h4.2 with h6 | h6
  · have h7 : 10 ^ (natD q.den).length ≤ 10 ^ 38 := Nat.pow_le_pow_right (by omega) h6
    omega
  · rw [h6]; decide
theorem natAbs_mul_lt {x y : Int} {a b : Nat} (h1 : x.natAbs < a) (h2 : y.natAbs < b) : (x * y).natAbs < a * b := by
  rw [Int.natAbs_mul]; exact Nat.mul_lt_mul'' h1 h2
theorem natAbs_sub_lt {x y : Int} {a b : Nat} (h1 : x.natAbs < a) (h2 : y.natAbs < b) : (x - y).natAbs < a + b := by omega
theorem natAbs_add_lt {x y : Int} {a b : Nat} (h1 : x.natAbs < a) (h2 : y.natAbs < b) : (x + y).natAbs < a + b := by omega
theorem segment_eq {u a b va vb nu na nb nva nvb du da db dva dvb : Rat} (hu : u * du = nu) (ha : a * da = na) (hb : b * db = nb) (hva : va * dva = nva) (hvb : vb * dvb = nvb) (h : b - a ≠ 0) :
    (va + (u - a) / (b - a) * (vb - va)) * (du * dva * dvb * (nb * da - na * db)) = nva * du * dvb * (nb * da - na * db) + (nu * da - na * du) * (nvb * dva - nva * dvb) * db := by
  have hi : (b - a) * (b - a)⁻¹ = 1 := Rat.mul_inv_cancel _ h
  rw [Rat.div_def]
  generalize (b - a)⁻¹ = i at hi
  subst hu ha hb hva hvb
  grind
theorem segment_small {u : Rat} {a b : Rat × Rat} (hu : (ratS u).length ≤ 40) (ha1 : (ratS a.1).length ≤ 40) (ha2 : (ratS a.2).length ≤ 40) (hb1 : (ratS b.1).length ≤ 40) (hb2 : (ratS b.2).length ≤ 40) (hab : a.1 < b.1) :
    (a.2 + (u - a.1) / (b.1 - a.1) * (b.2 - a.2)).num.natAbs < 10 ^ 200 ∧ (a.2 + (u - a.1) / (b.1 - a.1) * (b.2 - a.2)).den < 10 ^ 200 := by
  have h0 : b.1 - a.1 ≠ 0 := by grind
  have key := segment_eq (rat_mul_den u) (rat_mul_den a.1) (rat_mul_den b.1) (rat_mul_den a.2) (rat_mul_den b.2) h0
  obtain ⟨u1, u2⟩ := small_of_length hu
  obtain ⟨a1, a2⟩ := small_of_length ha1
  obtain ⟨c1, c2⟩ := small_of_length ha2
  obtain ⟨b1, b2⟩ := small_of_length hb1
  obtain ⟨d1, d2⟩ := small_of_length hb2
  have g0 := den_ne u
  have g1 := den_ne a.1
  have g2 := den_ne b.1
  have g3 := den_ne a.2
  have g4 := den_ne b.2
  generalize hv : a.2 + (u - a.1) / (b.1 - a.1) * (b.2 - a.2) = v at key
  obtain ⟨X, hX⟩ : ∃ X : Int, X = b.1.num * a.1.den - a.1.num * b.1.den := ⟨_, rfl⟩
  obtain ⟨Y, hY⟩ : ∃ X : Int, X = u.num * a.1.den - a.1.num * u.den := ⟨_, rfl⟩
  obtain ⟨Z, hZ⟩ : ∃ X : Int, X = b.2.num * a.2.den - a.2.num * b.2.den := ⟨_, rfl⟩
  have hXr : (X : Rat) = (b.1.num : Rat) * (a.1.den : Rat) - (a.1.num : Rat) * (b.1.den : Rat) := by
    rw [hX, Rat.intCast_sub, Rat.intCast_mul, Rat.intCast_mul, Rat.intCast_natCast, Rat.intCast_natCast]
  have hYr : (Y : Rat) = (u.num : Rat) * (a.1.den : Rat) - (a.1.num : Rat) * (u.den : Rat) := by
    rw [hY, Rat.intCast_sub, Rat.intCast_mul, Rat.intCast_mul, Rat.intCast_natCast, Rat.intCast_natCast]
  have hZr : (Z : Rat) = (b.2.num : Rat) * (a.2.den : Rat) - (a.2.num : Rat) * (b.2.den : Rat) := by
    rw [hZ, Rat.intCast_sub, Rat.intCast_mul, Rat.intCast_mul, Rat.intCast_natCast, Rat.intCast_natCast]
  rw [← hXr, ← hYr, ← hZr] at key
  have hX0 : X ≠ 0 := by
    intro e
    have h1 : (X : Rat) = (b.1 - a.1) * ((b.1.den : Rat) * (a.1.den : Rat)) := by
      rw [hXr, ← rat_mul_den, ← rat_mul_den]; grind
    rw [e] at h1
    have h2 : (b.1 - a.1) * ((b.1.den : Rat) * (a.1.den : Rat)) = 0 := h1.symm
    rcases Rat.mul_eq_zero.1 h2 with h3 | h3
    · exact h0 h3
    · rcases Rat.mul_eq_zero.1 h3 with h4 | h4
      · exact g2 h4
      · exact g1 h4
  have key2 : v * ((((u.den : Int) * a.2.den * b.2.den * X : Int)) : Rat) = (((a.2.num * u.den * b.2.den * X + Y * Z * b.1.den : Int)) : Rat) := by
    simp only [Rat.intCast_mul, Rat.intCast_add, Rat.intCast_natCast]
    exact key
  have hD : ((u.den : Int) * a.2.den * b.2.den * X) ≠ 0 := by
    have e1 : (u.den : Int) ≠ 0 := by have := u.den_nz; omega
    have e2 : (a.2.den : Int) ≠ 0 := by have := a.2.den_nz; omega
    have e3 : (b.2.den : Int) ≠ 0 := by have := b.2.den_nz; omega
    exact Int.mul_ne_zero (Int.mul_ne_zero (Int.mul_ne_zero e1 e2) e3) hX0
  obtain ⟨k1, k2⟩ := lowest_le hD (num_of_mul key2)
  have l1 : X.natAbs < 10 ^ 40 * 10 ^ 38 + 10 ^ 40 * 10 ^ 38 := by
    rw [hX]; exact natAbs_sub_lt (natAbs_mul_lt b1 (by simpa using a2)) (natAbs_mul_lt a1 (by simpa using b2))
  have l2 : Y.natAbs < 10 ^ 40 * 10 ^ 38 + 10 ^ 40 * 10 ^ 38 := by
    rw [hY]; exact natAbs_sub_lt (natAbs_mul_lt u1 (by simpa using a2)) (natAbs_mul_lt a1 (by simpa using u2))
  have l3 : Z.natAbs < 10 ^ 40 * 10 ^ 38 + 10 ^ 40 * 10 ^ 38 := by
    rw [hZ]; exact natAbs_sub_lt (natAbs_mul_lt d1 (by simpa using c2)) (natAbs_mul_lt c1 (by simpa using d2))
  have l4 : ((u.den : Int) * a.2.den * b.2.den * X).natAbs < 10 ^ 38 * 10 ^ 38 * 10 ^ 38 * (10 ^ 40 * 10 ^ 38 + 10 ^ 40 * 10 ^ 38) := natAbs_mul_lt (natAbs_mul_lt (natAbs_mul_lt (by simpa using u2) (by simpa using c2)) (by simpa using d2)) l1
  have l5 : (a.2.num * u.den * b.2.den * X + Y * Z * b.1.den).natAbs < 10 ^ 40 * 10 ^ 38 * 10 ^ 38 * (10 ^ 40 * 10 ^ 38 + 10 ^ 40 * 10 ^ 38) + (10 ^ 40 * 10 ^ 38 + 10 ^ 40 * 10 ^ 38) * (10 ^ 40 * 10 ^ 38 + 10 ^ 40 * 10 ^ 38) * 10 ^ 38 :=
    natAbs_add_lt (natAbs_mul_lt (natAbs_mul_lt (natAbs_mul_lt c1 (by simpa using u2)) (by simpa using d2)) l1) (natAbs_mul_lt (natAbs_mul_lt l2 l3) (by simpa using b2))
  constructor
  · rcases k1 with k1 | k1
    · exact Nat.lt_of_le_of_lt k1 (Nat.lt_of_lt_of_le l5 (by decide))
    · rw [k1]; decide
  · exact Nat.lt_of_le_of_lt k2 (Nat.lt_of_lt_of_le l4 (by decide))
end Go.Eng
namespace Go.Eng
def dg (n d : Nat) (q : Rat) : Prop := q.num.natAbs < 10 ^ n ∧ q.den < 10 ^ d
theorem dg.mono {n d n' d' : Nat} {q : Rat} (h : dg n d q) (hn : n ≤ n') (hd : d ≤ d') : dg n' d' q := by
  have h1 : 10 ^ n ≤ 10 ^ n' := Nat.pow_le_pow_right (by omega) hn
  have h2 : 10 ^ d ≤ 10 ^ d' := Nat.pow_le_pow_right (by omega) hd
  exact ⟨by have := h.1; omega, by have := h.2; omega⟩
theorem dg_mkRat {n d : Nat} {x : Int} {y : Nat} (hy : y ≠ 0) (h1 : x.natAbs < 10 ^ n) (h2 : y < 10 ^ d) : dg n d (mkRat x y) := by
  have := mkRat_le x hy
  exact ⟨by omega, by omega⟩
theorem lt_pow_mul {a b k m : Nat} (h1 : a < 10 ^ k) (h2 : b < 10 ^ m) : a * b < 10 ^ (k + m) := by
  rw [Nat.pow_add]; exact Nat.mul_lt_mul'' h1 h2
theorem dg_mul {n d n' d' : Nat} {a b : Rat} (ha : dg n d a) (hb : dg n' d' b) : dg (n + n') (d + d') (a * b) := by
  rw [Rat.mul_def']
  refine dg_mkRat (Nat.mul_ne_zero a.den_nz b.den_nz) ?_ (lt_pow_mul ha.2 hb.2)
  rw [Int.natAbs_mul]
  exact lt_pow_mul ha.1 hb.1
theorem dg_add {n d n' d' m : Nat} {a b : Rat} (ha : dg n d a) (hb : dg n' d' b) (h1 : n + d' ≤ m) (h2 : n' + d ≤ m) : dg (m + 1) (d + d') (a + b) := by
  rw [Rat.add_def']
  refine dg_mkRat (Nat.mul_ne_zero a.den_nz b.den_nz) ?_ (lt_pow_mul ha.2 hb.2)
  have h4 := lt_pow_mul ha.1 hb.2
  have h5 := lt_pow_mul hb.1 ha.2
  have h6 := Int.natAbs_add_le (a.num * b.den) (b.num * a.den)
  rw [Int.natAbs_mul, Int.natAbs_mul, Int.natAbs_natCast, Int.natAbs_natCast] at h6
  have e1 : 10 ^ (n + d') ≤ 10 ^ m := Nat.pow_le_pow_right (by omega) h1
  have e2 : 10 ^ (n' + d) ≤ 10 ^ m := Nat.pow_le_pow_right (by omega) h2
  have e3 : 10 ^ (m + 1) = 10 ^ m * 10 := Nat.pow_succ ..
  omega
theorem dg_neg {n d : Nat} {a : Rat} (ha : dg n d a) : dg n d (-a) := by
  refine ⟨?_, ha.2⟩
  rw [Rat.neg_num, Int.natAbs_neg]; exact ha.1
theorem dg_sub {n d n' d' m : Nat} {a b : Rat} (ha : dg n d a) (hb : dg n' d' b) (h1 : n + d' ≤ m) (h2 : n' + d ≤ m) : dg (m + 1) (d + d') (a - b) := by
  rw [Rat.sub_eq_add_neg]; exact dg_add ha (dg_neg hb) h1 h2
theorem dg_inv {n d : Nat} {a : Rat} (ha : dg n d a) (h0 : a ≠ 0) : dg d n a⁻¹ := by
  have hn : a.num ≠ 0 := fun h => h0 (Rat.num_eq_zero.1 h)
  refine ⟨?_, ?_⟩
  · rw [Rat.num_inv, Int.natAbs_mul, Int.natAbs_natCast]
    have := ha.2
    have h1 : a.num.sign.natAbs ≤ 1 := by
      rcases Int.lt_trichotomy a.num 0 with h | h | h
      · rw [Int.sign_eq_neg_one_of_neg h]; decide
      · rw [h]; decide
      · rw [Int.sign_eq_one_of_pos h]; decide
    have : a.num.sign.natAbs * a.den ≤ 1 * a.den := Nat.mul_le_mul_right _ h1
    omega
  · rw [Rat.den_inv, if_neg hn]
    exact ha.1
theorem dg_div {n d n' d' : Nat} {a b : Rat} (ha : dg n d a) (hb : dg n' d' b) (h0 : b ≠ 0) : dg (n + d') (d + n') (a / b) := by
  rw [Rat.div_def]; exact dg_mul ha (dg_inv hb h0)
theorem dg_int {n : Nat} {x : Int} (h : x.natAbs < 10 ^ n) : dg n 1 (x : Rat) := ⟨by simpa using h, by show (1 : Nat) < 10; decide⟩
theorem dg.lens {n d : Nat} {q : Rat} (h : dg n d q) (hn : 0 < n) (hd : 0 < d) : (natD q.num.natAbs).length ≤ n ∧ (natD q.den).length ≤ d :=
  ⟨natD_length_le hn h.1, natD_length_le hd h.2⟩
end Go.Eng
