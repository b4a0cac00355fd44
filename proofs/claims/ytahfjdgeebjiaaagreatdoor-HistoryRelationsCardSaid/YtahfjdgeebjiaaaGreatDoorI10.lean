/- See I57. -/
import Derived.Lib.ItoaNum
import Derived.Lib.Atoi
import Derived.Lib.Strings
import Derived.Lib.Bytealg
import Derived.Lib.IndexLaws
set_option linter.all false
namespace Go.Eng
def digB (k : Nat) : UInt8 := UInt8.ofNat (48 + k)
def isD (c : UInt8) : Bool := decide (48 ≤ c.toNat) && decide (c.toNat ≤ 57)
def natDF : Nat → Nat → List UInt8 → List UInt8
 | 0,_,acc => acc
 | f + 1,u,acc => if u < 10 then digB u :: acc else natDF f (u / 10) (digB (u % 10) :: acc)
def natD (u : Nat) : List UInt8 := natDF (u.log2 + 1) u []
theorem natDF_eq : ∀ (f u : Nat) (acc : List UInt8),u < 2 ^ f → 0 < f → natDF f u acc = Lib.decDigits u ++ acc
 | 0,u,acc,_,h => by omega
 | f + 1,u,acc,h,_ => by
  unfold natDF
  by_cases h10 : u < 10
  ·rw [if_pos h10,Lib.decDigits,dif_pos h10]; rfl
  ·rw [if_neg h10,Lib.decDigits,dif_neg h10]
   have hf : 0 < f := by
    cases f with
    | zero => simp at h; omega
    | succ f => omega
   rw [natDF_eq f (u / 10) _ (by rw [Nat.pow_succ] at h; omega) hf]
   simp [digB]
theorem natD_eq (u : Nat) : natD u = Lib.decDigits u := by
 unfold natD
 rw [natDF_eq _ _ _ Nat.lt_log2_self (by omega)]
 simp
theorem natD_small {u : Nat} (h : u < 10) : natD u = [digB u] := by rw [natD_eq,Lib.decDigits,dif_pos h]; rfl
theorem natD_big {u : Nat} (h : ¬ u < 10) : natD u = natD (u / 10) ++ [digB (u % 10)] := by
 have e : Lib.decDigits u = Lib.decDigits (u / 10) ++ [UInt8.ofNat (48 + u % 10)] := by
  conv => lhs; rw [Lib.decDigits]
  rw [dif_neg h]
 unfold digB
 rw [natD_eq u,natD_eq (u / 10),e]
def valF (a : Nat) (l : List UInt8) : Nat := l.foldl (fun a c => 10 * a + (c.toNat - 48)) a
theorem valF_nil (a : Nat) : valF a [] = a := by unfold valF; rw [List.foldl_nil]
theorem valF_cons (a : Nat) (c : UInt8) (r : List UInt8) : valF a (c :: r) = valF (10 * a + (c.toNat - 48)) r := by unfold valF; rw [List.foldl_cons]
def valD (l : List UInt8) : Nat := valF 0 l
theorem valF_append : ∀ (l r : List UInt8) (a : Nat),valF a (l ++ r) = valF (valF a l) r
 | [],_,a => by rw [List.nil_append,valF_nil]
 | c :: l,r,a => by rw [List.cons_append,valF_cons,valF_cons,valF_append l r]
theorem valD_snoc (l : List UInt8) (c : UInt8) : valD (l ++ [c]) = 10 * valD l + (c.toNat - 48) := by
 unfold valD; rw [valF_append,valF_cons,valF_nil]
theorem digB_toNat {k : Nat} (h : k < 10) : (digB k).toNat = 48 + k := by
 unfold digB
 simp [UInt8.toNat_ofNat']
 omega
theorem digB_isD {k : Nat} (h : k < 10) : isD (digB k) = true := by
 unfold isD; rw [digB_toNat h]; simp; omega
theorem digB_of_isD {c : UInt8} (h : isD c = true) : digB (c.toNat - 48) = c := by
 unfold isD at h
 simp only [Bool.and_eq_true,decide_eq_true_eq] at h
 unfold digB
 apply UInt8.toNat_inj.1
 simp [UInt8.toNat_ofNat']
 omega
theorem isD_lt {c : UInt8} (h : isD c = true) : c.toNat - 48 < 10 := by
 unfold isD at h
 simp only [Bool.and_eq_true,decide_eq_true_eq] at h
 omega
theorem natD_ind {p : Nat → Prop} (h0 : ∀ u,u < 10 → p u) (h1 : ∀ u,¬ u < 10 → p (u / 10) → p u) (u : Nat) : p u := by
 induction u using Nat.strongRecOn with
 | _ u ih =>
  by_cases h : u < 10
  ·exact h0 u h
  ·exact h1 u h (ih (u / 10) (by omega))
theorem valD_natD (u : Nat) : valD (natD u) = u := by
 induction u using natD_ind with
 | h0 u h =>
  rw [natD_small h]
  unfold valD
  rw [valF_cons,valF_nil,digB_toNat h]; omega
 | h1 u h ih => rw [natD_big h,valD_snoc,ih,digB_toNat (by omega)]; omega
theorem natD_all (u : Nat) : (natD u).all isD = true := by
 induction u using natD_ind with
 | h0 u h => rw [natD_small h]; simp [digB_isD h]
 | h1 u h ih => rw [natD_big h,List.all_append,ih]; simp [digB_isD (show u % 10 < 10 by omega)]
theorem natD_ne (u : Nat) : natD u ≠ [] := by
 induction u using natD_ind with
 | h0 u h => rw [natD_small h]; simp
 | h1 u h ih => rw [natD_big h]; simp
theorem natD_pos (u : Nat) : 0 < (natD u).length := List.length_pos_iff.2 (natD_ne u)
theorem natD_head (u : Nat) (hu : 0 < u) : (natD u).head? ≠ some 48 := by
 induction u using natD_ind with
 | h0 u h =>
  rw [natD_small h]
  simp only [List.head?_cons,ne_eq,Option.some.injEq]
  intro e
  have := congrArg UInt8.toNat e
  rw [digB_toNat h] at this
  simp at this
  omega
 | h1 u h ih =>
  rw [natD_big h,List.head?_append]
  have := ih (by omega)
  cases hh : (natD (u / 10)).head? with
  | none => exact absurd (List.head?_eq_none_iff.1 hh) (natD_ne _)
  | some x => rw [hh] at this; simpa using this
theorem natD_zero : natD 0 = [48] := by rw [natD_small (by omega)]; rfl
def canonN (l : List UInt8) : Bool := match l with
 | [] => false
 | c :: r => isD c && r.all isD && (!(c == 48) || r.isEmpty)
theorem canonN_natD (u : Nat) : canonN (natD u) = true := by
 have h1 := natD_all u
 have h2 := natD_ne u
 by_cases hu : u = 0
 ·subst hu; rw [natD_zero]; rfl
 ·have h3 := natD_head u (by omega)
  cases hl : natD u with
  | nil => exact absurd hl h2
  | cons c r =>
   rw [hl] at h1 h3
   simp only [List.all_cons,Bool.and_eq_true] at h1
   simp only [List.head?_cons,ne_eq,Option.some.injEq] at h3
   simp [canonN,h1.1,h1.2,h3]
theorem canonN_init {l : List UInt8} {c : UInt8} (hl : l ≠ []) (h : canonN (l ++ [c]) = true) : canonN l = true ∧ isD c = true ∧ l ≠ [48] := by
 cases l with
 | nil => exact absurd rfl hl
 | cons x r =>
  simp only [List.cons_append,canonN,List.all_append,List.all_cons,List.all_nil,Bool.and_true,Bool.and_eq_true] at h
  obtain ⟨⟨h1,h2,h3⟩,h4⟩ := h
  have h5 : (x == 48) = false := by
   cases hx : x == 48 with
   | false => rfl
   | true => rw [hx] at h4; simp at h4
  refine ⟨by simp [canonN,h1,h2,h5],h3,?_⟩
  intro e
  cases e
  simp at h5
theorem snocInd {p : List UInt8 → Prop} (h0 : p []) (h1 : ∀ l c,p l → p (l ++ [c])) (l : List UInt8) : p l := by
 have : ∀ n (l : List UInt8),l.length = n → p l := by
  intro n
  induction n with
  | zero => intro l hl; rw [List.eq_nil_of_length_eq_zero hl]; exact h0
  | succ n ih =>
   intro l hl
   have hne : l ≠ [] := by intro e; rw [e] at hl; simp at hl
   rw [← List.dropLast_concat_getLast hne]
   exact h1 _ _ (ih _ (by simp [hl]))
 exact this _ l rfl
theorem natD_valD {l : List UInt8} (h : canonN l = true) : natD (valD l) = l := by
 induction l using snocInd with
 | h0 => cases h
 | h1 l c ih =>
  by_cases hl : l = []
  ·subst hl
   simp only [List.nil_append,canonN,List.all_nil,Bool.and_true,List.isEmpty_nil,Bool.or_true] at h
   unfold valD
   rw [List.nil_append,valF_cons,valF_nil,Nat.mul_zero,Nat.zero_add,natD_small (isD_lt h),digB_of_isD h]
  ·obtain ⟨h1,h2,h3⟩ := canonN_init hl h
   have hi := ih h1
   have hv : valD l ≠ 0 := by
    intro e
    rw [e,natD_zero] at hi
    exact h3 hi.symm
   have hd := isD_lt h2
   rw [valD_snoc,natD_big (by omega),show (10 * valD l + (c.toNat - 48)) / 10 = valD l by omega,show (10 * valD l + (c.toNat - 48)) % 10 = c.toNat - 48 by omega,hi,digB_of_isD h2]
def natP (l : List UInt8) : Option Nat := if canonN l then some (valD l) else none
theorem natP_natD (u : Nat) : natP (natD u) = some u := by unfold natP; rw [if_pos (canonN_natD u),valD_natD]
theorem natP_some {l : List UInt8} {u : Nat} (h : natP l = some u) : l = natD u := by
 unfold natP at h
 split at h
 ·rename_i hc; cases h; exact (natD_valD hc).symm
 ·cases h
theorem natD_inj {u v : Nat} (h : natD u = natD v) : u = v := by rw [← valD_natD u,h,valD_natD]
theorem pow_le_natD (u : Nat) (hu : 0 < u) : 10 ^ ((natD u).length - 1) ≤ u := by
 induction u using natD_ind with
 | h0 u h => rw [natD_small h]; simp; omega
 | h1 u h ih =>
  rw [natD_big h]
  have := ih (by omega)
  have hp := natD_pos (u / 10)
  simp only [List.length_append,List.length_singleton,Nat.add_sub_cancel]
  have e : 10 ^ (natD (u / 10)).length = 10 ^ ((natD (u / 10)).length - 1) * 10 := by rw [← Nat.pow_succ]; congr 1; omega
  rw [e]; omega
theorem natD_lt_pow (u : Nat) : u < 10 ^ (natD u).length := by
 rw [natD_eq,Lib.decDigits_length]; exact Lib.lt_pow_nDigits u
theorem natD_length_le {u k : Nat} (hk : 0 < k) (h : u < 10 ^ k) : (natD u).length ≤ k := by
 by_cases hu : u = 0
 ·subst hu; rw [natD_zero]; exact hk
 ·have h1 := pow_le_natD u (by omega)
  have h2 : 10 ^ ((natD u).length - 1) < 10 ^ k := by omega
  have := (Nat.pow_lt_pow_iff_right (by omega : 1 < 10)).1 h2
  omega
def intS (n : Int) : List UInt8 := match n with
 | .ofNat u => natD u
 | .negSucc u => 45 :: natD (u + 1)
theorem intS_eq (n : Int) : intS n = Lib.itoa n := by
 unfold Lib.itoa
 cases n with
 | ofNat u => rw [if_neg (by simp)]; simp [intS,natD_eq]
 | negSucc u => rw [if_pos (Int.negSucc_lt_zero u)]; simp [intS,natD_eq]
def intP (l : List UInt8) : Option Int := match l with
 | 45 :: r => match natP r with
  | some (u + 1) => some (.negSucc u)
  | _ => none
 | l => match natP l with
  | some u => some (.ofNat u)
  | none => none
theorem natD_ne_minus (u : Nat) : (natD u).head? ≠ some 45 := by
 cases hl : natD u with
 | nil => simp
 | cons c r =>
  have := natD_all u
  rw [hl] at this
  simp only [List.all_cons,Bool.and_eq_true] at this
  simp only [List.head?_cons,ne_eq,Option.some.injEq]
  rintro rfl
  exact absurd this.1 (by decide)
theorem intP_intS (n : Int) : intP (intS n) = some n := by
 cases n with
 | ofNat u =>
  have h := natD_ne_minus u
  simp only [intS]
  unfold intP
  split
  ·rename_i r hr
   rw [hr] at h; simp at h
  ·rw [natP_natD]
 | negSucc u => simp [intS,intP,natP_natD]
theorem intP_some {l : List UInt8} {n : Int} (h : intP l = some n) : l = intS n := by
 unfold intP at h
 split at h
 ·split at h
  ·rename_i hr
   cases h
   simp [intS,natP_some hr]
  ·cases h
 ·split at h
  ·rename_i hr
   cases h
   simp [intS,natP_some hr]
  ·cases h
theorem intS_inj {m n : Int} (h : intS m = intS n) : m = n := by
 have := intP_intS m
 rw [h,intP_intS] at this
 exact (Option.some.inj this).symm
theorem hasPrefix_intS (n : Int) : Lib.hasPrefix (intS n) [45] = decide (n < 0) := by
 cases n with
 | ofNat u =>
  have h := natD_ne_minus u
  simp only [intS]
  cases hl : natD u with
  | nil => exact absurd hl (natD_ne u)
  | cons c r =>
   rw [hl] at h
   simp only [List.head?_cons,ne_eq,Option.some.injEq] at h
   rw [show decide (Int.ofNat u < 0) = false by simp]
   have h' : ¬ (45 : UInt8) = c := fun e => h e.symm
   simp [Lib.hasPrefix,List.isPrefixOf,h']
 | negSucc u => simp [intS,Lib.hasPrefix,List.isPrefixOf,Int.negSucc_lt_zero]
theorem trimPrefix_intS (n : Int) : Lib.trimPrefix (intS n) [45] = natD n.natAbs := by
 unfold Lib.trimPrefix
 rw [hasPrefix_intS]
 cases n with
 | ofNat u =>
  rw [show decide (Int.ofNat u < 0) = false by simp]
  rfl
 | negSucc u => simp [intS,Int.negSucc_lt_zero,Int.natAbs]
theorem digitVal_isD {c : UInt8} (h : isD c = true) : Lib.digitVal c = some (c.toNat - 48) := by
 unfold isD at h
 simp only [Bool.and_eq_true,decide_eq_true_eq] at h
 unfold Lib.digitVal
 rw [if_pos h]
theorem decFrom_valF : ∀ (l : List UInt8) (a : Nat),l.all isD = true → Lib.decFrom a l = some (valF a l)
 | [],a,_ => by rw [valF_nil]; rfl
 | c :: r,a,h => by
  simp only [List.all_cons,Bool.and_eq_true] at h
  unfold Lib.decFrom
  rw [digitVal_isD h.1,valF_cons]
  simp only
  rw [decFrom_valF r _ h.2,Nat.mul_comm]
theorem decNat_natD (u : Nat) : Lib.decNat (natD u) = some u := by
 unfold Lib.decNat
 have h : (natD u).isEmpty = false := by
  cases hl : natD u with
  | nil => exact absurd hl (natD_ne u)
  | cons => rfl
 rw [h]
 simp only [Bool.false_eq_true,if_false]
 rw [decFrom_valF _ _ (natD_all u)]
 exact congrArg some (valD_natD u)
theorem atoi_intS (n : Int) : Lib.atoi (intS n) = some n := by
 cases n with
 | ofNat u =>
  have h1 := natD_ne_minus u
  have h2 := natD_all u
  have h3 := decNat_natD u
  simp only [intS]
  cases hl : natD u with
  | nil => exact absurd hl (natD_ne u)
  | cons c r =>
   rw [hl] at h1 h2 h3
   simp only [List.head?_cons,ne_eq,Option.some.injEq] at h1
   simp only [List.all_cons,Bool.and_eq_true] at h2
   have hc : ¬ c = 43 := by rintro rfl; exact absurd h2.1 (by decide)
   simp [Lib.atoi,h1,hc,h3]
 | negSucc u =>
  simp [intS,Lib.atoi,decNat_natD,Int.negSucc_eq]
theorem natD_lt_of_length {u v : Nat} (h : (natD u).length < (natD v).length) : u < v := by
 have h1 := natD_lt_pow u
 have hv : 0 < v := by
  by_cases hv : v = 0
  ·subst hv
   rw [natD_zero] at h
   have := natD_pos u
   simp only [List.length_singleton] at h
   omega
  ·omega
 have h2 := pow_le_natD v hv
 have h3 : 10 ^ (natD u).length ≤ 10 ^ ((natD v).length - 1) := Nat.pow_le_pow_right (by omega) (by omega)
 exact Nat.lt_of_lt_of_le h1 (Nat.le_trans h3 h2)
def cmpN (u v : Nat) : Int := if u < v then -1 else if v < u then 1 else 0
theorem valF_lt_pow : ∀ (l : List UInt8) (a : Nat),l.all isD = true → valF a l < (a + 1) * 10 ^ l.length
 | [],a,_ => by rw [valF_nil]; simp
 | c :: r,a,h => by
  simp only [List.all_cons,Bool.and_eq_true] at h
  have hd := isD_lt h.1
  have := valF_lt_pow r (10 * a + (c.toNat - 48)) h.2
  rw [valF_cons]
  refine Nat.lt_of_lt_of_le this ?_
  rw [List.length_cons,Nat.pow_succ,Nat.mul_comm (10 ^ r.length) 10,← Nat.mul_assoc]
  exact Nat.mul_le_mul_right _ (by omega)
theorem le_valF : ∀ (l : List UInt8) (a : Nat),a * 10 ^ l.length ≤ valF a l
 | [],a => by rw [valF_nil]; simp
 | c :: r,a => by
  have := le_valF r (10 * a + (c.toNat - 48))
  rw [valF_cons]
  refine Nat.le_trans ?_ this
  rw [List.length_cons,Nat.pow_succ,Nat.mul_comm (10 ^ r.length) 10,← Nat.mul_assoc]
  exact Nat.mul_le_mul_right _ (by omega)
theorem compareBytes_valF : ∀ (l r : List UInt8) (a : Nat),l.length = r.length → l.all isD = true → r.all isD = true → Lib.compareBytes l r = cmpN (valF a l) (valF a r)
 | [],[],a,_,_,_ => by
  rw [valF_nil]
  show (0 : Int) = cmpN a a
  unfold cmpN; rw [if_neg (by omega),if_neg (by omega)]
 | [],_ :: _,_,h,_,_ => by simp at h
 | _ :: _,[],_,h,_,_ => by simp at h
 | c :: l,d :: r,a,h,h1,h2 => by
  simp only [List.length_cons,Nat.add_right_cancel_iff] at h
  simp only [List.all_cons,Bool.and_eq_true] at h1 h2
  have key : ∀ {x y : UInt8} {l r : List UInt8},isD x = true → isD y = true → l.all isD = true → l.length = r.length → x < y → valF (10 * a + (x.toNat - 48)) l < valF (10 * a + (y.toNat - 48)) r := by
   intro x y l r hx hy hl hlr hxy
   have e1 := valF_lt_pow l (10 * a + (x.toNat - 48)) hl
   have e2 := le_valF r (10 * a + (y.toNat - 48))
   have hxy' : x.toNat < y.toNat := hxy
   unfold isD at hx hy
   simp only [Bool.and_eq_true,decide_eq_true_eq] at hx hy
   rw [hlr] at e1
   have : (10 * a + (x.toNat - 48) + 1) * 10 ^ r.length ≤ (10 * a + (y.toNat - 48)) * 10 ^ r.length := Nat.mul_le_mul_right _ (by omega)
   omega
  unfold Lib.compareBytes
  rw [valF_cons,valF_cons]
  by_cases hcd : c < d
  ·rw [if_pos hcd]
   have := key h1.1 h2.1 h1.2 h hcd
   unfold cmpN; rw [if_pos this]
  ·rw [if_neg hcd]
   by_cases hdc : d < c
   ·rw [if_pos hdc]
    have := key h2.1 h1.1 h2.2 h.symm hdc
    unfold cmpN; rw [if_neg (by omega),if_pos this]
   ·rw [if_neg hdc]
    have hn1 : ¬ c.toNat < d.toNat := hcd
    have hn2 : ¬ d.toNat < c.toNat := hdc
    have e : c.toNat = d.toNat := by omega
    rw [e]
    exact compareBytes_valF l r _ h h1.2 h2.2
theorem compareBytes_natD {u v : Nat} (h : (natD u).length = (natD v).length) : Lib.compareBytes (natD u) (natD v) = cmpN u v := by
 have := compareBytes_valF (natD u) (natD v) 0 h (natD_all u) (natD_all v)
 rw [this]
 show cmpN (valD (natD u)) (valD (natD v)) = _
 rw [valD_natD,valD_natD]
def sgnI (n : Int) : Int := if n < 0 then -1 else if n = 0 then 0 else 1
def cmpI (m n : Int) : Int := if m < n then -1 else if n < m then 1 else 0
theorem intS_zero (n : Int) : intS n = [48] ↔ n = 0 := by
 constructor
 ·intro h; exact intS_inj (h.trans (by rfl))
 ·rintro rfl; rfl
theorem intS_beq_zero (n : Int) : (intS n == [48]) = decide (n = 0) := by
 rw [Bool.eq_iff_iff]; simp [intS_zero]
theorem intS_length_pos (n : Int) : 0 < (intS n).length := by
 cases n with
 | ofNat u => exact natD_pos u
 | negSucc u => simp [intS]
theorem intS_neg_pos {n : Int} (h : 0 < n) : intS (-n) = 45 :: intS n := by
 cases n with
 | ofNat u =>
  cases u with
  | zero => simp at h
  | succ u => rfl
 | negSucc u => exact absurd h (by have := Int.negSucc_lt_zero u; omega)
theorem intS_drop_neg {n : Int} (h : n < 0) : (intS n).drop 1 = intS (-n) := by
 have := intS_neg_pos (n := -n) (by omega)
 rw [Int.neg_neg] at this
 rw [this]
 rfl
theorem intS_natAbs {n : Int} (h : 0 ≤ n) : intS n = natD n.natAbs := by
 cases n with
 | ofNat u => rfl
 | negSucc u => exact absurd h (by have := Int.negSucc_lt_zero u; omega)
theorem cmpI_eq (a b : Int) : cmpI a b = if sgnI a ≠ sgnI b then (if sgnI a < sgnI b then -1 else 1) else
  if (natD a.natAbs).length ≠ (natD b.natAbs).length then (if (natD a.natAbs).length < (natD b.natAbs).length then - sgnI a else sgnI a) else sgnI a * cmpN a.natAbs b.natAbs := by
 by_cases hs : sgnI a ≠ sgnI b
 ·rw [if_pos hs]
  unfold sgnI at hs ⊢
  unfold cmpI
  repeat' split
  all_goals first | rfl | omega
 ·rw [if_neg hs]
  by_cases hl : (natD a.natAbs).length ≠ (natD b.natAbs).length
  ·rw [if_pos hl]
   by_cases hlt : (natD a.natAbs).length < (natD b.natAbs).length
   ·rw [if_pos hlt]
    have := natD_lt_of_length hlt
    unfold sgnI at hs ⊢
    unfold cmpI
    repeat' split
    all_goals first | rfl | omega
   ·rw [if_neg hlt]
    have := natD_lt_of_length (u := b.natAbs) (v := a.natAbs) (by omega)
    unfold sgnI at hs ⊢
    unfold cmpI
    repeat' split
    all_goals first | rfl | omega
  ·rw [if_neg hl]
   unfold sgnI at hs ⊢
   unfold cmpI cmpN
   repeat' split
   all_goals first | rfl | omega
def ratS (q : Rat) : List UInt8 := if q.den = 1 then intS q.num else intS q.num ++ 47 :: natD q.den
theorem natD_no_slash (u : Nat) : (47 : UInt8) ∉ natD u := by
 intro h
 have := List.all_eq_true.1 (natD_all u) _ h
 exact absurd this (by decide)
theorem intS_no_slash (n : Int) : (47 : UInt8) ∉ intS n := by
 cases n with
 | ofNat u => exact natD_no_slash u
 | negSucc u =>
  simp only [intS,List.mem_cons,not_or]
  exact ⟨by decide,natD_no_slash _⟩
theorem indexByte_not_mem : ∀ (l : List UInt8) (c : UInt8),c ∉ l → Lib.indexByte l c = -1
 | [],_,_ => rfl
 | b :: l,c,h => by
  simp only [List.mem_cons,not_or] at h
  unfold Lib.indexByte
  rw [if_neg (by simpa using fun e => h.1 e.symm),indexByte_not_mem l c h.2]
  rfl
theorem indexByte_at : ∀ (l r : List UInt8) (c : UInt8),c ∉ l → Lib.indexByte (l ++ c :: r) c = l.length
 | [],r,c,_ => by simp [Lib.indexByte]
 | b :: l,r,c,h => by
  simp only [List.mem_cons,not_or] at h
  rw [List.cons_append]
  unfold Lib.indexByte
  rw [if_neg (by simpa using fun e => h.1 e.symm),indexByte_at l r c h.2]
  have hn : ¬ (((l.length : Int) == -1) = true) := by rw [beq_iff_eq]; omega
  rw [if_neg hn]
  rfl
theorem indexByte_ratS (q : Rat) : Lib.indexByte (ratS q) 47 = if q.den = 1 then -1 else ((intS q.num).length : Int) := by
 unfold ratS
 split
 ·exact indexByte_not_mem _ _ (intS_no_slash _)
 ·exact indexByte_at _ _ _ (intS_no_slash _)
def ratOf (n : Int) (d : Nat) : Option Rat := if h : 1 < d ∧ n.natAbs.gcd d = 1 then some ⟨n,d,by omega,h.2⟩ else none
def ratP (l : List UInt8) : Option Rat := match l.idxOf? 47 with
 | none => match intP l with
  | some n => some ⟨n,1,by decide,Nat.gcd_one_right _⟩
  | none => none
 | some i => match intP (l.take i),natP (l.drop (i + 1)) with
  | some n,some d => ratOf n d
  | _,_ => none
theorem idxOf_none {l : List UInt8} {c : UInt8} (h : c ∉ l) : l.idxOf? c = none := List.idxOf?_eq_none_iff.2 h
theorem idxOf_at {l r : List UInt8} {c : UInt8} (h : c ∉ l) : (l ++ c :: r).idxOf? c = some l.length := by
 rw [List.idxOf?_eq_some_iff]
 refine ⟨by simp,by simp,fun j hj => ?_⟩
 rw [List.getElem_append_left hj]
 intro e
 exact h (e ▸ List.getElem_mem hj)
theorem ratP_ratS (q : Rat) : ratP (ratS q) = some q := by
 unfold ratP ratS
 by_cases h : q.den = 1
 ·rw [if_pos h,idxOf_none (intS_no_slash _)]
  simp only [intP_intS]
  congr 1
  apply Rat.ext
  ·rfl
  ·exact h.symm
 ·have h1 : List.drop ((intS q.num).length + 1) (intS q.num ++ 47 :: natD q.den) = natD q.den := by
   rw [List.drop_append]; simp
  have h2 : List.take (intS q.num).length (intS q.num ++ 47 :: natD q.den) = intS q.num := List.take_left' rfl
  have hd : 1 < q.den := by have := q.den_nz; omega
  have hr : q.num.natAbs.gcd q.den = 1 := q.reduced
  rw [if_neg h,idxOf_at (intS_no_slash _)]
  simp only
  rw [h1,h2,intP_intS,natP_natD]
  simp only [ratOf]
  rw [dif_pos ⟨hd,hr⟩]
theorem ratP_some {l : List UInt8} {q : Rat} (h : ratP l = some q) : l = ratS q := by
 unfold ratP at h
 split at h
 ·split at h
  ·rename_i n hn
   cases h
   unfold ratS
   rw [if_pos rfl]
   exact intP_some hn
  ·cases h
 ·rename_i i hi
  split at h
  ·rename_i n d hn hd
   unfold ratOf at h
   split at h
   ·rename_i hc
    cases h
    unfold ratS
    rw [if_neg (by show ¬ d = 1; omega)]
    obtain ⟨hlt,hget,_⟩ := List.idxOf?_eq_some_iff.1 hi
    show l = intS n ++ 47 :: natD d
    rw [← intP_some hn,← natP_some hd]
    have : l.drop i = 47 :: l.drop (i + 1) := by rw [List.drop_eq_getElem_cons hlt,hget]
    rw [← this,List.take_append_drop]
   ·cases h
  ·cases h
theorem ratS_inj {p q : Rat} (h : ratS p = ratS q) : p = q := by
 have := ratP_ratS p
 rw [h,ratP_ratS] at this
 exact (Option.some.inj this).symm
theorem ratS_zero (q : Rat) : ratS q = [48] ↔ q = 0 := by
 constructor
 ·intro h; exact ratS_inj (h.trans (by rfl))
 ·rintro rfl; rfl
theorem ratS_beq_zero (q : Rat) : (ratS q == [48]) = decide (q = 0) := by
 rw [Bool.eq_iff_iff]; simp [ratS_zero]
theorem neg_num (q : Rat) : (-q).num = -q.num := rfl
theorem neg_den (q : Rat) : (-q).den = q.den := rfl
theorem ratS_neg_pos {q : Rat} (h : 0 < q.num) : ratS (-q) = 45 :: ratS q := by
 unfold ratS
 rw [neg_num,neg_den,intS_neg_pos h]
 split <;> rfl
theorem ratS_of_neg {q : Rat} (h : q.num < 0) : ratS q = 45 :: ratS (-q) := by
 have := ratS_neg_pos (q := -q) (by rw [neg_num]; omega)
 rwa [Rat.neg_neg] at this
theorem num_zero {q : Rat} : q.num = 0 ↔ q = 0 := by
 constructor
 ·intro h
  apply Rat.ext
  ·exact h
  ·have := q.reduced
   rw [h] at this
   simpa [Nat.Coprime] using this
 ·rintro rfl; rfl
theorem ratS_head {q : Rat} (h : 0 ≤ q.num) : ∃ c r,ratS q = c :: r ∧ isD c = true := by
 have h1 : ∃ c r,intS q.num = c :: r ∧ isD c = true := by
  rw [intS_natAbs h]
  have := natD_all q.num.natAbs
  cases hl : natD q.num.natAbs with
  | nil => exact absurd hl (natD_ne _)
  | cons c r =>
   rw [hl] at this
   simp only [List.all_cons,Bool.and_eq_true] at this
   exact ⟨c,r,rfl,this.1⟩
 obtain ⟨c,r,e,hc⟩ := h1
 unfold ratS
 split
 ·exact ⟨c,r,e,hc⟩
 ·exact ⟨c,r ++ 47 :: natD q.den,by rw [e]; rfl,hc⟩
theorem isD_ne_minus {c : UInt8} (h : isD c = true) : ¬ ((c.toNat : Int) = 45) := by
 unfold isD at h
 simp only [Bool.and_eq_true,decide_eq_true_eq] at h
 omega
def sgnR (q : Rat) : Int := sgnI q.num
def big (k : Nat) (q : Rat) : Prop := q.num.natAbs < 10 ^ k ∧ q.den < 10 ^ k
theorem big.mono {k m : Nat} {q : Rat} (h : big k q) (hm : k ≤ m) : big m q := by
 have : 10 ^ k ≤ 10 ^ m := Nat.pow_le_pow_right (by omega) hm
 exact ⟨by have := h.1; omega,by have := h.2; omega⟩
theorem mkRat_le (n : Int) {d : Nat} (hd : d ≠ 0) : (mkRat n d).num.natAbs ≤ n.natAbs ∧ (mkRat n d).den ≤ d := by
 rw [Rat.num_mkRat,Rat.den_mkRat,if_neg hd,if_neg hd]
 refine ⟨?_,Nat.div_le_self _ _⟩
 exact Int.natAbs_ediv_le_natAbs _ _
theorem intS_length (n : Int) : (intS n).length ≤ (natD n.natAbs).length + 1 := by
 cases n with
 | ofNat u => simp [intS]
 | negSucc u => simp [intS]
theorem big_length {k : Nat} (hk : 0 < k) {q : Rat} (h : big k q) : (ratS q).length ≤ 2 * k + 2 := by
 have h1 := natD_length_le hk h.1
 have h2 := natD_length_le hk h.2
 have h3 := intS_length q.num
 unfold ratS
 split
 ·omega
 ·simp only [List.length_append,List.length_cons]; omega
theorem big_of_length {k : Nat} {q : Rat} (h : (ratS q).length ≤ k) : big k q := by
 have h1 := natD_lt_pow q.num.natAbs
 have h2 := natD_lt_pow q.den
 have h3 : (natD q.num.natAbs).length ≤ (intS q.num).length := by
  cases q.num with
  | ofNat u => exact Nat.le_refl _
  | negSucc u => simp [intS]
 have hp := intS_length_pos q.num
 have h4 : (natD q.num.natAbs).length ≤ k ∧ (natD q.den).length ≤ k := by
  unfold ratS at h
  split at h
  ·rename_i hd
   refine ⟨by omega,?_⟩
   rw [hd]
   show 1 ≤ k
   omega
  ·simp only [List.length_append,List.length_cons] at h
   omega
 have h5 : 10 ^ (natD q.num.natAbs).length ≤ 10 ^ k := Nat.pow_le_pow_right (by omega) h4.1
 have h6 : 10 ^ (natD q.den).length ≤ 10 ^ k := Nat.pow_le_pow_right (by omega) h4.2
 exact ⟨by omega,by omega⟩
end Go.Eng
namespace Go.Eng
theorem natAbs_mul_lt {x y : Int} {a b : Nat} (h1 : x.natAbs < a) (h2 : y.natAbs < b) : (x * y).natAbs < a * b := by
 rw [Int.natAbs_mul]; exact Nat.mul_lt_mul'' h1 h2
def dg (n d : Nat) (q : Rat) : Prop := q.num.natAbs < 10 ^ n ∧ q.den < 10 ^ d
theorem dg.mono {n d n' d' : Nat} {q : Rat} (h : dg n d q) (hn : n ≤ n') (hd : d ≤ d') : dg n' d' q := by
 have h1 : 10 ^ n ≤ 10 ^ n' := Nat.pow_le_pow_right (by omega) hn
 have h2 : 10 ^ d ≤ 10 ^ d' := Nat.pow_le_pow_right (by omega) hd
 exact ⟨by have := h.1; omega,by have := h.2; omega⟩
theorem dg_mkRat {n d : Nat} {x : Int} {y : Nat} (hy : y ≠ 0) (h1 : x.natAbs < 10 ^ n) (h2 : y < 10 ^ d) : dg n d (mkRat x y) := by
 have := mkRat_le x hy
 exact ⟨by omega,by omega⟩
theorem lt_pow_mul {a b k m : Nat} (h1 : a < 10 ^ k) (h2 : b < 10 ^ m) : a * b < 10 ^ (k + m) := by
 rw [Nat.pow_add]; exact Nat.mul_lt_mul'' h1 h2
theorem dg_mul {n d n' d' : Nat} {a b : Rat} (ha : dg n d a) (hb : dg n' d' b) : dg (n + n') (d + d') (a * b) := by
 rw [Rat.mul_def']
 refine dg_mkRat (Nat.mul_ne_zero a.den_nz b.den_nz) ?_ (lt_pow_mul ha.2 hb.2)
 rw [Int.natAbs_mul]
 exact lt_pow_mul ha.1 hb.1
theorem dg_add {n d n' d' m : Nat} {a b : Rat} (ha : dg n d a) (hb : dg n' d' b) (h1 : n + d' ≤ m) (h2 : n' + d ≤ m) : dg (m + 1) (d + d') (a + b) := by
 rw [Rat.add_def']
 refine dg_mkRat (Nat.mul_ne_zero a.den_nz b.den_nz) ?_ (lt_pow_mul ha.2 hb.2)
 have h4 := lt_pow_mul ha.1 hb.2
 have h5 := lt_pow_mul hb.1 ha.2
 have h6 := Int.natAbs_add_le (a.num * b.den) (b.num * a.den)
 rw [Int.natAbs_mul,Int.natAbs_mul,Int.natAbs_natCast,Int.natAbs_natCast] at h6
 have e1 : 10 ^ (n + d') ≤ 10 ^ m := Nat.pow_le_pow_right (by omega) h1
 have e2 : 10 ^ (n' + d) ≤ 10 ^ m := Nat.pow_le_pow_right (by omega) h2
 have e3 : 10 ^ (m + 1) = 10 ^ m * 10 := Nat.pow_succ ..
 omega
theorem dg_neg {n d : Nat} {a : Rat} (ha : dg n d a) : dg n d (-a) := by
 refine ⟨?_,ha.2⟩
 rw [Rat.neg_num,Int.natAbs_neg]; exact ha.1
theorem dg_sub {n d n' d' m : Nat} {a b : Rat} (ha : dg n d a) (hb : dg n' d' b) (h1 : n + d' ≤ m) (h2 : n' + d ≤ m) : dg (m + 1) (d + d') (a - b) := by
 rw [Rat.sub_eq_add_neg]; exact dg_add ha (dg_neg hb) h1 h2
theorem dg_int {n : Nat} {x : Int} (h : x.natAbs < 10 ^ n) : dg n 1 (x : Rat) := ⟨by simpa using h,by show (1 : Nat) < 10; decide⟩
theorem dg.lens {n d : Nat} {q : Rat} (h : dg n d q) (hn : 0 < n) (hd : 0 < d) : (natD q.num.natAbs).length ≤ n ∧ (natD q.den).length ≤ d :=
 ⟨natD_length_le hn h.1,natD_length_le hd h.2⟩
end Go.Eng
