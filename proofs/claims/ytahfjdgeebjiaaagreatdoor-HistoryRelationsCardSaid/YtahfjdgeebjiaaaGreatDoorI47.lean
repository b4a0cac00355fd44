/- See I57. -/
import Derived.Test.YtahfjdgeebjiaaaGreatDoorI17
import Derived.Test.YtahfjdgeebjiaaaGreatDoorI21
import Derived.Test.YtahfjdgeebjiaaaGreatDoorI18
import Derived.Test.YtahfjdgeebjiaaaGreatDoorI08
import Derived.Test.YtahfjdgeebjiaaaGreatDoorI22
import Derived.Test.YtahfjdgeebjiaaaGreatDoorI20
set_option linter.all false
namespace Go.Proofs
open Go.Eng
def letB (c : UInt8) : Bool := (decide (97 ≤ c.toNat) && decide (c.toNat ≤ 122)) || (decide (65 ≤ c.toNat) && decide (c.toNat ≤ 90))
def digU (c : UInt8) : Bool := (decide (48 ≤ c.toNat) && decide (c.toNat ≤ 57)) || decide (c.toNat = 95)
def nameT : Nat → List UInt8 → Bool
 | _,[] => true
 | i,c :: l => (letB c || (decide (i ≠ 0) && digU c)) && nameT (i + 1) l
def isNameB (s : List UInt8) : Bool := decide (s ≠ []) && decide (s.length ≤ 32) && nameT 0 s
def nmC (s : List UInt8) : List AV := s.map fun c => .int .u8 (c.toNat : Int)
theorem nmC_at {s : List UInt8} {i : Nat} {c : UInt8} (h : s[i]? = some c) : (nmC s)[i]? = some (.int .u8 (c.toNat : Int)) := by simp [nmC,h]
theorem nameT_drop {s : List UInt8} {i : Nat} {c : UInt8} (h : s[i]? = some c) : nameT i (s.drop i) = ((letB c || (decide (i ≠ 0) && digU c)) && nameT (i + 1) (s.drop (i + 1))) := by
 have hd : s.drop i = c :: s.drop (i + 1) := by
  rw [List.getElem?_eq_some_iff] at h
  obtain ⟨h1,h2⟩ := h
  rw [← h2]; exact List.drop_eq_getElem_cons h1
 rw [hd]; rfl
set_option maxHeartbeats 4000000 in
theorem Tryz.name_loop {O : Oracle} {K : Nat} (s : List UInt8) (hl : s.length ≤ 32) (hK : s.length < K) {b : Code} (hb : loopsF Tryz.f34 = [b]) :
  ∃ F : Env → Bool → Env,∀ env0 d,(Eng.look env0 15 = .slice 0 0 s.length none ∧ Eng.look env0 16 = .int .i64 s.length ∧ Eng.look env0 17 = .int .i64 0) →
   execC (tyOf Tryz.prog) (fun _ => [17]) O K 57 0 true (.loop b) ⟨env0,[.cells false 1 (nmC s)],d⟩ = some (if nameT 0 s = true then .exit 0 else .ret,⟨F env0 d,[.cells false 1 (nmC s)],d⟩) ∧
    (nameT 0 s = false → Eng.look (F env0 d) 2 = .bool false) := by
 refine loop_rule rfl (fun env0 => Eng.look env0 15 = .slice 0 0 s.length none ∧ Eng.look env0 16 = .int .i64 s.length ∧ Eng.look env0 17 = .int .i64 0) (fun _ env' => nameT 0 s = false → Eng.look env' 2 = .bool false) ?_
 rintro env0 d ⟨h15,h16,h17⟩
 simp [loopsF,loopsC,Tryz.f34] at hb
 have hn : normE [17] (writesC b) env0 ((17,.int .i64 ((0 : Nat) : Int)) :: env0) = normE [17] (writesC b) env0 env0 := by simp [normE,h17]
 rw [← hn]
 have hcl : (nmC s).length = s.length := by simp [nmC]
 refine iter_ind (α := Nat) (fun n => ⟨normE [17] (writesC b) env0 ((17,.int .i64 (n : Int)) :: env0),[.cells false 1 (nmC s)],d⟩) (fun n => s.length - n) (fun n => n ≤ s.length ∧ nameT n (s.drop n) = nameT 0 s) _ _ d _ (by split <;> simp) ?_ K 0 ⟨by omega,rfl⟩ (by omega)
 rintro n ⟨hn1,hn2⟩
 clear hn
 subst hb
 by_cases hlt : n < s.length
 ·obtain ⟨c,hc⟩ : ∃ c,s[n]? = some c := ⟨s[n],List.getElem?_eq_getElem hlt⟩
  have hd := nameT_drop hc
  rw [hn2] at hd
  have k1 : ∀ h,(nmC s)[n]'h = .int .u8 (c.toNat : Int) := fun h => by
   have := nmC_at hc
   rw [List.getElem?_eq_getElem h] at this
   exact Option.some.inj this
  have w1 : IntKind.i64.wrap ((n : Int) + 1) = ((n + 1 : Nat) : Int) := by rw [wrap_i64 (by omega) (by omega)]; omega
  have hlc : n < (nmC s).length := by omega
  obtain ⟨v,hv⟩ : ∃ v,v = c.toNat := ⟨_,rfl⟩
  rw [← hv] at k1
  have hcase : (v < 48) ∨ (48 ≤ v ∧ v ≤ 57) ∨ (58 ≤ v ∧ v ≤ 64) ∨ (65 ≤ v ∧ v ≤ 90) ∨ (91 ≤ v ∧ v ≤ 94) ∨ (v = 95) ∨ (v = 96) ∨ (97 ≤ v ∧ v ≤ 122) ∨ (123 ≤ v) := by omega
  have hlb : letB c = ((decide (97 ≤ v) && decide (v ≤ 122)) || (decide (65 ≤ v) && decide (v ≤ 90))) := by rw [hv]; rfl
  have hdb : digU c = ((decide (48 ≤ v) && decide (v ≤ 57)) || decide (v = 95)) := by rw [hv]; rfl
  by_cases hn0 : n = 0
  ·have hz : (n : Int) = 0 := by omega
   subst hn0
   have hp : 0 < s.length := by omega
   have wz : IntKind.i64.wrap 1 = 1 := rfl
   rcases hcase with h | h | h | h | h | h | h | h | h
   ·have f : ¬ (97 : Int) ≤ (v : Int) ∧ ¬ (97 : Nat) ≤ v ∧ (v : Int) ≤ (122 : Int) ∧ v ≤ (122 : Nat) ∧ ¬ (65 : Int) ≤ (v : Int) ∧ ¬ (65 : Nat) ≤ v ∧ (v : Int) ≤ (90 : Int) ∧ v ≤ (90 : Nat) ∧ ¬ (48 : Int) ≤ (v : Int) ∧ ¬ (48 : Nat) ≤ v ∧ (v : Int) ≤ (57 : Int) ∧ v ≤ (57 : Nat) ∧ ¬ (v : Int) = (95 : Int) ∧ ¬ v = (95 : Nat) := by omega
    have hok : (letB c || (decide (0 ≠ 0) && digU c)) = false := by rw [hlb,hdb]; simp [f]
    rw [hok,Bool.false_and] at hd
    right
    rw [hd]
    clear hd hn2 hok
    simp [h15,h16,hlt,hcl,k1,f,hp]
   ·have f : ¬ (97 : Int) ≤ (v : Int) ∧ ¬ (97 : Nat) ≤ v ∧ (v : Int) ≤ (122 : Int) ∧ v ≤ (122 : Nat) ∧ ¬ (65 : Int) ≤ (v : Int) ∧ ¬ (65 : Nat) ≤ v ∧ (v : Int) ≤ (90 : Int) ∧ v ≤ (90 : Nat) ∧ (48 : Int) ≤ (v : Int) ∧ (48 : Nat) ≤ v ∧ (v : Int) ≤ (57 : Int) ∧ v ≤ (57 : Nat) ∧ ¬ (v : Int) = (95 : Int) ∧ ¬ v = (95 : Nat) := by omega
    have hok : (letB c || (decide (0 ≠ 0) && digU c)) = false := by rw [hlb,hdb]; simp [f]
    rw [hok,Bool.false_and] at hd
    right
    rw [hd]
    clear hd hn2 hok
    simp [h15,h16,hlt,hcl,k1,f,hp]
   ·have f : ¬ (97 : Int) ≤ (v : Int) ∧ ¬ (97 : Nat) ≤ v ∧ (v : Int) ≤ (122 : Int) ∧ v ≤ (122 : Nat) ∧ ¬ (65 : Int) ≤ (v : Int) ∧ ¬ (65 : Nat) ≤ v ∧ (v : Int) ≤ (90 : Int) ∧ v ≤ (90 : Nat) ∧ (48 : Int) ≤ (v : Int) ∧ (48 : Nat) ≤ v ∧ ¬ (v : Int) ≤ (57 : Int) ∧ ¬ v ≤ (57 : Nat) ∧ ¬ (v : Int) = (95 : Int) ∧ ¬ v = (95 : Nat) := by omega
    have hok : (letB c || (decide (0 ≠ 0) && digU c)) = false := by rw [hlb,hdb]; simp [f]
    rw [hok,Bool.false_and] at hd
    right
    rw [hd]
    clear hd hn2 hok
    simp [h15,h16,hlt,hcl,k1,f,hp]
   ·have f : ¬ (97 : Int) ≤ (v : Int) ∧ ¬ (97 : Nat) ≤ v ∧ (v : Int) ≤ (122 : Int) ∧ v ≤ (122 : Nat) ∧ (65 : Int) ≤ (v : Int) ∧ (65 : Nat) ≤ v ∧ (v : Int) ≤ (90 : Int) ∧ v ≤ (90 : Nat) ∧ (48 : Int) ≤ (v : Int) ∧ (48 : Nat) ≤ v ∧ ¬ (v : Int) ≤ (57 : Int) ∧ ¬ v ≤ (57 : Nat) ∧ ¬ (v : Int) = (95 : Int) ∧ ¬ v = (95 : Nat) := by omega
    have hok : (letB c || (decide (0 ≠ 0) && digU c)) = true := by rw [hlb,hdb]; simp [f]
    rw [hok,Bool.true_and] at hd
    left
    refine ⟨0 + 1,?_⟩
    refine exists_and_fin (show (0 + 1 ≤ s.length ∧ nameT (0 + 1) (s.drop (0 + 1)) = nameT 0 s) ∧ s.length - (0 + 1) < s.length - 0 from ⟨⟨by omega,hd.symm⟩,by omega⟩) ?_
    clear hd hn2 hok
    simp [h15,h16,hlt,hcl,k1,f,hp,wz]
   ·have f : ¬ (97 : Int) ≤ (v : Int) ∧ ¬ (97 : Nat) ≤ v ∧ (v : Int) ≤ (122 : Int) ∧ v ≤ (122 : Nat) ∧ (65 : Int) ≤ (v : Int) ∧ (65 : Nat) ≤ v ∧ ¬ (v : Int) ≤ (90 : Int) ∧ ¬ v ≤ (90 : Nat) ∧ (48 : Int) ≤ (v : Int) ∧ (48 : Nat) ≤ v ∧ ¬ (v : Int) ≤ (57 : Int) ∧ ¬ v ≤ (57 : Nat) ∧ ¬ (v : Int) = (95 : Int) ∧ ¬ v = (95 : Nat) := by omega
    have hok : (letB c || (decide (0 ≠ 0) && digU c)) = false := by rw [hlb,hdb]; simp [f]
    rw [hok,Bool.false_and] at hd
    right
    rw [hd]
    clear hd hn2 hok
    simp [h15,h16,hlt,hcl,k1,f,hp]
   ·have f : ¬ (97 : Int) ≤ (v : Int) ∧ ¬ (97 : Nat) ≤ v ∧ (v : Int) ≤ (122 : Int) ∧ v ≤ (122 : Nat) ∧ (65 : Int) ≤ (v : Int) ∧ (65 : Nat) ≤ v ∧ ¬ (v : Int) ≤ (90 : Int) ∧ ¬ v ≤ (90 : Nat) ∧ (48 : Int) ≤ (v : Int) ∧ (48 : Nat) ≤ v ∧ ¬ (v : Int) ≤ (57 : Int) ∧ ¬ v ≤ (57 : Nat) ∧ (v : Int) = (95 : Int) ∧ v = (95 : Nat) := by omega
    have hok : (letB c || (decide (0 ≠ 0) && digU c)) = false := by rw [hlb,hdb]; simp [f]
    rw [hok,Bool.false_and] at hd
    right
    rw [hd]
    clear hd hn2 hok
    simp [h15,h16,hlt,hcl,k1,f,hp]
   ·have f : ¬ (97 : Int) ≤ (v : Int) ∧ ¬ (97 : Nat) ≤ v ∧ (v : Int) ≤ (122 : Int) ∧ v ≤ (122 : Nat) ∧ (65 : Int) ≤ (v : Int) ∧ (65 : Nat) ≤ v ∧ ¬ (v : Int) ≤ (90 : Int) ∧ ¬ v ≤ (90 : Nat) ∧ (48 : Int) ≤ (v : Int) ∧ (48 : Nat) ≤ v ∧ ¬ (v : Int) ≤ (57 : Int) ∧ ¬ v ≤ (57 : Nat) ∧ ¬ (v : Int) = (95 : Int) ∧ ¬ v = (95 : Nat) := by omega
    have hok : (letB c || (decide (0 ≠ 0) && digU c)) = false := by rw [hlb,hdb]; simp [f]
    rw [hok,Bool.false_and] at hd
    right
    rw [hd]
    clear hd hn2 hok
    simp [h15,h16,hlt,hcl,k1,f,hp]
   ·have f : (97 : Int) ≤ (v : Int) ∧ (97 : Nat) ≤ v ∧ (v : Int) ≤ (122 : Int) ∧ v ≤ (122 : Nat) ∧ (65 : Int) ≤ (v : Int) ∧ (65 : Nat) ≤ v ∧ ¬ (v : Int) ≤ (90 : Int) ∧ ¬ v ≤ (90 : Nat) ∧ (48 : Int) ≤ (v : Int) ∧ (48 : Nat) ≤ v ∧ ¬ (v : Int) ≤ (57 : Int) ∧ ¬ v ≤ (57 : Nat) ∧ ¬ (v : Int) = (95 : Int) ∧ ¬ v = (95 : Nat) := by omega
    have hok : (letB c || (decide (0 ≠ 0) && digU c)) = true := by rw [hlb,hdb]; simp [f]
    rw [hok,Bool.true_and] at hd
    left
    refine ⟨0 + 1,?_⟩
    refine exists_and_fin (show (0 + 1 ≤ s.length ∧ nameT (0 + 1) (s.drop (0 + 1)) = nameT 0 s) ∧ s.length - (0 + 1) < s.length - 0 from ⟨⟨by omega,hd.symm⟩,by omega⟩) ?_
    clear hd hn2 hok
    simp [h15,h16,hlt,hcl,k1,f,hp,wz]
   ·have f : (97 : Int) ≤ (v : Int) ∧ (97 : Nat) ≤ v ∧ ¬ (v : Int) ≤ (122 : Int) ∧ ¬ v ≤ (122 : Nat) ∧ (65 : Int) ≤ (v : Int) ∧ (65 : Nat) ≤ v ∧ ¬ (v : Int) ≤ (90 : Int) ∧ ¬ v ≤ (90 : Nat) ∧ (48 : Int) ≤ (v : Int) ∧ (48 : Nat) ≤ v ∧ ¬ (v : Int) ≤ (57 : Int) ∧ ¬ v ≤ (57 : Nat) ∧ ¬ (v : Int) = (95 : Int) ∧ ¬ v = (95 : Nat) := by omega
    have hok : (letB c || (decide (0 ≠ 0) && digU c)) = false := by rw [hlb,hdb]; simp [f]
    rw [hok,Bool.false_and] at hd
    right
    rw [hd]
    clear hd hn2 hok
    simp [h15,h16,hlt,hcl,k1,f,hp]
  ·have hz : ¬ (n : Int) = 0 := by omega
   rcases hcase with h | h | h | h | h | h | h | h | h
   ·have f : ¬ (97 : Int) ≤ (v : Int) ∧ ¬ (97 : Nat) ≤ v ∧ (v : Int) ≤ (122 : Int) ∧ v ≤ (122 : Nat) ∧ ¬ (65 : Int) ≤ (v : Int) ∧ ¬ (65 : Nat) ≤ v ∧ (v : Int) ≤ (90 : Int) ∧ v ≤ (90 : Nat) ∧ ¬ (48 : Int) ≤ (v : Int) ∧ ¬ (48 : Nat) ≤ v ∧ (v : Int) ≤ (57 : Int) ∧ v ≤ (57 : Nat) ∧ ¬ (v : Int) = (95 : Int) ∧ ¬ v = (95 : Nat) := by omega
    have hok : (letB c || (decide (n ≠ 0) && digU c)) = false := by rw [hlb,hdb]; simp [f,hn0]
    rw [hok,Bool.false_and] at hd
    right
    rw [hd]
    clear hd hn2 hok
    simp [h15,h16,hlt,hcl,k1,f,hn0,hz]
   ·have f : ¬ (97 : Int) ≤ (v : Int) ∧ ¬ (97 : Nat) ≤ v ∧ (v : Int) ≤ (122 : Int) ∧ v ≤ (122 : Nat) ∧ ¬ (65 : Int) ≤ (v : Int) ∧ ¬ (65 : Nat) ≤ v ∧ (v : Int) ≤ (90 : Int) ∧ v ≤ (90 : Nat) ∧ (48 : Int) ≤ (v : Int) ∧ (48 : Nat) ≤ v ∧ (v : Int) ≤ (57 : Int) ∧ v ≤ (57 : Nat) ∧ ¬ (v : Int) = (95 : Int) ∧ ¬ v = (95 : Nat) := by omega
    have hok : (letB c || (decide (n ≠ 0) && digU c)) = true := by rw [hlb,hdb]; simp [f,hn0]
    rw [hok,Bool.true_and] at hd
    left
    refine ⟨n + 1,?_⟩
    refine exists_and_fin (show (n + 1 ≤ s.length ∧ nameT (n + 1) (s.drop (n + 1)) = nameT 0 s) ∧ s.length - (n + 1) < s.length - n from ⟨⟨by omega,hd.symm⟩,by omega⟩) ?_
    clear hd hn2 hok
    simp [h15,h16,hlt,hcl,k1,f,hn0,hz,w1]
   ·have f : ¬ (97 : Int) ≤ (v : Int) ∧ ¬ (97 : Nat) ≤ v ∧ (v : Int) ≤ (122 : Int) ∧ v ≤ (122 : Nat) ∧ ¬ (65 : Int) ≤ (v : Int) ∧ ¬ (65 : Nat) ≤ v ∧ (v : Int) ≤ (90 : Int) ∧ v ≤ (90 : Nat) ∧ (48 : Int) ≤ (v : Int) ∧ (48 : Nat) ≤ v ∧ ¬ (v : Int) ≤ (57 : Int) ∧ ¬ v ≤ (57 : Nat) ∧ ¬ (v : Int) = (95 : Int) ∧ ¬ v = (95 : Nat) := by omega
    have hok : (letB c || (decide (n ≠ 0) && digU c)) = false := by rw [hlb,hdb]; simp [f,hn0]
    rw [hok,Bool.false_and] at hd
    right
    rw [hd]
    clear hd hn2 hok
    simp [h15,h16,hlt,hcl,k1,f,hn0,hz]
   ·have f : ¬ (97 : Int) ≤ (v : Int) ∧ ¬ (97 : Nat) ≤ v ∧ (v : Int) ≤ (122 : Int) ∧ v ≤ (122 : Nat) ∧ (65 : Int) ≤ (v : Int) ∧ (65 : Nat) ≤ v ∧ (v : Int) ≤ (90 : Int) ∧ v ≤ (90 : Nat) ∧ (48 : Int) ≤ (v : Int) ∧ (48 : Nat) ≤ v ∧ ¬ (v : Int) ≤ (57 : Int) ∧ ¬ v ≤ (57 : Nat) ∧ ¬ (v : Int) = (95 : Int) ∧ ¬ v = (95 : Nat) := by omega
    have hok : (letB c || (decide (n ≠ 0) && digU c)) = true := by rw [hlb,hdb]; simp [f,hn0]
    rw [hok,Bool.true_and] at hd
    left
    refine ⟨n + 1,?_⟩
    refine exists_and_fin (show (n + 1 ≤ s.length ∧ nameT (n + 1) (s.drop (n + 1)) = nameT 0 s) ∧ s.length - (n + 1) < s.length - n from ⟨⟨by omega,hd.symm⟩,by omega⟩) ?_
    clear hd hn2 hok
    simp [h15,h16,hlt,hcl,k1,f,hn0,hz,w1]
   ·have f : ¬ (97 : Int) ≤ (v : Int) ∧ ¬ (97 : Nat) ≤ v ∧ (v : Int) ≤ (122 : Int) ∧ v ≤ (122 : Nat) ∧ (65 : Int) ≤ (v : Int) ∧ (65 : Nat) ≤ v ∧ ¬ (v : Int) ≤ (90 : Int) ∧ ¬ v ≤ (90 : Nat) ∧ (48 : Int) ≤ (v : Int) ∧ (48 : Nat) ≤ v ∧ ¬ (v : Int) ≤ (57 : Int) ∧ ¬ v ≤ (57 : Nat) ∧ ¬ (v : Int) = (95 : Int) ∧ ¬ v = (95 : Nat) := by omega
    have hok : (letB c || (decide (n ≠ 0) && digU c)) = false := by rw [hlb,hdb]; simp [f,hn0]
    rw [hok,Bool.false_and] at hd
    right
    rw [hd]
    clear hd hn2 hok
    simp [h15,h16,hlt,hcl,k1,f,hn0,hz]
   ·have f : ¬ (97 : Int) ≤ (v : Int) ∧ ¬ (97 : Nat) ≤ v ∧ (v : Int) ≤ (122 : Int) ∧ v ≤ (122 : Nat) ∧ (65 : Int) ≤ (v : Int) ∧ (65 : Nat) ≤ v ∧ ¬ (v : Int) ≤ (90 : Int) ∧ ¬ v ≤ (90 : Nat) ∧ (48 : Int) ≤ (v : Int) ∧ (48 : Nat) ≤ v ∧ ¬ (v : Int) ≤ (57 : Int) ∧ ¬ v ≤ (57 : Nat) ∧ (v : Int) = (95 : Int) ∧ v = (95 : Nat) := by omega
    have hok : (letB c || (decide (n ≠ 0) && digU c)) = true := by rw [hlb,hdb]; simp [f,hn0]
    rw [hok,Bool.true_and] at hd
    left
    refine ⟨n + 1,?_⟩
    refine exists_and_fin (show (n + 1 ≤ s.length ∧ nameT (n + 1) (s.drop (n + 1)) = nameT 0 s) ∧ s.length - (n + 1) < s.length - n from ⟨⟨by omega,hd.symm⟩,by omega⟩) ?_
    clear hd hn2 hok
    simp [h15,h16,hlt,hcl,k1,f,hn0,hz,w1]
   ·have f : ¬ (97 : Int) ≤ (v : Int) ∧ ¬ (97 : Nat) ≤ v ∧ (v : Int) ≤ (122 : Int) ∧ v ≤ (122 : Nat) ∧ (65 : Int) ≤ (v : Int) ∧ (65 : Nat) ≤ v ∧ ¬ (v : Int) ≤ (90 : Int) ∧ ¬ v ≤ (90 : Nat) ∧ (48 : Int) ≤ (v : Int) ∧ (48 : Nat) ≤ v ∧ ¬ (v : Int) ≤ (57 : Int) ∧ ¬ v ≤ (57 : Nat) ∧ ¬ (v : Int) = (95 : Int) ∧ ¬ v = (95 : Nat) := by omega
    have hok : (letB c || (decide (n ≠ 0) && digU c)) = false := by rw [hlb,hdb]; simp [f,hn0]
    rw [hok,Bool.false_and] at hd
    right
    rw [hd]
    clear hd hn2 hok
    simp [h15,h16,hlt,hcl,k1,f,hn0,hz]
   ·have f : (97 : Int) ≤ (v : Int) ∧ (97 : Nat) ≤ v ∧ (v : Int) ≤ (122 : Int) ∧ v ≤ (122 : Nat) ∧ (65 : Int) ≤ (v : Int) ∧ (65 : Nat) ≤ v ∧ ¬ (v : Int) ≤ (90 : Int) ∧ ¬ v ≤ (90 : Nat) ∧ (48 : Int) ≤ (v : Int) ∧ (48 : Nat) ≤ v ∧ ¬ (v : Int) ≤ (57 : Int) ∧ ¬ v ≤ (57 : Nat) ∧ ¬ (v : Int) = (95 : Int) ∧ ¬ v = (95 : Nat) := by omega
    have hok : (letB c || (decide (n ≠ 0) && digU c)) = true := by rw [hlb,hdb]; simp [f,hn0]
    rw [hok,Bool.true_and] at hd
    left
    refine ⟨n + 1,?_⟩
    refine exists_and_fin (show (n + 1 ≤ s.length ∧ nameT (n + 1) (s.drop (n + 1)) = nameT 0 s) ∧ s.length - (n + 1) < s.length - n from ⟨⟨by omega,hd.symm⟩,by omega⟩) ?_
    clear hd hn2 hok
    simp [h15,h16,hlt,hcl,k1,f,hn0,hz,w1]
   ·have f : (97 : Int) ≤ (v : Int) ∧ (97 : Nat) ≤ v ∧ ¬ (v : Int) ≤ (122 : Int) ∧ ¬ v ≤ (122 : Nat) ∧ (65 : Int) ≤ (v : Int) ∧ (65 : Nat) ≤ v ∧ ¬ (v : Int) ≤ (90 : Int) ∧ ¬ v ≤ (90 : Nat) ∧ (48 : Int) ≤ (v : Int) ∧ (48 : Nat) ≤ v ∧ ¬ (v : Int) ≤ (57 : Int) ∧ ¬ v ≤ (57 : Nat) ∧ ¬ (v : Int) = (95 : Int) ∧ ¬ v = (95 : Nat) := by omega
    have hok : (letB c || (decide (n ≠ 0) && digU c)) = false := by rw [hlb,hdb]; simp [f,hn0]
    rw [hok,Bool.false_and] at hd
    right
    rw [hd]
    clear hd hn2 hok
    simp [h15,h16,hlt,hcl,k1,f,hn0,hz]
 ·right
  have e : s.drop n = [] := List.drop_eq_nil_of_le (by omega)
  rw [e] at hn2
  rw [← hn2]
  simp [nameT,h16,hlt]
set_option maxHeartbeats 1600000 in
theorem Tryz.aIsName (s : List UInt8) (hs : s.length ≤ 1000000000) (mem : Mem) : ACallsTo Tryz.prog 34 [.str s] mem (.bool (isNameB s)) mem := by
 have hG : fnOf Tryz.prog 34 = some Tryz.f34 := by kernel_rfl
 refine Tryz.run (noOracle_ok _) (lv := fun _ => [17]) (K := s.length + 1) rfl rfl ?_ mem
 by_cases h0 : s = []
 ·subst h0
  simp [callFn,hG,Tryz.f34,isNameB]
 ·have hb0 : (s == []) = false := by simpa using h0
  by_cases h32 : s.length ≤ 32
  ·have h32' : ¬ (32 : Int) < s.length := by omega
   obtain ⟨b,hb⟩ : ∃ b,loopsF Tryz.f34 = [b] := ⟨_,rfl⟩
   obtain ⟨F,hF⟩ := Tryz.name_loop (O := noOracle) (K := s.length + 1) s h32 (by omega) hb
   simp [loopsF,loopsC,Tryz.f34] at hb
   subst hb
   have hfold : (s.map fun c => AV.int .u8 (c.toNat : Int)) = nmC s := rfl
   cases hn : nameT 0 s with
   | true =>
    rw [hn,if_pos rfl] at hF
    have hF1 := fun env0 d h => (hF env0 d h).1
    have h32n : ¬ 32 < s.length := by omega
    simp [callFn,hG,Tryz.f34,hb0,h32',h32n,aConvBytes,hfold,hF1,isNameB,h0,h32,hn]
   | false =>
    rw [hn,if_neg (by simp)] at hF
    have hF1 := fun env0 d h => (hF env0 d h).1
    have hF2 := fun env0 d h => (hF env0 d h).2 rfl
    have h32n : ¬ 32 < s.length := by omega
    simp [callFn,hG,Tryz.f34,hb0,h32',h32n,aConvBytes,hfold,hF1,hF2,isNameB,h0,hn]
  ·have h32' : (32 : Int) < s.length := by omega
   have h32n : 32 < s.length := by omega
   simp [callFn,hG,Tryz.f34,hb0,h32',h32n,isNameB,h32]
def relE (k : Int) (u l : List UInt8) : Int := if k < 1 ∨ 4 < k then 12 else if isNameB u = false ∨ isNameB l = false then 8 else if u = l then 14 else 0
noncomputable def Tryz.nmF (f : FuncId) (args : List AV) : Option AV := match f,args with
 | 34,[.str s] => if s.length ≤ 1000000000 then some (.bool (isNameB s)) else none
 | _,_ => none
theorem Tryz.nm_ok : OracleOk Tryz.prog (pureO Tryz.nmF) := pureO_ok fun f args v h mem => by
 unfold Tryz.nmF at h
 split at h
 ·split at h
  ·rename_i hc; cases h; exact Tryz.aIsName _ hc mem
  ·cases h
 ·cases h
set_option maxHeartbeats 1600000 in
theorem Tryz.aRelCheck (k : Int) (u l : List UInt8) (hu : u.length ≤ 1000000000) (hl : l.length ≤ 1000000000) (mem : Mem) :
  ACallsTo Tryz.prog 19 [.agg [.int .i64 k,.str u,.str l]] mem (.int .i64 (relE k u l)) mem := by
 have hG : fnOf Tryz.prog 19 = some Tryz.f19 := by kernel_rfl
 refine Tryz.run Tryz.nm_ok (lv := fun _ => []) (K := 1) rfl rfl ?_ mem
 unfold relE
 by_cases h1 : k < 1
 ·simp [callFn,hG,Tryz.f19,pureO,Tryz.nmF,h1]
 ·by_cases h2 : 4 < k
  ·simp [callFn,hG,Tryz.f19,pureO,Tryz.nmF,h1,h2]
  ·cases hn : isNameB u with
   | false => simp [callFn,hG,Tryz.f19,pureO,Tryz.nmF,h1,h2,hu,hn]
   | true => cases hm : isNameB l with
    | false => simp [callFn,hG,Tryz.f19,pureO,Tryz.nmF,h1,h2,hu,hn,hl,hm]
    | true =>
     by_cases hul : u = l
     ·subst hul
      simp [callFn,hG,Tryz.f19,pureO,Tryz.nmF,h1,h2,hu,hn]
     ·have hb : (u == l) = false := by simpa using hul
      simp [callFn,hG,Tryz.f19,pureO,Tryz.nmF,h1,h2,hu,hn,hl,hm,hul,hb]
end Go.Proofs
