/- See L55. -/
import Derived.Test.YtiopbpbcgccngaaGreatDoorL17
import Derived.Test.YtiopbpbcgccngaaGreatDoorL24
import Derived.Test.YtiopbpbcgccngaaGreatDoorL08
import Derived.Test.YtiopbpbcgccngaaGreatDoorL25
import Derived.Test.YtiopbpbcgccngaaGreatDoorL33
set_option linter.all false
namespace Go.Proofs
open Go.Eng
def letB (c : UInt8) : Bool := (decide (97 ≤ c.toNat) && decide (c.toNat ≤ 122)) || (decide (65 ≤ c.toNat) && decide (c.toNat ≤ 90))
def digU (c : UInt8) : Bool := (decide (48 ≤ c.toNat) && decide (c.toNat ≤ 57)) || decide (c.toNat = 95)
def nameT : Nat → List UInt8 → Bool
 | _,[] => true
 | i,c :: l => (letB c || (decide (i ≠ 0) && digU c)) && nameT (i + 1) l
def isNameB (s : List UInt8) : Bool := decide (s ≠ []) && decide (s.length ≤ 32) && nameT 0 s
def nmC (s : List UInt8) : List AV := s.map fun c => .int .u8 (c.toNat : Int)
theorem nmC_at {s : List UInt8} {i : Nat} {c : UInt8} (h : s[i]? = some c) : (nmC s)[i]? = some (.int .u8 (c.toNat : Int)) := by simp [nmC,h]
theorem nameT_drop {s : List UInt8} {i : Nat} {c : UInt8} (h : s[i]? = some c) : nameT i (s.drop i) = ((letB c || (decide (i ≠ 0) && digU c)) && nameT (i + 1) (s.drop (i + 1))) := by
 have hd : s.drop i = c :: s.drop (i + 1) := by
  rw [List.getElem?_eq_some_iff] at h
  obtain ⟨h1,h2⟩ := h
  rw [← h2]; exact List.drop_eq_getElem_cons h1
 rw [hd]; rfl
set_option maxHeartbeats 4000000 in
theorem Tryz.name_loop {O : Oracle} {K : Nat} (s : List UInt8) (hl : s.length ≤ 32) (hK : s.length < K) {b : Code} (hb : loopsF Tryz.f54 = [b]) :
  ∃ F : Env → Bool → Env,∀ env0 d,(Eng.look env0 15 = .slice 0 0 s.length none ∧ Eng.look env0 16 = .int .i64 s.length ∧ Eng.look env0 17 = .int .i64 0) →
   execC (tyOf Tryz.prog) (fun _ => [17]) O K 57 0 true (.loop b) ⟨env0,[.cells false 1 (nmC s)],d⟩ = some (if nameT 0 s = true then .exit 0 else .ret,⟨F env0 d,[.cells false 1 (nmC s)],d⟩) ∧
    (nameT 0 s = false → Eng.look (F env0 d) 2 = .bool false) := by
 refine loop_rule rfl (fun env0 => Eng.look env0 15 = .slice 0 0 s.length none ∧ Eng.look env0 16 = .int .i64 s.length ∧ Eng.look env0 17 = .int .i64 0) (fun _ env' => nameT 0 s = false → Eng.look env' 2 = .bool false) ?_
 rintro env0 d ⟨h15,h16,h17⟩
 simp [loopsF,loopsC,Tryz.f54] at hb
 have hn : normE [17] (writesC b) env0 ((17,.int .i64 ((0 : Nat) : Int)) :: env0) = normE [17] (writesC b) env0 env0 := by simp [normE,h17]
 rw [← hn]
 have hcl : (nmC s).length = s.length := by simp [nmC]
 refine iter_ind (α := Nat) (fun n => ⟨normE [17] (writesC b) env0 ((17,.int .i64 (n : Int)) :: env0),[.cells false 1 (nmC s)],d⟩) (fun n => s.length - n) (fun n => n ≤ s.length ∧ nameT n (s.drop n) = nameT 0 s) _ _ d _ (by split <;> simp) ?_ K 0 ⟨by omega,rfl⟩ (by omega)
 rintro n ⟨hn1,hn2⟩
 clear hn
 subst hb
 by_cases hlt : n < s.length
 ·obtain ⟨c,hc⟩ : ∃ c,s[n]? = some c := ⟨s[n],List.getElem?_eq_getElem hlt⟩
  have hd := nameT_drop hc
  rw [hn2] at hd
  have k1 : ∀ h,(nmC s)[n]'h = .int .u8 (c.toNat : Int) := fun h => by
   have := nmC_at hc
   rw [List.getElem?_eq_getElem h] at this
   exact Option.some.inj this
  have w1 : IntKind.i64.wrap ((n : Int) + 1) = ((n + 1 : Nat) : Int) := by rw [wrap_i64 (by omega) (by omega)]; omega
  have hlc : n < (nmC s).length := by omega
  obtain ⟨v,hv⟩ : ∃ v,v = c.toNat := ⟨_,rfl⟩
  rw [← hv] at k1
  have hcase : (v < 48) ∨ (48 ≤ v ∧ v ≤ 57) ∨ (58 ≤ v ∧ v ≤ 64) ∨ (65 ≤ v ∧ v ≤ 90) ∨ (91 ≤ v ∧ v ≤ 94) ∨ (v = 95) ∨ (v = 96) ∨ (97 ≤ v ∧ v ≤ 122) ∨ (123 ≤ v) := by omega
  have hlb : letB c = ((decide (97 ≤ v) && decide (v ≤ 122)) || (decide (65 ≤ v) && decide (v ≤ 90))) := by rw [hv]; rfl
  have hdb : digU c = ((decide (48 ≤ v) && decide (v ≤ 57)) || decide (v = 95)) := by rw [hv]; rfl
  by_cases hn0 : n = 0
  ·have hz : (n : Int) = 0 := by omega
   subst hn0
   have hp : 0 < s.length := by omega
   have wz : IntKind.i64.wrap 1 = 1 := rfl
   rcases hcase with h | h | h | h | h | h | h | h | h
   ·have f : ¬ (97 : Int) ≤ (v : Int) ∧ ¬ (97 : Nat) ≤ v ∧ (v : Int) ≤ (122 : Int) ∧ v ≤ (122 : Nat) ∧ ¬ (65 : Int) ≤ (v : Int) ∧ ¬ (65 : Nat) ≤ v ∧ (v : Int) ≤ (90 : Int) ∧ v ≤ (90 : Nat) ∧ ¬ (48 : Int) ≤ (v : Int) ∧ ¬ (48 : Nat) ≤ v ∧ (v : Int) ≤ (57 : Int) ∧ v ≤ (57 : Nat) ∧ ¬ (v : Int) = (95 : Int) ∧ ¬ v = (95 : Nat) := by omega
    have hok : (letB c || (decide (0 ≠ 0) && digU c)) = false := by rw [hlb,hdb]; simp [f]
    rw [hok,Bool.false_and] at hd
    right
    rw [hd]
    clear hd hn2 hok
    simp [h15,h16,hlt,hcl,k1,f,hp]
   ·have f : ¬ (97 : Int) ≤ (v : Int) ∧ ¬ (97 : Nat) ≤ v ∧ (v : Int) ≤ (122 : Int) ∧ v ≤ (122 : Nat) ∧ ¬ (65 : Int) ≤ (v : Int) ∧ ¬ (65 : Nat) ≤ v ∧ (v : Int) ≤ (90 : Int) ∧ v ≤ (90 : Nat) ∧ (48 : Int) ≤ (v : Int) ∧ (48 : Nat) ≤ v ∧ (v : Int) ≤ (57 : Int) ∧ v ≤ (57 : Nat) ∧ ¬ (v : Int) = (95 : Int) ∧ ¬ v = (95 : Nat) := by omega
    have hok : (letB c || (decide (0 ≠ 0) && digU c)) = false := by rw [hlb,hdb]; simp [f]
    rw [hok,Bool.false_and] at hd
    right
    rw [hd]
    clear hd hn2 hok
    simp [h15,h16,hlt,hcl,k1,f,hp]
   ·have f : ¬ (97 : Int) ≤ (v : Int) ∧ ¬ (97 : Nat) ≤ v ∧ (v : Int) ≤ (122 : Int) ∧ v ≤ (122 : Nat) ∧ ¬ (65 : Int) ≤ (v : Int) ∧ ¬ (65 : Nat) ≤ v ∧ (v : Int) ≤ (90 : Int) ∧ v ≤ (90 : Nat) ∧ (48 : Int) ≤ (v : Int) ∧ (48 : Nat) ≤ v ∧ ¬ (v : Int) ≤ (57 : Int) ∧ ¬ v ≤ (57 : Nat) ∧ ¬ (v : Int) = (95 : Int) ∧ ¬ v = (95 : Nat) := by omega
    have hok : (letB c || (decide (0 ≠ 0) && digU c)) = false := by rw [hlb,hdb]; simp [f]
    rw [hok,Bool.false_and] at hd
    right
    rw [hd]
    clear hd hn2 hok
    simp [h15,h16,hlt,hcl,k1,f,hp]
   ·have f : ¬ (97 : Int) ≤ (v : Int) ∧ ¬ (97 : Nat) ≤ v ∧ (v : Int) ≤ (122 : Int) ∧ v ≤ (122 : Nat) ∧ (65 : Int) ≤ (v : Int) ∧ (65 : Nat) ≤ v ∧ (v : Int) ≤ (90 : Int) ∧ v ≤ (90 : Nat) ∧ (48 : Int) ≤ (v : Int) ∧ (48 : Nat) ≤ v ∧ ¬ (v : Int) ≤ (57 : Int) ∧ ¬ v ≤ (57 : Nat) ∧ ¬ (v : Int) = (95 : Int) ∧ ¬ v = (95 : Nat) := by omega
    have hok : (letB c || (decide (0 ≠ 0) && digU c)) = true := by rw [hlb,hdb]; simp [f]
    rw [hok,Bool.true_and] at hd
    left
    refine ⟨0 + 1,?_⟩
    refine exists_and_fin (show (0 + 1 ≤ s.length ∧ nameT (0 + 1) (s.drop (0 + 1)) = nameT 0 s) ∧ s.length - (0 + 1) < s.length - 0 from ⟨⟨by omega,hd.symm⟩,by omega⟩) ?_
    clear hd hn2 hok
    simp [h15,h16,hlt,hcl,k1,f,hp,wz]
   ·have f : ¬ (97 : Int) ≤ (v : Int) ∧ ¬ (97 : Nat) ≤ v ∧ (v : Int) ≤ (122 : Int) ∧ v ≤ (122 : Nat) ∧ (65 : Int) ≤ (v : Int) ∧ (65 : Nat) ≤ v ∧ ¬ (v : Int) ≤ (90 : Int) ∧ ¬ v ≤ (90 : Nat) ∧ (48 : Int) ≤ (v : Int) ∧ (48 : Nat) ≤ v ∧ ¬ (v : Int) ≤ (57 : Int) ∧ ¬ v ≤ (57 : Nat) ∧ ¬ (v : Int) = (95 : Int) ∧ ¬ v = (95 : Nat) := by omega
    have hok : (letB c || (decide (0 ≠ 0) && digU c)) = false := by rw [hlb,hdb]; simp [f]
    rw [hok,Bool.false_and] at hd
    right
    rw [hd]
    clear hd hn2 hok
    simp [h15,h16,hlt,hcl,k1,f,hp]
   ·have f : ¬ (97 : Int) ≤ (v : Int) ∧ ¬ (97 : Nat) ≤ v ∧ (v : Int) ≤ (122 : Int) ∧ v ≤ (122 : Nat) ∧ (65 : Int) ≤ (v : Int) ∧ (65 : Nat) ≤ v ∧ ¬ (v : Int) ≤ (90 : Int) ∧ ¬ v ≤ (90 : Nat) ∧ (48 : Int) ≤ (v : Int) ∧ (48 : Nat) ≤ v ∧ ¬ (v : Int) ≤ (57 : Int) ∧ ¬ v ≤ (57 : Nat) ∧ (v : Int) = (95 : Int) ∧ v = (95 : Nat) := by omega
    have hok : (letB c || (decide (0 ≠ 0) && digU c)) = false := by rw [hlb,hdb]; simp [f]
    rw [hok,Bool.false_and] at hd
    right
    rw [hd]
    clear hd hn2 hok
    simp [h15,h16,hlt,hcl,k1,f,hp]
   ·have f : ¬ (97 : Int) ≤ (v : Int) ∧ ¬ (97 : Nat) ≤ v ∧ (v : Int) ≤ (122 : Int) ∧ v ≤ (122 : Nat) ∧ (65 : Int) ≤ (v : Int) ∧ (65 : Nat) ≤ v ∧ ¬ (v : Int) ≤ (90 : Int) ∧ ¬ v ≤ (90 : Nat) ∧ (48 : Int) ≤ (v : Int) ∧ (48 : Nat) ≤ v ∧ ¬ (v : Int) ≤ (57 : Int) ∧ ¬ v ≤ (57 : Nat) ∧ ¬ (v : Int) = (95 : Int) ∧ ¬ v = (95 : Nat) := by omega
    have hok : (letB c || (decide (0 ≠ 0) && digU c)) = false := by rw [hlb,hdb]; simp [f]
    rw [hok,Bool.false_and] at hd
    right
    rw [hd]
    clear hd hn2 hok
    simp [h15,h16,hlt,hcl,k1,f,hp]
   ·have f : (97 : Int) ≤ (v : Int) ∧ (97 : Nat) ≤ v ∧ (v : Int) ≤ (122 : Int) ∧ v ≤ (122 : Nat) ∧ (65 : Int) ≤ (v : Int) ∧ (65 : Nat) ≤ v ∧ ¬ (v : Int) ≤ (90 : Int) ∧ ¬ v ≤ (90 : Nat) ∧ (48 : Int) ≤ (v : Int) ∧ (48 : Nat) ≤ v ∧ ¬ (v : Int) ≤ (57 : Int) ∧ ¬ v ≤ (57 : Nat) ∧ ¬ (v : Int) = (95 : Int) ∧ ¬ v = (95 : Nat) := by omega
    have hok : (letB c || (decide (0 ≠ 0) && digU c)) = true := by rw [hlb,hdb]; simp [f]
    rw [hok,Bool.true_and] at hd
    left
    refine ⟨0 + 1,?_⟩
    refine exists_and_fin (show (0 + 1 ≤ s.length ∧ nameT (0 + 1) (s.drop (0 + 1)) = nameT 0 s) ∧ s.length - (0 + 1) < s.length - 0 from ⟨⟨by omega,hd.symm⟩,by omega⟩) ?_
    clear hd hn2 hok
    simp [h15,h16,hlt,hcl,k1,f,hp,wz]
   ·have f : (97 : Int) ≤ (v : Int) ∧ (97 : Nat) ≤ v ∧ ¬ (v : Int) ≤ (122 : Int) ∧ ¬ v ≤ (122 : Nat) ∧ (65 : Int) ≤ (v : Int) ∧ (65 : Nat) ≤ v ∧ ¬ (v : Int) ≤ (90 : Int) ∧ ¬ v ≤ (90 : Nat) ∧ (48 : Int) ≤ (v : Int) ∧ (48 : Nat) ≤ v ∧ ¬ (v : Int) ≤ (57 : Int) ∧ ¬ v ≤ (57 : Nat) ∧ ¬ (v : Int) = (95 : Int) ∧ ¬ v = (95 : Nat) := by omega
    have hok : (letB c || (decide (0 ≠ 0) && digU c)) = false := by rw [hlb,hdb]; simp [f]
    rw [hok,Bool.false_and] at hd
    right
    rw [hd]
    clear hd hn2 hok
    simp [h15,h16,hlt,hcl,k1,f,hp]
  ·have hz : ¬ (n : Int) = 0 := by omega
   rcases hcase with h | h | h | h | h | h | h | h | h
   ·have f : ¬ (97 : Int) ≤ (v : Int) ∧ ¬ (97 : Nat) ≤ v ∧ (v : Int) ≤ (122 : Int) ∧ v ≤ (122 : Nat) ∧ ¬ (65 : Int) ≤ (v : Int) ∧ ¬ (65 : Nat) ≤ v ∧ (v : Int) ≤ (90 : Int) ∧ v ≤ (90 : Nat) ∧ ¬ (48 : Int) ≤ (v : Int) ∧ ¬ (48 : Nat) ≤ v ∧ (v : Int) ≤ (57 : Int) ∧ v ≤ (57 : Nat) ∧ ¬ (v : Int) = (95 : Int) ∧ ¬ v = (95 : Nat) := by omega
    have hok : (letB c || (decide (n ≠ 0) && digU c)) = false := by rw [hlb,hdb]; simp [f,hn0]
    rw [hok,Bool.false_and] at hd
    right
    rw [hd]
    clear hd hn2 hok
    simp [h15,h16,hlt,hcl,k1,f,hn0,hz]
   ·have f : ¬ (97 : Int) ≤ (v : Int) ∧ ¬ (97 : Nat) ≤ v ∧ (v : Int) ≤ (122 : Int) ∧ v ≤ (122 : Nat) ∧ ¬ (65 : Int) ≤ (v : Int) ∧ ¬ (65 : Nat) ≤ v ∧ (v : Int) ≤ (90 : Int) ∧ v ≤ (90 : Nat) ∧ (48 : Int) ≤ (v : Int) ∧ (48 : Nat) ≤ v ∧ (v : Int) ≤ (57 : Int) ∧ v ≤ (57 : Nat) ∧ ¬ (v : Int) = (95 : Int) ∧ ¬ v = (95 : Nat) := by omega
    have hok : (letB c || (decide (n ≠ 0) && digU c)) = true := by rw [hlb,hdb]; simp [f,hn0]
    rw [hok,Bool.true_and] at hd
    left
    refine ⟨n + 1,?_⟩
    refine exists_and_fin (show (n + 1 ≤ s.length ∧ nameT (n + 1) (s.drop (n + 1)) = nameT 0 s) ∧ s.length - (n + 1) < s.length - n from ⟨⟨by omega,hd.symm⟩,by omega⟩) ?_
    clear hd hn2 hok
    simp [h15,h16,hlt,hcl,k1,f,hn0,hz,w1]
   ·have f : ¬ (97 : Int) ≤ (v : Int) ∧ ¬ (97 : Nat) ≤ v ∧ (v : Int) ≤ (122 : Int) ∧ v ≤ (122 : Nat) ∧ ¬ (65 : Int) ≤ (v : Int) ∧ ¬ (65 : Nat) ≤ v ∧ (v : Int) ≤ (90 : Int) ∧ v ≤ (90 : Nat) ∧ (48 : Int) ≤ (v : Int) ∧ (48 : Nat) ≤ v ∧ ¬ (v : Int) ≤ (57 : Int) ∧ ¬ v ≤ (57 : Nat) ∧ ¬ (v : Int) = (95 : Int) ∧ ¬ v = (95 : Nat) := by omega
    have hok : (letB c || (decide (n ≠ 0) && digU c)) = false := by rw [hlb,hdb]; simp [f,hn0]
    rw [hok,Bool.false_and] at hd
    right
    rw [hd]
    clear hd hn2 hok
    simp [h15,h16,hlt,hcl,k1,f,hn0,hz]
   ·have f : ¬ (97 : Int) ≤ (v : Int) ∧ ¬ (97 : Nat) ≤ v ∧ (v : Int) ≤ (122 : Int) ∧ v ≤ (122 : Nat) ∧ (65 : Int) ≤ (v : Int) ∧ (65 : Nat) ≤ v ∧ (v : Int) ≤ (90 : Int) ∧ v ≤ (90 : Nat) ∧ (48 : Int) ≤ (v : Int) ∧ (48 : Nat) ≤ v ∧ ¬ (v : Int) ≤ (57 : Int) ∧ ¬ v ≤ (57 : Nat) ∧ ¬ (v : Int) = (95 : Int) ∧ ¬ v = (95 : Nat) := by omega
    have hok : (letB c || (decide (n ≠ 0) && digU c)) = true := by rw [hlb,hdb]; simp [f,hn0]
    rw [hok,Bool.true_and] at hd
    left
    refine ⟨n + 1,?_⟩
    refine exists_and_fin (show (n + 1 ≤ s.length ∧ nameT (n + 1) (s.drop (n + 1)) = nameT 0 s) ∧ s.length - (n + 1) < s.length - n from ⟨⟨by omega,hd.symm⟩,by omega⟩) ?_
    clear hd hn2 hok
    simp [h15,h16,hlt,hcl,k1,f,hn0,hz,w1]
   ·have f : ¬ (97 : Int) ≤ (v : Int) ∧ ¬ (97 : Nat) ≤ v ∧ (v : Int) ≤ (122 : Int) ∧ v ≤ (122 : Nat) ∧ (65 : Int) ≤ (v : Int) ∧ (65 : Nat) ≤ v ∧ ¬ (v : Int) ≤ (90 : Int) ∧ ¬ v ≤ (90 : Nat) ∧ (48 : Int) ≤ (v : Int) ∧ (48 : Nat) ≤ v ∧ ¬ (v : Int) ≤ (57 : Int) ∧ ¬ v ≤ (57 : Nat) ∧ ¬ (v : Int) = (95 : Int) ∧ ¬ v = (95 : Nat) := by omega
    have hok : (letB c || (decide (n ≠ 0) && digU c)) = false := by rw [hlb,hdb]; simp [f,hn0]
    rw [hok,Bool.false_and] at hd
    right
    rw [hd]
    clear hd hn2 hok
    simp [h15,h16,hlt,hcl,k1,f,hn0,hz]
   ·have f : ¬ (97 : Int) ≤ (v : Int) ∧ ¬ (97 : Nat) ≤ v ∧ (v : Int) ≤ (122 : Int) ∧ v ≤ (122 : Nat) ∧ (65 : Int) ≤ (v : Int) ∧ (65 : Nat) ≤ v ∧ ¬ (v : Int) ≤ (90 : Int) ∧ ¬ v ≤ (90 : Nat) ∧ (48 : Int) ≤ (v : Int) ∧ (48 : Nat) ≤ v ∧ ¬ (v : Int) ≤ (57 : Int) ∧ ¬ v ≤ (57 : Nat) ∧ (v : Int) = (95 : Int) ∧ v = (95 : Nat) := by omega
    have hok : (letB c || (decide (n ≠ 0) && digU c)) = true := by rw [hlb,hdb]; simp [f,hn0]
    rw [hok,Bool.true_and] at hd
    left
    refine ⟨n + 1,?_⟩
    refine exists_and_fin (show (n + 1 ≤ s.length ∧ nameT (n + 1) (s.drop (n + 1)) = nameT 0 s) ∧ s.length - (n + 1) < s.length - n from ⟨⟨by omega,hd.symm⟩,by omega⟩) ?_
    clear hd hn2 hok
    simp [h15,h16,hlt,hcl,k1,f,hn0,hz,w1]
   ·have f : ¬ (97 : Int) ≤ (v : Int) ∧ ¬ (97 : Nat) ≤ v ∧ (v : Int) ≤ (122 : Int) ∧ v ≤ (122 : Nat) ∧ (65 : Int) ≤ (v : Int) ∧ (65 : Nat) ≤ v ∧ ¬ (v : Int) ≤ (90 : Int) ∧ ¬ v ≤ (90 : Nat) ∧ (48 : Int) ≤ (v : Int) ∧ (48 : Nat) ≤ v ∧ ¬ (v : Int) ≤ (57 : Int) ∧ ¬ v ≤ (57 : Nat) ∧ ¬ (v : Int) = (95 : Int) ∧ ¬ v = (95 : Nat) := by omega
    have hok : (letB c || (decide (n ≠ 0) && digU c)) = false := by rw [hlb,hdb]; simp [f,hn0]
    rw [hok,Bool.false_and] at hd
    right
    rw [hd]
    clear hd hn2 hok
    simp [h15,h16,hlt,hcl,k1,f,hn0,hz]
   ·have f : (97 : Int) ≤ (v : Int) ∧ (97 : Nat) ≤ v ∧ (v : Int) ≤ (122 : Int) ∧ v ≤ (122 : Nat) ∧ (65 : Int) ≤ (v : Int) ∧ (65 : Nat) ≤ v ∧ ¬ (v : Int) ≤ (90 : Int) ∧ ¬ v ≤ (90 : Nat) ∧ (48 : Int) ≤ (v : Int) ∧ (48 : Nat) ≤ v ∧ ¬ (v : Int) ≤ (57 : Int) ∧ ¬ v ≤ (57 : Nat) ∧ ¬ (v : Int) = (95 : Int) ∧ ¬ v = (95 : Nat) := by omega
    have hok : (letB c || (decide (n ≠ 0) && digU c)) = true := by rw [hlb,hdb]; simp [f,hn0]
    rw [hok,Bool.true_and] at hd
    left
    refine ⟨n + 1,?_⟩
    refine exists_and_fin (show (n + 1 ≤ s.length ∧ nameT (n + 1) (s.drop (n + 1)) = nameT 0 s) ∧ s.length - (n + 1) < s.length - n from ⟨⟨by omega,hd.symm⟩,by omega⟩) ?_
    clear hd hn2 hok
    simp [h15,h16,hlt,hcl,k1,f,hn0,hz,w1]
   ·have f : (97 : Int) ≤ (v : Int) ∧ (97 : Nat) ≤ v ∧ ¬ (v : Int) ≤ (122 : Int) ∧ ¬ v ≤ (122 : Nat) ∧ (65 : Int) ≤ (v : Int) ∧ (65 : Nat) ≤ v ∧ ¬ (v : Int) ≤ (90 : Int) ∧ ¬ v ≤ (90 : Nat) ∧ (48 : Int) ≤ (v : Int) ∧ (48 : Nat) ≤ v ∧ ¬ (v : Int) ≤ (57 : Int) ∧ ¬ v ≤ (57 : Nat) ∧ ¬ (v : Int) = (95 : Int) ∧ ¬ v = (95 : Nat) := by omega
    have hok : (letB c || (decide (n ≠ 0) && digU c)) = false := by rw [hlb,hdb]; simp [f,hn0]
    rw [hok,Bool.false_and] at hd
    right
    rw [hd]
    clear hd hn2 hok
    simp [h15,h16,hlt,hcl,k1,f,hn0,hz]
 ·right
  have e : s.drop n = [] := List.drop_eq_nil_of_le (by omega)
  rw [e] at hn2
  rw [← hn2]
  simp [nameT,h16,hlt]
set_option maxHeartbeats 1600000 in
theorem Tryz.aIsName (s : List UInt8) (hs : s.length ≤ 1000000000) (mem : Mem) : ACallsTo Tryz.prog 54 [.str s] mem (.bool (isNameB s)) mem := by
 have hG : fnOf Tryz.prog 54 = some Tryz.f54 := by kernel_rfl
 refine Tryz.run (noOracle_ok _) (lv := fun _ => [17]) (K := s.length + 1) rfl rfl ?_ mem
 by_cases h0 : s = []
 ·subst h0
  simp [callFn,hG,Tryz.f54,isNameB]
 ·have hb0 : (s == []) = false := by simpa using h0
  by_cases h32 : s.length ≤ 32
  ·have h32' : ¬ (32 : Int) < s.length := by omega
   obtain ⟨b,hb⟩ : ∃ b,loopsF Tryz.f54 = [b] := ⟨_,rfl⟩
   obtain ⟨F,hF⟩ := Tryz.name_loop (O := noOracle) (K := s.length + 1) s h32 (by omega) hb
   simp [loopsF,loopsC,Tryz.f54] at hb
   subst hb
   have hfold : (s.map fun c => AV.int .u8 (c.toNat : Int)) = nmC s := rfl
   cases hn : nameT 0 s with
   | true =>
    rw [hn,if_pos rfl] at hF
    have hF1 := fun env0 d h => (hF env0 d h).1
    have h32n : ¬ 32 < s.length := by omega
    simp [callFn,hG,Tryz.f54,hb0,h32',h32n,aConvBytes,hfold,hF1,isNameB,h0,h32,hn]
   | false =>
    rw [hn,if_neg (by simp)] at hF
    have hF1 := fun env0 d h => (hF env0 d h).1
    have hF2 := fun env0 d h => (hF env0 d h).2 rfl
    have h32n : ¬ 32 < s.length := by omega
    simp [callFn,hG,Tryz.f54,hb0,h32',h32n,aConvBytes,hfold,hF1,hF2,isNameB,h0,hn]
  ·have h32' : (32 : Int) < s.length := by omega
   have h32n : 32 < s.length := by omega
   simp [callFn,hG,Tryz.f54,hb0,h32',h32n,isNameB,h32]
set_option maxHeartbeats 1600000 in
theorem Tryz.aNewR (n : Int) (d : Nat) (hd : d ≠ 0) (hn : (natD n.natAbs).length ≤ 10000) (hdl : (natD d).length ≤ 10000) (mem : Mem) :
  ACallsTo Tryz.prog 69 [.str (intS n),.str (natD d)] mem (.tuple [.str (ratS (mkRat n d)),.int .i64 0]) mem := by
 have hG : fnOf Tryz.prog 69 = some Tryz.f69 := by kernel_rfl
 refine Tryz.run Tryz.rat2_ok (lv := fun _ => []) (K := 1) rfl rfl ?_ mem
 have h1 : sgnI (d : Int) = 1 := sgnI_pos hd
 have h2 : (natD n.natAbs).length ≤ 100000 := by omega
 have h3 : (natD d).length ≤ 100000 := by omega
 simp [callFn,hG,Tryz.f69,pureO,Tryz.ratF2,Tryz.ratF1,Tryz.intF3,Tryz.intF2,Tryz.intF1,natP_natD',natP_natD,intP_intS,h1,hd,h2,h3]
noncomputable def Tryz.rbF1 (f : FuncId) (args : List AV) : Option AV :=
 match f,args with
 | 69,[.str s,.str t] => match intP s,natP t with
  | some n,some d => if d ≠ 0 ∧ (natD n.natAbs).length ≤ 10000 ∧ (natD d).length ≤ 10000 then some (.tuple [.str (ratS (mkRat n d)),.int .i64 0]) else none
  | _,_ => none
 | f,args => Tryz.ratF4 f args
theorem Tryz.rb1_ok : OracleOk Tryz.prog (pureO Tryz.rbF1) := pureO_ok fun f args v h mem => by
 unfold Tryz.rbF1 at h
 split at h
 ·split at h
  ·rename_i m n hm hn
   split at h
   ·rename_i hc; cases h; rw [intP_some hm,natP_some hn]; exact Tryz.aNewR m n hc.1 hc.2.1 hc.2.2 mem
   ·cases h
  ·cases h
 ·have := Tryz.rat4_ok.fn _ _ mem ⟨v,none,[]⟩ (by unfold pureO; simp only; rw [h])
  simpa [CallRes.mem] using this
theorem natD_small {n : Nat} (h : n < 10 ^ 19) : (natD n).length ≤ 20 := by
 exact natD_length_le (by omega) (by omega)
theorem Tryz.aOfR (n : Int) (d : Nat) (hd : d ≠ 0) (hn : fitsI n = true) (hdf : fitsI (d : Int) = true) (mem : Mem) :
  ACallsTo Tryz.prog 35 [.int .i64 n,.int .i64 d] mem (.tuple [.str (ratS (mkRat n d)),.int .i64 0]) mem := by
 have hG : fnOf Tryz.prog 35 = some Tryz.f35 := by kernel_rfl
 refine Tryz.run Tryz.rb1_ok (lv := fun _ => []) (K := 1) rfl rfl ?_ mem
 have hb : n.natAbs < 10 ^ 19 := by unfold fitsI at hn; simp at hn; omega
 have hb2 : d < 10 ^ 19 := by unfold fitsI at hdf; simp at hdf; omega
 have h2 : (natD n.natAbs).length ≤ 10000 := by have := natD_small hb; omega
 have h3 : (natD d).length ≤ 10000 := by have := natD_small hb2; omega
 have hi : intS (d : Int) = natD d := rfl
 simp [callFn,hG,Tryz.f35,pureO,Tryz.rbF1,Tryz.ratF4,Tryz.ratF3,Tryz.ratF2,Tryz.ratF1,Tryz.intF3,Tryz.intF2,Tryz.intF1,natP_natD',natP_natD,intP_intS,hn,hdf,hi,hd,h2,h3]
end Go.Proofs
