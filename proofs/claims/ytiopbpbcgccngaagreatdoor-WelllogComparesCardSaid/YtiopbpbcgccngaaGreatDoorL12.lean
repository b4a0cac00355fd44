/- See L55. -/
import Derived.Test.YtiopbpbcgccngaaGreatDoorL08
import Derived.Test.YtiopbpbcgccngaaGreatDoorL11
set_option linter.all false
namespace Go.Eng
abbrev Iv := List UInt8 × List UInt8 × List UInt8
def ivC : List Iv → List AV
 | [] => []
 | x :: l => .str x.1 :: .str x.2.1 :: .str x.2.2 :: ivC l
theorem ivC_length : ∀ l : List Iv,(ivC l).length = l.length * 3
 | [] => rfl
 | _ :: l => by simp only [ivC,List.length_cons,ivC_length l]; omega
theorem ivC_append : ∀ l r : List Iv,ivC (l ++ r) = ivC l ++ ivC r
 | [],_ => rfl
 | x :: l,r => by simp [ivC,ivC_append l r]
theorem ivC_closed : ∀ l : List Iv,AV.closeds (ivC l) = true
 | [] => rfl
 | x :: l => by simp [ivC,AV.closeds,AV.closed,ivC_closed l]
theorem ivC_refs (n : Nat) : ∀ l : List Iv,AV.refsL n (ivC l) = []
 | [] => rfl
 | x :: l => by simp [ivC,AV.refsL,AV.refs,ivC_refs n l]
theorem ivC_ren (f : Nat → Option Nat) (l : List Iv) : AV.rens f (ivC l) = ivC l := rens_closeds (ivC_closed l)
theorem ivC_drop : ∀ (l : List Iv) (i : Nat),(ivC l).drop (i * 3) = ivC (l.drop i)
 | l,0 => by simp
 | [],i + 1 => by simp [ivC]
 | k :: l,i + 1 => by
  have : (i + 1) * 3 = i * 3 + 1 + 1 + 1 := by omega
  rw [this]
  simp only [ivC,List.drop_succ_cons]
  exact ivC_drop l i
theorem ivC_at {l : List Iv} {i : Nat} {k : Iv} (h : l[i]? = some k) :
  ((ivC l).drop (i * 3)).take 3 = [.str k.1,.str k.2.1,.str k.2.2] ∧ (ivC l)[i * 3]? = some (.str k.1) ∧ (ivC l)[i * 3 + 1]? = some (.str k.2.1) ∧ (ivC l)[i * 3 + 2]? = some (.str k.2.2) := by
 have hd : l.drop i = k :: l.drop (i + 1) := by
  rw [List.getElem?_eq_some_iff] at h
  obtain ⟨h1,h2⟩ := h
  rw [← h2]; exact List.drop_eq_getElem_cons h1
 have e := ivC_drop l i
 rw [hd] at e
 refine ⟨by rw [e]; rfl,?_,?_,?_⟩
 ·have : (ivC l)[i * 3]? = ((ivC l).drop (i * 3))[0]? := by rw [List.getElem?_drop]; rfl
  rw [this,e]; rfl
 ·have : (ivC l)[i * 3 + 1]? = ((ivC l).drop (i * 3))[1]? := by rw [List.getElem?_drop]
  rw [this,e]; rfl
 ·have : (ivC l)[i * 3 + 2]? = ((ivC l).drop (i * 3))[2]? := by rw [List.getElem?_drop]
  rw [this,e]; rfl
def ivP : List AV → Option (List Iv)
 | [] => some []
 | .str a :: .str b :: .str c :: l => match ivP l with
  | some r => some ((a,b,c) :: r)
  | none => none
 | _ => none
theorem ivP_ivC : ∀ L : List Iv,ivP (ivC L) = some L
 | [] => rfl
 | k :: L => by simp [ivC,ivP,ivP_ivC L]
theorem ivP_some : ∀ {n : Nat} {cs : List AV} {L : List Iv},cs.length ≤ n → ivP cs = some L → cs = ivC L
 | _,[],L,_,h => by cases h; rfl
 | 0,v :: l,L,hn,h => by simp at hn
 | n + 1,v :: l,L,hn,h => by
  unfold ivP at h
  split at h
  ·rename_i h1; cases h1
  ·rename_i a b c l' h1
   cases h1
   split at h
   ·rename_i r hr
    cases h
    simp only [List.length_cons] at hn
    rw [ivC,ivP_some (n := n) (by omega) hr]
   ·cases h
  ·cases h
def ivs (M : Mem) (x : AV) : Option (List Iv) := match cellsC 3 M x with
 | some cs => ivP cs
 | none => none
theorem ivs_some {M : Mem} {x : AV} {L : List Iv} (h : ivs M x = some L) : RowC 3 M x L.length (ivC L) ∨ (x = .nilslice ∧ L = []) := by
 unfold ivs at h
 split at h
 ·rename_i cs hcs
  have hc := ivP_some (Nat.le_refl _) h
  subst hc
  rcases cellsC_some hcs with ⟨n,hn,hr⟩ | ⟨rfl,hn⟩
  ·have : n = L.length := by rw [ivC_length] at hn; omega
   subst this; exact .inl hr
  ·refine .inr ⟨rfl,?_⟩
   cases L with
   | nil => rfl
   | cons a l => simp [ivC] at hn
 ·cases h
theorem ivs_at {M : Mem} {b : Nat} {o : Bool} {cs : List AV} {L : List Iv} {n : Nat} (h : M[b]? = some (.cells o 3 cs)) (hn : n = L.length) (hc : cs.take (n * 3) = ivC L) : ivs M (.slice b 0 n none) = some L := by
 subst hn
 have hl : L.length * 3 ≤ cs.length := by
  have := congrArg List.length hc
  rw [ivC_length,List.length_take] at this; omega
 unfold ivs
 rw [cellsC_at h hl hc]
 exact ivP_ivC L
theorem ivC_take (L : List Iv) : (ivC L).take (L.length * 3) = ivC L := List.take_of_length_le (by rw [ivC_length]; omega)
def stC (l : List (List UInt8)) : List AV := l.map .str
theorem stC_length (l : List (List UInt8)) : (stC l).length = l.length := by simp [stC]
theorem stC_append (l r : List (List UInt8)) : stC (l ++ r) = stC l ++ stC r := by simp [stC]
theorem stC_closed : ∀ l : List (List UInt8),AV.closeds (stC l) = true
 | [] => rfl
 | x :: l => by
  have := stC_closed l
  simp only [stC] at this
  simp [stC,AV.closeds,AV.closed,this]
theorem stC_refs (n : Nat) : ∀ l : List (List UInt8),AV.refsL n (stC l) = []
 | [] => rfl
 | x :: l => by
  have := stC_refs n l
  simp only [stC] at this
  simp [stC,AV.refsL,AV.refs,this]
theorem stC_refsOk (ok : Nat → Bool) : ∀ l : List (List UInt8),AV.refsOkL ok (stC l) = true
 | [] => rfl
 | x :: l => by
  have := stC_refsOk ok l
  simp only [stC] at this
  simp [stC,AV.refsOkL,AV.refsOk,this]
theorem ivC_refsOk (ok : Nat → Bool) : ∀ l : List Iv,AV.refsOkL ok (ivC l) = true
 | [] => rfl
 | x :: l => by simp [ivC,AV.refsOkL,AV.refsOk,ivC_refsOk ok l]
theorem stC_ren (f : Nat → Option Nat) (l : List (List UInt8)) : AV.rens f (stC l) = stC l := rens_closeds (stC_closed l)
theorem stC_at {l : List (List UInt8)} {i : Nat} {s : List UInt8} (h : l[i]? = some s) : (stC l)[i]? = some (.str s) := by simp [stC,h]
end Go.Eng
