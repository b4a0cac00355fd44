/- See L55. -/
import Derived.Test.YtiopbpbcgccngaaGreatDoorL47
set_option linter.all false
namespace Go.Proofs
open Go.Eng
theorem snocInd {α : Type} {p : List α → Prop} (h0 : p []) (hs : ∀ l x,p l → p (l ++ [x])) : ∀ l,p l := by
 intro l
 have : ∀ r : List α,p r.reverse := by
  intro r
  induction r with
  | nil => simpa using h0
  | cons x r ih => simpa using hs _ x ih
 simpa using this l.reverse
def ivE2 (x : Iv) : List Rat := match ivN x with
 | some (a,b) => [a,b]
 | none => []
def endsQ (L : List Iv) : List Rat := L.flatMap ivE2
def dedS {α : Type} [DecidableEq α] (l : List α) : List α := l.foldl (fun D x => if D.getLast? = some x then D else D ++ [x]) []
section
variable {α : Type} [DecidableEq α]
theorem dedS_snoc (l : List α) (x : α) : dedS (l ++ [x]) = if (dedS l).getLast? = some x then dedS l else dedS l ++ [x] := by
 unfold dedS; rw [List.foldl_append]; rfl
theorem dedS_last (l : List α) : (dedS l).getLast? = l.getLast? := by
 induction l using snocInd with
 | h0 => rfl
 | hs l x ih =>
  rw [dedS_snoc]
  split
  ·rename_i h; rw [h]; simp
  ·simp
theorem dedS_len (l : List α) : (dedS l).length ≤ l.length := by
 induction l using snocInd with
 | h0 => exact Nat.le_refl _
 | hs l x ih =>
  rw [dedS_snoc]
  split
  ·rw [List.length_append]; omega
  ·simp only [List.length_append,List.length_singleton]; omega
theorem dedS_mem (l : List α) (y : α) : y ∈ dedS l ↔ y ∈ l := by
 induction l using snocInd with
 | h0 => exact Iff.rfl
 | hs l x ih =>
  rw [dedS_snoc]
  split
  ·rename_i h
   have hm := List.mem_of_getLast? h
   rw [ih,List.mem_append,List.mem_singleton]
   constructor
   ·exact .inl
   ·rintro (h1 | rfl)
    ·exact h1
    ·exact ih.1 hm
  ·rw [List.mem_append,List.mem_append,ih]
theorem dedS_map {β : Type} [DecidableEq β] (f : α → β) (hf : ∀ a b,f a = f b → a = b) (l : List α) : dedS (l.map f) = (dedS l).map f := by
 induction l using snocInd with
 | h0 => rfl
 | hs l x ih =>
  rw [List.map_append,List.map_singleton,dedS_snoc,dedS_snoc,ih]
  have : ((dedS l).map f).getLast? = some (f x) ↔ (dedS l).getLast? = some x := by
   rw [List.getLast?_map]
   cases (dedS l).getLast? with
   | none => simp
   | some y =>
    simp only [Option.map_some,Option.some.injEq]
    exact ⟨fun h => hf _ _ h,fun h => by rw [h]⟩
  by_cases h : (dedS l).getLast? = some x
  ·rw [if_pos h,if_pos (this.2 h)]
  ·rw [if_neg h,if_neg (fun e => h (this.1 e))]; simp
theorem dedS_ne {l : List α} (h : l ≠ []) : dedS l ≠ [] := by
 intro e
 have := dedS_last l
 rw [e] at this
 exact h (List.getLast?_eq_none_iff.1 this.symm)
end
theorem rat_lt_le {a b c : Rat} (h1 : a < b) (h2 : b ≤ c) : a < c := by grind
theorem last_ge {l : List Rat} (h : l.Pairwise (· < ·)) {z : Rat} (hz : l.getLast? = some z) : ∀ y ∈ l,y ≤ z := by
 induction l with
 | nil => intro y hy; cases hy
 | cons a l ih =>
  intro y hy
  rw [List.pairwise_cons] at h
  cases l with
  | nil =>
   simp at hz hy
   subst hz hy
   exact Rat.le_refl
  | cons b l =>
   have hz' : (b :: l).getLast? = some z := by simpa [List.getLast?_cons_cons] using hz
   rcases List.mem_cons.1 hy with rfl | hy
   ·exact Rat.le_of_lt (rat_lt_le (h.1 b (by simp)) (ih h.2 hz' b (by simp)))
   ·exact ih h.2 hz' y hy
theorem dedS_sorted {l : List Rat} (h : l.Pairwise (· ≤ ·)) : (dedS l).Pairwise (· < ·) := by
 induction l using snocInd with
 | h0 => exact List.Pairwise.nil
 | hs l x ih =>
  rw [List.pairwise_append] at h
  obtain ⟨h1,_,h2⟩ := h
  have ih := ih h1
  rw [dedS_snoc]
  split
  ·exact ih
  ·rename_i hn
   rw [List.pairwise_append]
   refine ⟨ih,List.pairwise_singleton _ _,fun y hy z hz => ?_⟩
   rw [List.mem_singleton] at hz
   subst hz
   have hle : ∀ y ∈ dedS l,y ≤ z := fun y hy => h2 y ((dedS_mem l y).1 hy) z (by simp)
   by_cases hyz : y = z
   ·subst hyz
    exfalso
    cases hg : (dedS l).getLast? with
    | none =>
     rw [List.getLast?_eq_none_iff] at hg
     rw [hg] at hy; cases hy
    | some w =>
     have g1 := last_ge ih hg y hy
     have g2 := hle w (List.mem_of_getLast? hg)
     have : w = y := Rat.le_antisymm g2 g1
     rw [this] at hg
     exact hn hg
   ·exact Rat.lt_of_le_of_ne (hle y hy) hyz
theorem strict_unique : ∀ {l r : List Rat},l.Pairwise (· < ·) → r.Pairwise (· < ·) → (∀ x,x ∈ l ↔ x ∈ r) → l = r
 | [],[],_,_,_ => rfl
 | [],b :: r,_,_,h => by have := (h b).2 (by simp); cases this
 | a :: l,[],_,_,h => by have := (h a).1 (by simp); cases this
 | a :: l,b :: r,hl,hr,h => by
  rw [List.pairwise_cons] at hl hr
  have hab : a = b := by
   rcases List.mem_cons.1 ((h a).1 (by simp)) with e | e
   ·exact e
   ·rcases List.mem_cons.1 ((h b).2 (by simp)) with e2 | e2
    ·exact e2.symm
    ·exact absurd (hl.1 b e2) (Rat.not_lt.2 (Rat.le_of_lt (hr.1 a e)))
  subst hab
  have : l = r := strict_unique hl.2 hr.2 fun x => by
   constructor
   ·intro hx
    rcases List.mem_cons.1 ((h x).1 (by simp [hx])) with e | e
    ·subst e; exact absurd (hl.1 x hx) Rat.lt_irrefl
    ·exact e
   ·intro hx
    rcases List.mem_cons.1 ((h x).2 (by simp [hx])) with e | e
    ·subst e; exact absurd (hr.1 x hx) Rat.lt_irrefl
    ·exact e
  rw [this]
def dnI (q : Rat) (out : List Rat) : Nat → Nat
 | 0 => 0
 | i + 1 => if q < out.getD i 0 then dnI q out i else i + 1
def insN (out : List Rat) (q : Rat) : List Rat := if dnI q out out.length = 0 ∨ out.getD (dnI q out out.length - 1) 0 ≠ q then out.take (dnI q out out.length) ++ q :: out.drop (dnI q out out.length) else out
def endsN (l : List Rat) : List Rat := l.foldl insN []
theorem dnI_spec (q : Rat) (out : List Rat) : ∀ n,dnI q out n ≤ n ∧ (∀ j,dnI q out n ≤ j → j < n → q < out.getD j 0) ∧ (dnI q out n = 0 ∨ out.getD (dnI q out n - 1) 0 ≤ q)
 | 0 => ⟨Nat.le_refl _,fun j h1 h2 => by omega,.inl rfl⟩
 | n + 1 => by
  obtain ⟨h1,h2,h3⟩ := dnI_spec q out n
  unfold dnI
  split
  ·rename_i h
   refine ⟨by omega,fun j g1 g2 => ?_,h3⟩
   by_cases e : j = n
   ·subst e; exact h
   ·exact h2 j g1 (by omega)
  ·rename_i h
   exact ⟨Nat.le_refl _,fun j g1 g2 => by omega,.inr (Rat.not_lt.1 h)⟩
theorem getD_get {l : List Rat} {j : Nat} (h : j < l.length) : l.getD j 0 = l[j] := by simp [List.getD,h]
theorem insN_ok {out : List Rat} (h : out.Pairwise (· < ·)) (q : Rat) : (insN out q).Pairwise (· < ·) ∧ ∀ x,x ∈ insN out q ↔ x ∈ out ∨ x = q := by
 obtain ⟨h1,h2,h3⟩ := dnI_spec q out out.length
 unfold insN
 obtain ⟨i,hi⟩ : ∃ i,i = dnI q out out.length := ⟨_,rfl⟩
 rw [← hi] at h1 h2 h3 ⊢
 have hsplit : ∀ x,x ∈ out ↔ x ∈ out.take i ∨ x ∈ out.drop i := fun x => by
  conv => lhs; rw [← List.take_append_drop i out]
  exact List.mem_append
 by_cases hc : i = 0 ∨ out.getD (i - 1) 0 ≠ q
 ·rw [if_pos hc]
  have hlo : ∀ x ∈ out.take i,x < q := by
   intro x hx
   obtain ⟨j,hj,rfl⟩ := List.mem_take_iff_getElem.1 hx
   have hj2 : j < i := by omega
   have hjl : j < out.length := by omega
   rcases hc with e | e
   ·omega
   ·rcases h3 with e3 | e3
    ·omega
    ·have hil : i - 1 < out.length := by omega
     rw [getD_get hil] at e e3
     have hlt : out[i - 1] < q := Rat.lt_of_le_of_ne e3 e
     by_cases ej : j = i - 1
     ·subst ej; exact hlt
     ·exact rat_lt_le (List.pairwise_iff_getElem.1 h j (i - 1) hjl hil (by omega)) (Rat.le_of_lt hlt)
  have hhi : ∀ x ∈ out.drop i,q < x := by
   intro x hx
   obtain ⟨j,hj,rfl⟩ := List.mem_drop_iff_getElem.1 hx
   have hjl : i + j < out.length := by omega
   have := h2 (i + j) (by omega) hjl
   rw [getD_get hjl] at this
   exact this
  refine ⟨?_,fun x => ?_⟩
  ·rw [List.pairwise_append]
   refine ⟨h.sublist (List.take_sublist _ _),?_,?_⟩
   ·rw [List.pairwise_cons]
    exact ⟨hhi,h.sublist (List.drop_sublist _ _)⟩
   ·intro x hx y hy
    rcases List.mem_cons.1 hy with rfl | hy
    ·exact hlo x hx
    ·exact rat_lt_le (hlo x hx) (Rat.le_of_lt (hhi y hy))
  ·rw [List.mem_append,List.mem_cons,hsplit]
   constructor
   ·rintro (a | rfl | a)
    ·exact .inl (.inl a)
    ·exact .inr rfl
    ·exact .inl (.inr a)
   ·rintro ((a | a) | rfl)
    ·exact .inl a
    ·exact .inr (.inr a)
    ·exact .inr (.inl rfl)
 ·rw [if_neg hc]
  refine ⟨h,fun x => ⟨.inl,?_⟩⟩
  rintro (a | rfl)
  ·exact a
  ·have hi0 : i ≠ 0 := fun e => hc (.inl e)
   have he : out.getD (i - 1) 0 = x := by
    by_cases e : out.getD (i - 1) 0 = x
    ·exact e
    ·exact absurd (.inr e) hc
   have hil : i - 1 < out.length := by omega
   rw [getD_get hil] at he
   rw [← he]; exact List.getElem_mem hil
theorem endsN_ok (l : List Rat) : (endsN l).Pairwise (· < ·) ∧ ∀ x,x ∈ endsN l ↔ x ∈ l := by
 induction l using snocInd with
 | h0 => exact ⟨List.Pairwise.nil,fun x => Iff.rfl⟩
 | hs l x ih =>
  have e : endsN (l ++ [x]) = insN (endsN l) x := by simp [endsN,List.foldl_append]
  rw [e]
  obtain ⟨g1,g2⟩ := insN_ok ih.1 x
  refine ⟨g1,fun y => ?_⟩
  rw [g2,ih.2,List.mem_append,List.mem_singleton]
def sortQ (l : List Rat) : List Rat := l.mergeSort fun a b => decide (a ≤ b)
theorem sortQ_perm (l : List Rat) : (sortQ l).Perm l := List.mergeSort_perm l _
theorem sortQ_sorted (l : List Rat) : (sortQ l).Pairwise (· ≤ ·) := by
 have := List.pairwise_mergeSort (le := fun a b : Rat => decide (a ≤ b)) (fun a b c h1 h2 => by simp at *; exact Rat.le_trans h1 h2) (fun a b => by simp; exact Rat.le_total) l
 exact this.imp fun h => by simpa using h
def cutsQ (A B : List Iv) : List Rat := dedS (sortQ (endsQ (A ++ B)))
theorem cutsQ_sorted (A B : List Iv) : (cutsQ A B).Pairwise (· < ·) := dedS_sorted (sortQ_sorted _)
theorem cutsQ_mem (A B : List Iv) (x : Rat) : x ∈ cutsQ A B ↔ x ∈ endsQ A ∨ x ∈ endsQ B := by
 unfold cutsQ
 rw [dedS_mem,(sortQ_perm _).mem_iff,endsQ,List.flatMap_append,List.mem_append]; rfl
theorem endsN_cuts (A B : List Iv) : endsN (endsQ A ++ endsQ B) = cutsQ A B := by
 refine strict_unique (endsN_ok _).1 (cutsQ_sorted A B) fun x => ?_
 rw [(endsN_ok _).2,cutsQ_mem,List.mem_append]
abbrev Df := List UInt8 × List UInt8 × List UInt8 × List UInt8
def dfC : List Df → List AV
 | [] => []
 | x :: l => .str x.1 :: .str x.2.1 :: .str x.2.2.1 :: .str x.2.2.2 :: dfC l
def cmStep (st : Option (List Df × Df)) (d : Df) : Option (List Df × Df) :=
 if d.2.2.1 = d.2.2.2 then st else
 match st with
 | none => some ([],d)
 | some (acc,z) => if z.2.1 = d.1 ∧ z.2.2.1 = d.2.2.1 ∧ z.2.2.2 = d.2.2.2 then some (acc,(z.1,d.2.1,z.2.2.1,z.2.2.2)) else some (acc ++ [z],d)
def dfJ (f : Rat → List UInt8 × List UInt8) (E : List Rat) (j : Nat) : Df := (ratS (E.getD j 0),ratS (E.getD (j + 1) 0),(f (E.getD j 0)).1,(f (E.getD j 0)).2)
def stJ (f : Rat → List UInt8 × List UInt8) (E : List Rat) : Nat → Option (List Df × Df)
 | 0 => none
 | j + 1 => cmStep (stJ f E j) (dfJ f E j)
def agJ (f : Rat → List UInt8 × List UInt8) (E : List Rat) : Nat → Rat
 | 0 => 0
 | j + 1 => if (f (E.getD j 0)).1 = (f (E.getD j 0)).2 ∧ (f (E.getD j 0)).1 ≠ [45] then agJ f E j + (E.getD (j + 1) 0 - E.getD j 0) else agJ f E j
def un2 (A B : List Iv) (q : Rat) : List UInt8 × List UInt8 := (unitL (A.find? (hasB q)),unitL (B.find? (hasB q)))
theorem dfC_length : ∀ l : List Df,(dfC l).length = l.length * 4
 | [] => rfl
 | _ :: l => by simp only [dfC,List.length_cons,dfC_length l]; omega
theorem dfC_append : ∀ l r : List Df,dfC (l ++ r) = dfC l ++ dfC r
 | [],_ => rfl
 | x :: l,r => by simp [dfC,dfC_append l r]
theorem dfC_closed : ∀ l : List Df,AV.closeds (dfC l) = true
 | [] => rfl
 | x :: l => by simp [dfC,AV.closeds,AV.closed,dfC_closed l]
theorem dfC_refs (n : Nat) : ∀ l : List Df,AV.refsL n (dfC l) = []
 | [] => rfl
 | x :: l => by simp [dfC,AV.refsL,AV.refs,dfC_refs n l]
theorem dfC_ren (f : Nat → Option Nat) (l : List Df) : AV.rens f (dfC l) = dfC l := rens_closeds (dfC_closed l)
theorem dfC_drop : ∀ (l : List Df) (i : Nat),(dfC l).drop (i * 4) = dfC (l.drop i)
 | l,0 => by simp
 | [],i + 1 => by simp [dfC]
 | k :: l,i + 1 => by
  have : (i + 1) * 4 = i * 4 + 1 + 1 + 1 + 1 := by omega
  rw [this]
  simp only [dfC,List.drop_succ_cons]
  exact dfC_drop l i
end Go.Proofs
namespace Go.Proofs
open Go.Eng
mutual
theorem closed_refsOk (ok : Nat → Bool) : ∀ {v : AV},v.closed = true → v.refsOk ok = true
 | .undef,_ => rfl
 | .bool _,_ => rfl
 | .int _ _,_ => rfl
 | .str _,_ => rfl
 | .nilptr,_ => rfl
 | .nilslice,_ => rfl
 | .nilmap,_ => rfl
 | .nilFunc,_ => rfl
 | .nilIface,_ => rfl
 | .ptr _ _,h => by simp [AV.closed] at h
 | .slice _ _ _ _,h => by simp [AV.closed] at h
 | .map _,h => by simp [AV.closed] at h
 | .yield _,h => by simp [AV.closed] at h
 | .func _ cs,h => by simp only [AV.closed] at h; simp only [AV.refsOk]; exact closeds_refsOk ok h
 | .iface _ v,h => by simp only [AV.closed] at h; simp only [AV.refsOk]; exact closed_refsOk ok h
 | .agg cs,h => by simp only [AV.closed] at h; simp only [AV.refsOk]; exact closeds_refsOk ok h
 | .tuple cs,h => by simp only [AV.closed] at h; simp only [AV.refsOk]; exact closeds_refsOk ok h
theorem closeds_refsOk (ok : Nat → Bool) : ∀ {R : List AV},AV.closeds R = true → AV.refsOkL ok R = true
 | [],_ => rfl
 | v :: vs,h => by
  simp only [AV.closeds,Bool.and_eq_true] at h
  simp only [AV.refsOkL,Bool.and_eq_true]
  exact ⟨closed_refsOk ok h.1,closeds_refsOk ok h.2⟩
end
mutual
theorem refs_mono {n m : Nat} (h : n ≤ m) : ∀ {v : AV},v.refs n = [] → v.refs m = []
 | .undef,_ => rfl
 | .bool _,_ => rfl
 | .int _ _,_ => rfl
 | .str _,_ => rfl
 | .nilptr,_ => rfl
 | .nilslice,_ => rfl
 | .nilmap,_ => rfl
 | .nilFunc,_ => rfl
 | .nilIface,_ => rfl
 | .ptr b _,hv => by
  by_cases hb : b < n
  ·simp [AV.refs,show b < m by omega]
  ·simp [AV.refs,hb] at hv
 | .slice b _ _ _,hv => by
  by_cases hb : b < n
  ·simp [AV.refs,show b < m by omega]
  ·simp [AV.refs,hb] at hv
 | .map b,hv => by
  by_cases hb : b < n
  ·simp [AV.refs,show b < m by omega]
  ·simp [AV.refs,hb] at hv
 | .yield b,hv => by
  by_cases hb : b < n
  ·simp [AV.refs,show b < m by omega]
  ·simp [AV.refs,hb] at hv
 | .func _ cs,hv => by simp only [AV.refs] at hv ⊢; exact refsL_mono h hv
 | .iface _ v,hv => by simp only [AV.refs] at hv ⊢; exact refs_mono h hv
 | .agg cs,hv => by simp only [AV.refs] at hv ⊢; exact refsL_mono h hv
 | .tuple cs,hv => by simp only [AV.refs] at hv ⊢; exact refsL_mono h hv
theorem refsL_mono {n m : Nat} (h : n ≤ m) : ∀ {vs : List AV},AV.refsL n vs = [] → AV.refsL m vs = []
 | [],_ => rfl
 | v :: vs,hv => by
  simp only [AV.refsL,List.append_eq_nil_iff] at hv ⊢
  exact ⟨refs_mono h hv.1,refsL_mono h hv.2⟩
end
mutual
theorem refsOk_of {n : Nat} : ∀ {v : AV},v.refs n = [] → v.refsOk (fun b => decide (b < n)) = true
 | .undef,_ => rfl
 | .bool _,_ => rfl
 | .int _ _,_ => rfl
 | .str _,_ => rfl
 | .nilptr,_ => rfl
 | .nilslice,_ => rfl
 | .nilmap,_ => rfl
 | .nilFunc,_ => rfl
 | .nilIface,_ => rfl
 | .ptr b _,hv => by
  by_cases hb : b < n
  ·simp [AV.refsOk,hb]
  ·simp [AV.refs,hb] at hv
 | .slice b _ _ _,hv => by
  by_cases hb : b < n
  ·simp [AV.refsOk,hb]
  ·simp [AV.refs,hb] at hv
 | .map b,hv => by
  by_cases hb : b < n
  ·simp [AV.refsOk,hb]
  ·simp [AV.refs,hb] at hv
 | .yield b,hv => by
  by_cases hb : b < n
  ·simp [AV.refsOk,hb]
  ·simp [AV.refs,hb] at hv
 | .func _ cs,hv => by simp only [AV.refs] at hv; simp only [AV.refsOk]; exact refsOkL_of hv
 | .iface _ v,hv => by simp only [AV.refs] at hv; simp only [AV.refsOk]; exact refsOk_of hv
 | .agg cs,hv => by simp only [AV.refs] at hv; simp only [AV.refsOk]; exact refsOkL_of hv
 | .tuple cs,hv => by simp only [AV.refs] at hv; simp only [AV.refsOk]; exact refsOkL_of hv
theorem refsOkL_of {n : Nat} : ∀ {vs : List AV},AV.refsL n vs = [] → AV.refsOkL (fun b => decide (b < n)) vs = true
 | [],_ => rfl
 | v :: vs,hv => by
  simp only [AV.refsL,List.append_eq_nil_iff] at hv
  simp only [AV.refsOkL,Bool.and_eq_true]
  exact ⟨refsOk_of hv.1,refsOkL_of hv.2⟩
end
def ocV (k : Nat) : Option (List Df × Df) → AV
 | none => .nilslice
 | some (acc,_) => .slice k 0 (acc.length + 1) none
def ocE : Option (List Df × Df) → Mem
 | none => []
 | some (acc,z) => [.cells true 4 (dfC (acc ++ [z]))]
def agS (s x y : Rat) (u w : List UInt8) : Rat := if u = w ∧ u ≠ [45] then s + (y - x) else s
theorem agJ_succ (f : Rat → List UInt8 × List UInt8) (E : List Rat) (j : Nat) : agJ f E (j + 1) = agS (agJ f E j) (E.getD j 0) (E.getD (j + 1) 0) (f (E.getD j 0)).1 (f (E.getD j 0)).2 := by
 unfold agS; rfl
theorem getD_map {E : List Rat} {Z : List (List UInt8)} {j : Nat} (h : j < E.length) : (E.map ratS ++ Z)[j]? = some (ratS (E.getD j 0)) := by
 rw [List.getElem?_append_left (by simpa using h)]
 simp [List.getD,h]
end Go.Proofs
