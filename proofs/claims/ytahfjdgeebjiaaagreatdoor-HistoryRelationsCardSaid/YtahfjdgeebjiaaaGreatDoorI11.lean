/- See I57. -/
import Derived.Test.YtahfjdgeebjiaaaGreatDoorI08
import Derived.Test.YtahfjdgeebjiaaaGreatDoorI10
set_option linter.all false
namespace Go.Eng
def stC (l : List (List UInt8)) : List AV := l.map .str
theorem stC_length (l : List (List UInt8)) : (stC l).length = l.length := by simp [stC]
theorem stC_append (l r : List (List UInt8)) : stC (l ++ r) = stC l ++ stC r := by simp [stC]
theorem stC_closed : ∀ l : List (List UInt8),AV.closeds (stC l) = true
 | [] => rfl
 | x :: l => by
  have := stC_closed l
  simp only [stC] at this
  simp [stC,AV.closeds,AV.closed,this]
theorem stC_at {l : List (List UInt8)} {i : Nat} {s : List UInt8} (h : l[i]? = some s) : (stC l)[i]? = some (.str s) := by simp [stC,h]
theorem stC_take (l : List (List UInt8)) : (stC l).take l.length = stC l := List.take_of_length_le (by rw [stC_length]; omega)
def stP : List AV → Option (List (List UInt8))
 | [] => some []
 | .str a :: l => match stP l with
  | some r => some (a :: r)
  | none => none
 | _ => none
theorem stP_stC : ∀ L : List (List UInt8),stP (stC L) = some L
 | [] => rfl
 | k :: L => by
  have := stP_stC L
  simp only [stC] at this
  simp [stC,stP,this]
theorem stP_some : ∀ {cs : List AV} {L : List (List UInt8)},stP cs = some L → cs = stC L
 | [],L,h => by cases h; rfl
 | v :: l,L,h => by
  unfold stP at h
  split at h
  ·rename_i h1; cases h1
  ·rename_i a l' h1
   cases h1
   split at h
   ·rename_i r hr
    cases h
    have := stP_some hr
    simp only [stC] at this ⊢
    rw [this]; rfl
   ·cases h
  ·cases h
def sts (M : Mem) (x : AV) : Option (List (List UInt8)) := match cellsC 1 M x with
 | some cs => stP cs
 | none => none
theorem sts_some {M : Mem} {x : AV} {L : List (List UInt8)} (h : sts M x = some L) : RowC 1 M x L.length (stC L) ∨ (x = .nilslice ∧ L = []) := by
 unfold sts at h
 split at h
 ·rename_i cs hcs
  have hc := stP_some h
  subst hc
  rcases cellsC_some hcs with ⟨n,hn,hr⟩ | ⟨rfl,hn⟩
  ·have : n = L.length := by rw [stC_length] at hn; omega
   subst this; exact .inl hr
  ·refine .inr ⟨rfl,?_⟩
   cases L with
   | nil => rfl
   | cons a l => simp [stC] at hn
 ·cases h
theorem sts_at {M : Mem} {b : Nat} {o : Bool} {cs : List AV} {L : List (List UInt8)} {n : Nat} (h : M[b]? = some (.cells o 1 cs)) (hn : n = L.length) (hc : cs.take n = stC L) : sts M (.slice b 0 n none) = some L := by
 subst hn
 have hl : L.length * 1 ≤ cs.length := by
  have := congrArg List.length hc
  rw [stC_length,List.length_take] at this; omega
 unfold sts
 rw [cellsC_at h hl (cs := stC L) (by rw [Nat.mul_one]; exact hc)]
 exact stP_stC L
abbrev P2 := Rat × Rat
def pA (p : P2) : AV := .agg [.str (ratS p.1),.str (ratS p.2)]
def pDg (n : Nat) (p : P2) : Prop := dg n 1 p.1 ∧ dg n 1 p.2
theorem pDg.mono {n m : Nat} {p : P2} (h : pDg n p) (hm : n ≤ m) : pDg m p := ⟨h.1.mono hm (Nat.le_refl 1),h.2.mono hm (Nat.le_refl 1)⟩
def areaQ (a b c : P2) : Rat := (b.1 - a.1) * (c.2 - a.2) - (b.2 - a.2) * (c.1 - a.1)
def pC : List P2 → List AV
 | [] => []
 | p :: l => .str (ratS p.1) :: .str (ratS p.2) :: pC l
theorem pC_length : ∀ l : List P2,(pC l).length = l.length * 2
 | [] => rfl
 | _ :: l => by simp only [pC,List.length_cons,pC_length l]; omega
theorem pC_closed : ∀ l : List P2,AV.closeds (pC l) = true
 | [] => rfl
 | p :: l => by simp [pC,AV.closeds,AV.closed,pC_closed l]
theorem pC_refs (n : Nat) : ∀ l : List P2,AV.refsL n (pC l) = []
 | [] => rfl
 | p :: l => by simp [pC,AV.refsL,AV.refs,pC_refs n l]
theorem pC_ren (f : Nat → Option Nat) (l : List P2) : AV.rens f (pC l) = pC l := rens_closeds (pC_closed l)
theorem pC_nil : pC [] = [] := rfl
theorem pC_ok (f : Nat → Bool) : ∀ l : List P2,AV.refsOkL f (pC l) = true
 | [] => rfl
 | p :: l => by simp [pC,AV.refsOkL,AV.refsOk,pC_ok f l]
theorem pC_append : ∀ l r : List P2,pC (l ++ r) = pC l ++ pC r
 | [],_ => rfl
 | p :: l,r => by simp [pC,pC_append l r]
theorem pC_drop : ∀ (l : List P2) (i : Nat),(pC l).drop (i * 2) = pC (l.drop i)
 | l,0 => by simp
 | [],i + 1 => by simp [pC]
 | p :: l,i + 1 => by
  have : (i + 1) * 2 = i * 2 + 1 + 1 := by omega
  rw [this]
  simp only [pC,List.drop_succ_cons]
  exact pC_drop l i
theorem pC_at {l : List P2} {i : Nat} {p : P2} (h : l[i]? = some p) :
  ((pC l).drop (i * 2)).take 2 = [.str (ratS p.1),.str (ratS p.2)] ∧ (pC l)[i * 2]? = some (.str (ratS p.1)) ∧ (pC l)[i * 2 + 1]? = some (.str (ratS p.2)) ∧ i * 2 + 2 ≤ (pC l).length := by
 have hlt := (List.getElem?_eq_some_iff.1 h).1
 have hd : l.drop i = p :: l.drop (i + 1) := by
  rw [List.getElem?_eq_some_iff] at h
  obtain ⟨h1,h2⟩ := h
  rw [← h2]; exact List.drop_eq_getElem_cons h1
 have e := pC_drop l i
 rw [hd] at e
 refine ⟨by rw [e]; rfl,?_,?_,by rw [pC_length]; omega⟩
 ·have : (pC l)[i * 2]? = ((pC l).drop (i * 2))[0]? := by rw [List.getElem?_drop]; rfl
  rw [this,e]; rfl
 ·have : (pC l)[i * 2 + 1]? = ((pC l).drop (i * 2))[1]? := by rw [List.getElem?_drop]
  rw [this,e]; rfl
abbrev Tr := Nat × Nat × Nat
def tC : List Tr → List AV
 | [] => []
 | t :: l => .int .i64 (t.1 : Int) :: .int .i64 (t.2.1 : Int) :: .int .i64 (t.2.2 : Int) :: tC l
theorem tC_length : ∀ l : List Tr,(tC l).length = l.length * 3
 | [] => rfl
 | _ :: l => by simp only [tC,List.length_cons,tC_length l]; omega
theorem tC_closed : ∀ l : List Tr,AV.closeds (tC l) = true
 | [] => rfl
 | p :: l => by simp [tC,AV.closeds,AV.closed,tC_closed l]
theorem tC_refs (n : Nat) : ∀ l : List Tr,AV.refsL n (tC l) = []
 | [] => rfl
 | p :: l => by simp [tC,AV.refsL,AV.refs,tC_refs n l]
theorem tC_ren (f : Nat → Option Nat) (l : List Tr) : AV.rens f (tC l) = tC l := rens_closeds (tC_closed l)
theorem tC_ok (f : Nat → Bool) : ∀ l : List Tr,AV.refsOkL f (tC l) = true
 | [] => rfl
 | p :: l => by simp [tC,AV.refsOkL,AV.refsOk,tC_ok f l]
theorem tC_drop : ∀ (l : List Tr) (i : Nat),(tC l).drop (i * 3) = tC (l.drop i)
 | l,0 => by simp
 | [],i + 1 => by simp [tC]
 | p :: l,i + 1 => by
  have : (i + 1) * 3 = i * 3 + 1 + 1 + 1 := by omega
  rw [this]
  simp only [tC,List.drop_succ_cons]
  exact tC_drop l i
theorem tC_at {l : List Tr} {i : Nat} {t : Tr} (h : l[i]? = some t) :
  ((tC l).drop (i * 3)).take 3 = [.int .i64 (t.1 : Int),.int .i64 (t.2.1 : Int),.int .i64 (t.2.2 : Int)] ∧ i * 3 + 3 ≤ (tC l).length := by
 have hlt := (List.getElem?_eq_some_iff.1 h).1
 have hd : l.drop i = t :: l.drop (i + 1) := by
  rw [List.getElem?_eq_some_iff] at h
  obtain ⟨h1,h2⟩ := h
  rw [← h2]; exact List.drop_eq_getElem_cons h1
 have e := tC_drop l i
 rw [hd] at e
 exact ⟨by rw [e]; rfl,by rw [tC_length]; omega⟩
def pmE (p : P2) : AV × AV := (pA p,.bool true)
theorem refs_pmE (n : Nat) : ∀ l : List P2,(l.map pmE).flatMap (fun e => e.1.refs n ++ e.2.refs n) = []
 | [] => rfl
 | p :: l => by simp [pmE,pA,AV.refs,AV.refsL,refs_pmE n l]
def sqI : List (Int × Int) := [(0,0),(4,0),(4,4),(0,4)]
def shapeP : Nat → List (Int × Int)
 | 0 => sqI
 | 1 => sqI
 | 2 => [(0,0),(4,0),(4,4),(0,4),(2,1)]
 | 3 => [(0,0),(6,0),(0,4)]
 | 4 => [(0,0),(2,0),(4,0),(0,2),(2,2),(4,2)]
 | 5 => [(1,4),(5,3),(4,0),(0,0)]
 | 6 => [(0,0),(4,0),(4,4),(0,4),(2,0)]
 | _ => [(0,0),(6,0),(0,6),(2,2)]
def shapeT : Nat → List Tr
 | 0 => [(0,1,2),(0,2,3)]
 | 1 => [(0,1,3),(1,2,3)]
 | 2 => [(0,1,4),(1,2,4),(2,3,4),(3,0,4)]
 | 3 => [(2,0,1)]
 | 4 => [(0,1,4),(0,4,3),(1,2,5),(1,5,4)]
 | 5 => [(3,2,1),(3,1,0)]
 | 6 => [(0,4,3),(4,2,3),(4,1,2)]
 | _ => [(0,1,3),(1,2,3),(2,0,3)]
def shapeC : Nat → List Nat
 | 2 => [0,1,2,3]
 | 3 => [0,1,2]
 | 4 => [0,1,2,5,4,3]
 | 5 => [0,3,2,1]
 | 6 => [0,4,1,2,3]
 | 7 => [0,1,2]
 | _ => [0,1,2,3]
def iP : List (Int × Int) → List AV
 | [] => []
 | p :: l => .int .i64 p.1 :: .int .i64 p.2 :: iP l
theorem iP_length : ∀ l : List (Int × Int),(iP l).length = l.length * 2
 | [] => rfl
 | _ :: l => by simp only [iP,List.length_cons,iP_length l]; omega
theorem iP_refs (n : Nat) : ∀ l : List (Int × Int),AV.refsL n (iP l) = []
 | [] => rfl
 | p :: l => by simp [iP,AV.refsL,AV.refs,iP_refs n l]
theorem iP_closed : ∀ l : List (Int × Int),AV.closeds (iP l) = true
 | [] => rfl
 | p :: l => by simp [iP,AV.closeds,AV.closed,iP_closed l]
theorem iP_ren (f : Nat → Option Nat) (l : List (Int × Int)) : AV.rens f (iP l) = iP l := rens_closeds (iP_closed l)
theorem iP_drop : ∀ (l : List (Int × Int)) (i : Nat),(iP l).drop (i * 2) = iP (l.drop i)
 | l,0 => by simp
 | [],i + 1 => by simp [iP]
 | p :: l,i + 1 => by
  have : (i + 1) * 2 = i * 2 + 1 + 1 := by omega
  rw [this]
  simp only [iP,List.drop_succ_cons]
  exact iP_drop l i
theorem iP_at {l : List (Int × Int)} {i : Nat} {p : Int × Int} (h : l[i]? = some p) :
  (iP l)[i * 2]? = some (.int .i64 p.1) ∧ (iP l)[i * 2 + 1]? = some (.int .i64 p.2) ∧ i * 2 + 2 ≤ (iP l).length := by
 have hlt := (List.getElem?_eq_some_iff.1 h).1
 have hd : l.drop i = p :: l.drop (i + 1) := by
  rw [List.getElem?_eq_some_iff] at h
  obtain ⟨h1,h2⟩ := h
  rw [← h2]; exact List.drop_eq_getElem_cons h1
 have e := iP_drop l i
 rw [hd] at e
 refine ⟨?_,?_,by rw [iP_length]; omega⟩
 ·have : (iP l)[i * 2]? = ((iP l).drop (i * 2))[0]? := by rw [List.getElem?_drop]; rfl
  rw [this,e]; rfl
 ·have : (iP l)[i * 2 + 1]? = ((iP l).drop (i * 2))[1]? := by rw [List.getElem?_drop]
  rw [this,e]; rfl
structure Sheet where
 kind : Nat
 sx : Int
 sy : Int
 half : Bool
structure Sheet.Ok (s : Sheet) : Prop where
 kind : s.kind < 256
 x0 : -128 ≤ s.sx
 x1 : s.sx ≤ 127
 y0 : -128 ≤ s.sy
 y1 : s.sy ≤ 127
def Sheet.av (s : Sheet) : AV := .agg [.int .u8 s.kind,.int .i8 s.sx,.int .i8 s.sy,.bool s.half]
def Sheet.pt (s : Sheet) (k : Nat) (x y : Int) : P2 :=
 (mkRat (x + s.sx.tmod 8 * k) ((if s.half then 2 else 1) * k),mkRat (y + s.sy.tmod 8 * k) ((if s.half then 2 else 1) * k))
def Sheet.P (s : Sheet) : List P2 := (shapeP (s.kind % 8)).map fun p => s.pt 1 p.1 p.2
def Sheet.T (s : Sheet) : List Tr := shapeT (s.kind % 8)
theorem wrap_i8 {n : Int} (h0 : -128 ≤ n) (h1 : n ≤ 127) : IntKind.i8.wrap n = n := by
 simp only [IntKind.wrap,IntKind.bits,IntKind.signed,Bool.true_and]
 split <;> simp_all <;> omega
theorem tmod8 (x : Int) : -7 ≤ x.tmod 8 ∧ x.tmod 8 ≤ 7 := by
 have h1 := Int.tmod_lt_of_pos x (show (0 : Int) < 8 by decide)
 have h2 : -8 < x.tmod 8 := by
  have := Int.tmod_lt_of_pos (-x) (show (0 : Int) < 8 by decide)
  rw [Int.neg_tmod] at this
  omega
 omega
def qC (Q : List Rat) : List AV := Q.map fun q => .str (ratS q)
theorem qC_length (Q : List Rat) : (qC Q).length = Q.length := by simp [qC]
theorem qC_closed : ∀ Q : List Rat,AV.closeds (qC Q) = true
 | [] => rfl
 | q :: Q => by
  have := qC_closed Q
  simp only [qC] at this
  simp [qC,AV.closeds,AV.closed,this]
theorem qC_refs (n : Nat) : ∀ Q : List Rat,AV.refsL n (qC Q) = []
 | [] => rfl
 | q :: Q => by
  have := qC_refs n Q
  simp only [qC] at this
  simp [qC,AV.refsL,AV.refs,this]
theorem qC_ok (f : Nat → Bool) : ∀ Q : List Rat,AV.refsOkL f (qC Q) = true
 | [] => rfl
 | q :: Q => by
  have := qC_ok f Q
  simp only [qC] at this
  simp [qC,AV.refsOkL,AV.refsOk,this]
theorem qC_ren (f : Nat → Option Nat) (Q : List Rat) : AV.rens f (qC Q) = qC Q := rens_closeds (qC_closed Q)
theorem qC_at {Q : List Rat} {i : Nat} {q : Rat} (h : Q[i]? = some q) : (qC Q)[i]? = some (.str (ratS q)) := by simp [qC,h]
structure Deed where
 kind : Nat
 A : Int × Int × Int
 B : Int × Int × Int
 N : Int
 K : Nat × Nat × Nat × Nat
def Deed.cells (d : Deed) : List AV := [.int .u8 d.kind,.int .i8 d.A.1,.int .i8 d.A.2.1,.int .i8 d.A.2.2,.int .i8 d.B.1,.int .i8 d.B.2.1,.int .i8 d.B.2.2,.int .i8 d.N,.int .u8 d.K.1,.int .u8 d.K.2.1,.int .u8 d.K.2.2.1,.int .u8 d.K.2.2.2]
def i8Ok (n : Int) : Prop := -128 ≤ n ∧ n ≤ 127
def i83Ok (v : Int × Int × Int) : Prop := i8Ok v.1 ∧ i8Ok v.2.1 ∧ i8Ok v.2.2
def u84Ok (v : Nat × Nat × Nat × Nat) : Prop := v.1 < 256 ∧ v.2.1 < 256 ∧ v.2.2.1 < 256 ∧ v.2.2.2 < 256
structure Deed.Ok (d : Deed) : Prop where
 kind : d.kind < 256
 A : i83Ok d.A
 B : i83Ok d.B
 N : i8Ok d.N
 K : u84Ok d.K
def nth3 (v : Int × Int × Int) (k : Nat) : Int := if k = 0 then v.1 else if k = 1 then v.2.1 else v.2.2
def nth4 (v : Nat × Nat × Nat × Nat) (k : Nat) : Nat := if k = 0 then v.1 else if k = 1 then v.2.1 else if k = 2 then v.2.2.1 else v.2.2.2
def hQ (z : Int) : Rat := mkRat z 2
theorem hQ_div (z : Int) : hQ z = (z : Rat) / 2 := by
 unfold hQ
 rw [Rat.mkRat_eq_div]
 rfl
theorem hQ_int (n a : Int) : (n : Rat) + hQ a = hQ (2 * n + a) := by
 rw [hQ_div,hQ_div,Rat.intCast_add,Rat.intCast_mul]
 have : ((2 : Int) : Rat) = 2 := rfl
 rw [this]
 grind
theorem hQ_add (a b : Int) : hQ a + hQ b = hQ (a + b) := by
 rw [hQ_div,hQ_div,hQ_div,Rat.intCast_add]
 grind
theorem hQ_le {a b : Int} (h : a ≤ b) : hQ a ≤ hQ b := by
 rw [hQ_div,hQ_div]
 have : (a : Rat) ≤ (b : Rat) := by exact_mod_cast h
 grind
theorem hQ_dg {z : Int} (h : z.natAbs < 1000) : dg 3 1 (hQ z) := dg_mkRat (by decide) h (by decide)
theorem hQ_len {z : Int} (h : z.natAbs < 1000) : (ratS (hQ z)).length ≤ 9 := by
 have h1 := hQ_dg h
 have h2 : big 3 (hQ z) := ⟨h1.1,by have := h1.2; omega⟩
 have := big_length (by decide) h2
 omega
def baseZ (d : Deed) (k : Nat) : Int := 2 * d.N.tmod 4 + (nth3 d.A (k % 3)).tmod 3
def baseL (d : Deed) (n : Nat) : List Int := (List.range n).map (baseZ d)
theorem baseL_succ (d : Deed) (n : Nat) : baseL d (n + 1) = baseL d n ++ [baseZ d n] := by simp [baseL,List.range_succ]
theorem baseL_length (d : Deed) (n : Nat) : (baseL d n).length = n := by simp [baseL]
def stepZ (d : Deed) (j k : Nat) : Int := ((nth4 d.K ((j + k) % 4) % 4 : Nat) : Int)
def surfL (d : Deed) (j : Nat) (L : List Int) (n : Nat) : List Int := (List.range n).map fun k => L.getD k 0 + stepZ d j k
theorem surfL_succ (d : Deed) (j : Nat) (L : List Int) (n : Nat) : surfL d j L (n + 1) = surfL d j L n ++ [L.getD n 0 + stepZ d j n] := by simp [surfL,List.range_succ]
theorem surfL_length (d : Deed) (j : Nat) (L : List Int) (n : Nat) : (surfL d j L n).length = n := by simp [surfL]
def qH (Z : List Int) : List Rat := Z.map hQ
theorem tmodk (x : Int) (k : Nat) (hk : 0 < k) : -(k : Int) < x.tmod k ∧ x.tmod k < k := by
 have h1 := Int.tmod_lt_of_pos x (show (0 : Int) < (k : Int) by omega)
 have h2 := Int.tmod_lt_of_pos (-x) (show (0 : Int) < (k : Int) by omega)
 rw [Int.neg_tmod] at h2
 omega
end Go.Eng
