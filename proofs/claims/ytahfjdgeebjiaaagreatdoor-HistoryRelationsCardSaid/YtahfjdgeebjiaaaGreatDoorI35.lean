/- See I57. -/
import Derived.Test.YtahfjdgeebjiaaaGreatDoorI33
import Derived.Test.YtahfjdgeebjiaaaGreatDoorI08
import Derived.KernelRfl
set_option linter.all false
namespace Go.Proofs
open Go.Eng
def okSheetB (PS : List P2) (TS : List Tr) (cyc : List Nat) : Bool :=
 decide PS.Nodup && (PS.all fun p => decide (p.1.num.natAbs < 100) && decide (p.1.den < 10) && decide (p.2.num.natAbs < 100) && decide (p.2.den < 10)) &&
  (TS.all fun t => match PS[t.1]?,PS[t.2.1]?,PS[t.2.2]? with
   | some p,some q,some r => decide (0 < sgnR (areaQ p q r))
   | _,_,_ => false) &&
  ((List.range cyc.length).all fun i => decide (0 ≤ sgnR (areaQ (ptAt PS cyc i) (ptAt PS cyc (i + 1)) (ptAt PS cyc (i + 2))))) && decide (roundsV PS cyc cyc.length = 1)
def ptsK (k : Nat) (u v : Int) (h : Bool) : List P2 :=
 (shapeP k).map fun p => (mkRat (p.1 + u * (1 : Nat)) ((if h then 2 else 1) * 1),mkRat (p.2 + v * (1 : Nat)) ((if h then 2 else 1) * 1))
theorem sheets0 : ((List.range 15).all fun a => (List.range 15).all fun b => [false,true].all fun h => okSheetB (ptsK 0 ((a : Int) - 7) ((b : Int) - 7) h) (shapeT 0) (shapeC 0)) = true := by kernel_rfl
theorem sheets1 : ((List.range 15).all fun a => (List.range 15).all fun b => [false,true].all fun h => okSheetB (ptsK 1 ((a : Int) - 7) ((b : Int) - 7) h) (shapeT 1) (shapeC 1)) = true := by kernel_rfl
theorem sheets2 : ((List.range 15).all fun a => (List.range 15).all fun b => [false,true].all fun h => okSheetB (ptsK 2 ((a : Int) - 7) ((b : Int) - 7) h) (shapeT 2) (shapeC 2)) = true := by kernel_rfl
theorem sheets3 : ((List.range 15).all fun a => (List.range 15).all fun b => [false,true].all fun h => okSheetB (ptsK 3 ((a : Int) - 7) ((b : Int) - 7) h) (shapeT 3) (shapeC 3)) = true := by kernel_rfl
theorem sheets4 : ((List.range 15).all fun a => (List.range 15).all fun b => [false,true].all fun h => okSheetB (ptsK 4 ((a : Int) - 7) ((b : Int) - 7) h) (shapeT 4) (shapeC 4)) = true := by kernel_rfl
theorem sheets5 : ((List.range 15).all fun a => (List.range 15).all fun b => [false,true].all fun h => okSheetB (ptsK 5 ((a : Int) - 7) ((b : Int) - 7) h) (shapeT 5) (shapeC 5)) = true := by kernel_rfl
theorem sheets6 : ((List.range 15).all fun a => (List.range 15).all fun b => [false,true].all fun h => okSheetB (ptsK 6 ((a : Int) - 7) ((b : Int) - 7) h) (shapeT 6) (shapeC 6)) = true := by kernel_rfl
theorem sheets7 : ((List.range 15).all fun a => (List.range 15).all fun b => [false,true].all fun h => okSheetB (ptsK 7 ((a : Int) - 7) ((b : Int) - 7) h) (shapeT 7) (shapeC 7)) = true := by kernel_rfl
theorem sheets_all (k : Nat) (hk : k < 8) : ((List.range 15).all fun a => (List.range 15).all fun b => [false,true].all fun h => okSheetB (ptsK k ((a : Int) - 7) ((b : Int) - 7) h) (shapeT k) (shapeC k)) = true := by
 have hjj : k = 0 ∨ k = 1 ∨ k = 2 ∨ k = 3 ∨ k = 4 ∨ k = 5 ∨ k = 6 ∨ k = 7 := by omega
 rcases hjj with rfl | rfl | rfl | rfl | rfl | rfl | rfl | rfl
 ·exact sheets0
 ·exact sheets1
 ·exact sheets2
 ·exact sheets3
 ·exact sheets4
 ·exact sheets5
 ·exact sheets6
 ·exact sheets7
theorem sheet_ok (s : Sheet) : okSheetB s.P s.T (shapeC (s.kind % 8)) = true := by
 have hk : s.kind % 8 < 8 := Nat.mod_lt _ (by omega)
 have h := sheets_all (s.kind % 8) hk
 obtain ⟨u0,u1⟩ := tmod8 s.sx
 obtain ⟨v0,v1⟩ := tmod8 s.sy
 have h1 := List.all_eq_true.1 h (s.sx.tmod 8 + 7).toNat (List.mem_range.2 (by omega))
 have h2 := List.all_eq_true.1 h1 (s.sy.tmod 8 + 7).toNat (List.mem_range.2 (by omega))
 have h3 := List.all_eq_true.1 h2 s.half (by cases s.half <;> simp)
 have e1 : (((s.sx.tmod 8 + 7).toNat : Nat) : Int) - 7 = s.sx.tmod 8 := by omega
 have e2 : (((s.sy.tmod 8 + 7).toNat : Nat) : Int) - 7 = s.sy.tmod 8 := by omega
 rw [e1,e2] at h3
 exact h3
def sdsT : List Tr → Int → List Sd
 | [],_ => []
 | t :: l,i => ((t.1,t.2.1),i) :: ((t.2.1,t.2.2),i) :: ((t.2.2,t.1),i) :: sdsT l (i + 1)
theorem Tryz.owns0 : ACallsTo Tryz.prog 135 [.agg [.slice 0 0 (shapeP 0).length none,.slice 1 0 (shapeT 0).length none]] [.absent,.cells false 3 (tC (shapeT 0))] (.tuple [.map 2,.bool true]) ([.absent,.cells false 3 (tC (shapeT 0))] ++ [.map ((sdsT (shapeT 0) 0).map sdE)]) :=
 memo_of (lv := writesC) (K := 60) (n := 10) Tryz.mixed (tyOf_ok _) (fnOf_ok _) (noOracle_ok _) (by as_aux_lemma => kernel_rfl)
theorem Tryz.owns1 : ACallsTo Tryz.prog 135 [.agg [.slice 0 0 (shapeP 1).length none,.slice 1 0 (shapeT 1).length none]] [.absent,.cells false 3 (tC (shapeT 1))] (.tuple [.map 2,.bool true]) ([.absent,.cells false 3 (tC (shapeT 1))] ++ [.map ((sdsT (shapeT 1) 0).map sdE)]) :=
 memo_of (lv := writesC) (K := 60) (n := 10) Tryz.mixed (tyOf_ok _) (fnOf_ok _) (noOracle_ok _) (by as_aux_lemma => kernel_rfl)
theorem Tryz.owns2 : ACallsTo Tryz.prog 135 [.agg [.slice 0 0 (shapeP 2).length none,.slice 1 0 (shapeT 2).length none]] [.absent,.cells false 3 (tC (shapeT 2))] (.tuple [.map 2,.bool true]) ([.absent,.cells false 3 (tC (shapeT 2))] ++ [.map ((sdsT (shapeT 2) 0).map sdE)]) :=
 memo_of (lv := writesC) (K := 60) (n := 10) Tryz.mixed (tyOf_ok _) (fnOf_ok _) (noOracle_ok _) (by as_aux_lemma => kernel_rfl)
theorem Tryz.owns3 : ACallsTo Tryz.prog 135 [.agg [.slice 0 0 (shapeP 3).length none,.slice 1 0 (shapeT 3).length none]] [.absent,.cells false 3 (tC (shapeT 3))] (.tuple [.map 2,.bool true]) ([.absent,.cells false 3 (tC (shapeT 3))] ++ [.map ((sdsT (shapeT 3) 0).map sdE)]) :=
 memo_of (lv := writesC) (K := 60) (n := 10) Tryz.mixed (tyOf_ok _) (fnOf_ok _) (noOracle_ok _) (by as_aux_lemma => kernel_rfl)
theorem Tryz.owns4 : ACallsTo Tryz.prog 135 [.agg [.slice 0 0 (shapeP 4).length none,.slice 1 0 (shapeT 4).length none]] [.absent,.cells false 3 (tC (shapeT 4))] (.tuple [.map 2,.bool true]) ([.absent,.cells false 3 (tC (shapeT 4))] ++ [.map ((sdsT (shapeT 4) 0).map sdE)]) :=
 memo_of (lv := writesC) (K := 60) (n := 10) Tryz.mixed (tyOf_ok _) (fnOf_ok _) (noOracle_ok _) (by as_aux_lemma => kernel_rfl)
theorem Tryz.owns5 : ACallsTo Tryz.prog 135 [.agg [.slice 0 0 (shapeP 5).length none,.slice 1 0 (shapeT 5).length none]] [.absent,.cells false 3 (tC (shapeT 5))] (.tuple [.map 2,.bool true]) ([.absent,.cells false 3 (tC (shapeT 5))] ++ [.map ((sdsT (shapeT 5) 0).map sdE)]) :=
 memo_of (lv := writesC) (K := 60) (n := 10) Tryz.mixed (tyOf_ok _) (fnOf_ok _) (noOracle_ok _) (by as_aux_lemma => kernel_rfl)
theorem Tryz.owns6 : ACallsTo Tryz.prog 135 [.agg [.slice 0 0 (shapeP 6).length none,.slice 1 0 (shapeT 6).length none]] [.absent,.cells false 3 (tC (shapeT 6))] (.tuple [.map 2,.bool true]) ([.absent,.cells false 3 (tC (shapeT 6))] ++ [.map ((sdsT (shapeT 6) 0).map sdE)]) :=
 memo_of (lv := writesC) (K := 60) (n := 10) Tryz.mixed (tyOf_ok _) (fnOf_ok _) (noOracle_ok _) (by as_aux_lemma => kernel_rfl)
theorem Tryz.owns7 : ACallsTo Tryz.prog 135 [.agg [.slice 0 0 (shapeP 7).length none,.slice 1 0 (shapeT 7).length none]] [.absent,.cells false 3 (tC (shapeT 7))] (.tuple [.map 2,.bool true]) ([.absent,.cells false 3 (tC (shapeT 7))] ++ [.map ((sdsT (shapeT 7) 0).map sdE)]) :=
 memo_of (lv := writesC) (K := 60) (n := 10) Tryz.mixed (tyOf_ok _) (fnOf_ok _) (noOracle_ok _) (by as_aux_lemma => kernel_rfl)
theorem Tryz.owns_all (k : Nat) (hk : k < 8) : ACallsTo Tryz.prog 135 [.agg [.slice 0 0 (shapeP k).length none,.slice 1 0 (shapeT k).length none]] [.absent,.cells false 3 (tC (shapeT k))] (.tuple [.map 2,.bool true]) ([.absent,.cells false 3 (tC (shapeT k))] ++ [.map ((sdsT (shapeT k) 0).map sdE)]) := by
 have hjj : k = 0 ∨ k = 1 ∨ k = 2 ∨ k = 3 ∨ k = 4 ∨ k = 5 ∨ k = 6 ∨ k = 7 := by omega
 rcases hjj with rfl | rfl | rfl | rfl | rfl | rfl | rfl | rfl
 ·exact Tryz.owns0
 ·exact Tryz.owns1
 ·exact Tryz.owns2
 ·exact Tryz.owns3
 ·exact Tryz.owns4
 ·exact Tryz.owns5
 ·exact Tryz.owns6
 ·exact Tryz.owns7
theorem shape_facts (k : Nat) (hk : k < 8) : outerOk (sdsT (shapeT k) 0) = true ∧ cycleOf (bordL (sdsT (shapeT k) 0)) = some ((shapeC k).map fun (n : Nat) => (n : Int)) ∧ (usedL (shapeT k)).length = (shapeP k).length ∧ shapeC k ≠ [] ∧ (∀ c ∈ shapeC k,c < (shapeP k).length) ∧ shapeT k ≠ [] ∧ (shapeT k).length ≤ 4 ∧ (shapeC k).length ≤ 6 := by
 have hjj : k = 0 ∨ k = 1 ∨ k = 2 ∨ k = 3 ∨ k = 4 ∨ k = 5 ∨ k = 6 ∨ k = 7 := by omega
 rcases hjj with rfl | rfl | rfl | rfl | rfl | rfl | rfl | rfl <;> decide
theorem Tryz.whole_sheet (s : Sheet) : Tryz.Whole s.P s.T (sdsT s.T 0) (shapeC (s.kind % 8)) := by
 have hk : s.kind % 8 < 8 := Nat.mod_lt _ (by omega)
 have h := sheet_ok s
 obtain ⟨f1,f2,f3,f4,f5,f6,f7,f8⟩ := shape_facts (s.kind % 8) hk
 have hlen := Sheet.P_length s
 have hle := shapeP_len (s.kind % 8)
 unfold okSheetB at h
 simp only [Bool.and_eq_true,decide_eq_true_eq] at h
 obtain ⟨⟨⟨⟨h1,h2⟩,h3⟩,h4⟩,h5⟩ := h
 refine ⟨fun p hp => ?_,h1,?_,f1,f2,by rw [hlen]; exact f3,⟨f4,by rw [hlen]; exact f5,fun i hi => ?_,h5⟩,fun t ht => ?_,by omega,f6,by show (shapeT _).length ≤ 800; omega,by omega⟩
 ·have := List.all_eq_true.1 h2 p hp
  simp only [Bool.and_eq_true,decide_eq_true_eq] at this
  obtain ⟨⟨⟨a1,a2⟩,a3⟩,a4⟩ := this
  have d1 : dg 2 1 p.1 := ⟨a1,a2⟩
  have d2 : dg 2 1 p.2 := ⟨a3,a4⟩
  exact ⟨d1.mono (by omega) (by omega),d2.mono (by omega) (by omega)⟩
 ·unfold Tryz.ownsOk
  rw [hlen]
  exact Tryz.owns_all (s.kind % 8) hk
 ·have := List.all_eq_true.1 h4 i (List.mem_range.2 hi)
  simpa using this
 ·have := List.all_eq_true.1 h3 t ht
  unfold trOk
  split at this
  ·rename_i p q r e1 e2 e3
   exact ⟨p,q,r,e1,e2,e3,by simpa using this⟩
  ·cases this
theorem Tryz.aMCheckS (s : Sheet) : ACallsTo Tryz.prog 54 [.agg [.slice 0 0 s.P.length none,.slice 1 0 s.T.length none]] [.cells false 2 (pC s.P),.cells false 3 (tC s.T)] (.int .i64 0) [.cells false 2 (pC s.P),.cells false 3 (tC s.T)] :=
 Tryz.aMCheckP (Tryz.whole_sheet s)
end Go.Proofs
