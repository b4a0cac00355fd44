/-
The law WelllogTops of package klippelaw43 returns true for every list of bits, and the argument reads afterwards as it read before.
Conditions: those of the given row alone: the package-level variables that it lists hold at the start what the program's text lays (the given tie closes that); nothing is asked of the argument beyond what a Go program can hold.
How: an executable engine over abstract values, proved sound over the library's fenced calculus (parts A01 to A10), contracts of the program's functions by runs of that engine (A13 to A42), the plain laws of numbers and of intervals (A11, A12), the closed run of known by the kernel, cut into remembered calls (A38 to A41), the row and its card (A43 to A47).
-/
import Derived.Test.YtiopbpbcgccngaaGreatDoorA46
set_option linter.all false
namespace Go.Proofs.YtiopbpbcgccngaaGreatDoor
open Go.ChangeShapes Go.WideShapes Go.ChangeAt Go.WideMaps Go.WideElems Go.RowKit Go.Eng
set_option maxHeartbeats 40000000 in
set_option maxRecDepth 100000 in
theorem welllogTops_row : Rows.WelllogTopsSaid :=
  OpenClaim.holds_of_wide 3 Tryz.f3 rfl rfl rfl rfl rfl rfl rfl ⟨rfl, rfl, rfl, rfl, rfl⟩ rfl rfl rfl rfl rfl (by as_aux_lemma => kernel_rfl) Tryz.func3 welllogTops_facts
    (of_decide_eq_true (by as_aux_lemma => kernel_rfl)) (by unfold Func.isWrapper; first | (rw [if_pos (by decide +kernel)]; kernel_rfl) | (rw [if_neg (by decide +kernel)]; exact ⟨rfl, rfl⟩))
    (fun os started H enc _ => welllogTops_lifted os started H enc)
end Go.Proofs.YtiopbpbcgccngaaGreatDoor
namespace Go.Proofs.YtiopbpbcgccngaaGreatDoor
open Go.ChangeShapes Go.WideShapes Go.ChangeAt Go.WideMaps Go.WideElems Go.RowKit Go.Eng
set_option maxHeartbeats 40000000 in
set_option maxRecDepth 100000 in
theorem welllogTops_card : Rows.WelllogTopsCardSaid :=
  Claim7.holds_tied_plain_at .later [] [.data, .data, .data, .sentinel, .sentinel] true (true, "9eab3522df16a5c8b391370e4e0ee0c788f618622901efdfe2d7aa5ac60f9b57") true
    welllogTops_row (fun _ h => by cases h) (by as_aux_lemma => kernel_rfl) (fun _ h => by cases h) welllogTops_row_tie rfl ⟨rfl, rfl⟩ (by as_aux_lemma => kernel_rfl) rfl
    (fun f fn hf hfn => by
      obtain rfl : f = 3 := Option.some.inj ((show Tryz.prog.funcNamed Rows.welllogTopsRow.func = some 3 by as_aux_lemma => kernel_rfl).symm.trans hf) |>.symm
      obtain rfl : fn = Tryz.f3 := (Option.some.inj (Tryz.func3.symm.trans hfn)).symm
      exact ⟨by as_aux_lemma => kernel_rfl, fun j t ht => by
        have hp : Tryz.f3.params = #[22] := rfl
        rw [hp] at ht
        match j, ht with
        | 0, ht => simp at ht; subst ht; exact (show Tryz.prog.wantsStandIn 22 = false by as_aux_lemma => kernel_rfl)
        | j + 1, ht => simp at ht⟩)
    (by as_aux_lemma => kernel_rfl)
#print axioms welllogTops_card
end Go.Proofs.YtiopbpbcgccngaaGreatDoor
