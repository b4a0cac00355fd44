/-
The law EventValues of package klippelaw29 returns true for every row of knots and every text u, and both arguments read afterwards as they read before.
Conditions: those of the given row alone: the package-level variables that it lists hold at the start what the program's text lays (the given tie closes that); nothing is asked of the arguments beyond what a Go program can hold.
How: an executable engine over abstract values, proved sound over the library's fenced calculus (parts A01 to A09), contracts of the program's functions by runs of that engine (A11 to A46), the plain laws of numbers and folds (A10), the closed run of known by the kernel (A43 to A45), the row and its card (A47 to A51).
-/
import Derived.Test.YtindglnpfdlbhaaGreatDoorA50
set_option linter.all false
namespace Go.Proofs.YtindglnpfdlbhaaGreatDoor
open Go.ChangeShapes Go.WideShapes Go.ChangeAt Go.WideMaps Go.WideElems Go.RowKit Go.Eng
set_option maxHeartbeats 40000000 in
set_option maxRecDepth 100000 in
theorem eventValues_row : Rows.EventValuesSaid :=
  OpenClaim.holds_of_wide 3 Tryz.f3 rfl rfl rfl rfl rfl rfl rfl ⟨rfl, rfl, rfl, rfl, rfl⟩ rfl rfl rfl rfl rfl (by as_aux_lemma => kernel_rfl) Tryz.func3 eventValues_facts
    (of_decide_eq_true (by as_aux_lemma => kernel_rfl)) (by unfold Func.isWrapper; first | (rw [if_pos (by decide +kernel)]; kernel_rfl) | (rw [if_neg (by decide +kernel)]; exact ⟨rfl, rfl⟩))
    (fun os started H enc _ => eventValues_lifted os started H enc)
end Go.Proofs.YtindglnpfdlbhaaGreatDoor
namespace Go.Proofs.YtindglnpfdlbhaaGreatDoor
open Go.ChangeShapes Go.WideShapes Go.ChangeAt Go.WideMaps Go.WideElems Go.RowKit Go.Eng
set_option maxHeartbeats 40000000 in
set_option maxRecDepth 100000 in
theorem eventValues_card : Rows.EventValuesCardSaid :=
  Claim7.holds_tied_plain_at .later [] [.data, .data, .data, .sentinel, .sentinel] true (true, "29e812f51951e50b1c10c9895489fb4ab5ec6d001c3fa19426a621baf81dd382") true
    eventValues_row (fun _ h => by cases h) (by as_aux_lemma => kernel_rfl) (fun _ h => by cases h) eventValues_row_tie rfl ⟨rfl, rfl⟩ (by as_aux_lemma => kernel_rfl) rfl
    (fun f fn hf hfn => by
      obtain rfl : f = 3 := Option.some.inj ((show Tryz.prog.funcNamed Rows.eventValuesRow.func = some 3 by as_aux_lemma => kernel_rfl).symm.trans hf) |>.symm
      obtain rfl : fn = Tryz.f3 := (Option.some.inj (Tryz.func3.symm.trans hfn)).symm
      exact ⟨by as_aux_lemma => kernel_rfl, fun j t ht => by
        have hp : Tryz.f3.params = #[22, 23] := rfl
        rw [hp] at ht
        match j, ht with
        | 0, ht => simp at ht; subst ht; exact (show Tryz.prog.wantsStandIn 22 = false by as_aux_lemma => kernel_rfl)
        | 1, ht => simp at ht; subst ht; exact (show Tryz.prog.wantsStandIn 23 = false by as_aux_lemma => kernel_rfl)
        | j + 2, ht => simp at ht⟩)
    (by as_aux_lemma => kernel_rfl)
#print axioms eventValues_card
end Go.Proofs.YtindglnpfdlbhaaGreatDoor
