/-
The law WelllogChecks of package klippelaw43 returns true for every two lists of intervals, and both arguments read afterwards as they read before.
Conditions: those of the given row alone: the package-level variables that it lists hold at the start what the program's text lays (the given tie closes that); nothing is asked of the arguments beyond what a Go program can hold.
How: an executable engine over abstract values, proved sound over the library's fenced calculus (parts K01 to K10), contracts of the program's functions by runs of that engine (K13 to K52), the plain laws of numbers and of intervals (K11, K12, K48), the closed run of known by the kernel, cut into remembered calls (K38 to K41), the row and its card (the last parts).
-/
import Derived.Test.YtiopbpbcgccngaaGreatDoorK53
set_option linter.all false
namespace Go.Proofs.YtiopbpbcgccngaaGreatDoor
open Go.ChangeShapes Go.WideShapes Go.ChangeAt Go.WideMaps Go.WideElems Go.RowKit Go.Eng
set_option maxHeartbeats 40000000 in
set_option maxRecDepth 100000 in
theorem welllogChecks_facts : joinedFacts Tryz.prog 7 Tryz.f7 Rows.welllogChecksSpec Rows.welllogChecksRow = true := by
 unfold joinedFacts
 simp only [Bool.and_eq_true]
 repeat' apply And.intro
 all_goals (as_aux_lemma => kernel_rfl)
end Go.Proofs.YtiopbpbcgccngaaGreatDoor
namespace Go.Proofs.YtiopbpbcgccngaaGreatDoor
open Go.ChangeShapes Go.WideShapes Go.ChangeAt Go.WideMaps Go.WideElems Go.RowKit Go.Eng
set_option maxHeartbeats 40000000 in
set_option maxRecDepth 100000 in
theorem welllogChecks_row : Rows.WelllogChecksSaid :=
 OpenClaim.holds_of_wide 7 Tryz.f7 rfl rfl rfl rfl rfl rfl rfl ⟨rfl,rfl,rfl,rfl,rfl⟩ rfl rfl rfl rfl rfl (by as_aux_lemma => kernel_rfl) Tryz.func7 welllogChecks_facts
  (of_decide_eq_true (by as_aux_lemma => kernel_rfl)) (by unfold Func.isWrapper; first | (rw [if_pos (by decide +kernel)]; kernel_rfl) | (rw [if_neg (by decide +kernel)]; exact ⟨rfl,rfl⟩))
  (fun os started H enc _ => welllogChecks_lifted os started H enc)
end Go.Proofs.YtiopbpbcgccngaaGreatDoor
namespace Go.Proofs.YtiopbpbcgccngaaGreatDoor
open Go.ChangeShapes Go.WideShapes Go.ChangeAt Go.WideMaps Go.WideElems Go.RowKit Go.Eng
set_option maxHeartbeats 40000000 in
set_option maxRecDepth 100000 in
theorem welllogChecks_card : Rows.WelllogChecksCardSaid :=
 Claim7.holds_tied_plain_at .later [] [.data,.data,.data,.sentinel,.sentinel] true (true,"9eab3522df16a5c8b391370e4e0ee0c788f618622901efdfe2d7aa5ac60f9b57") true
  welllogChecks_row (fun _ h => by cases h) (by as_aux_lemma => kernel_rfl) (fun _ h => by cases h) welllogChecks_row_tie rfl ⟨rfl,rfl⟩ (by as_aux_lemma => kernel_rfl) rfl
  (fun f fn hf hfn => by
   obtain rfl : f = 7 := Option.some.inj ((show Tryz.prog.funcNamed Rows.welllogChecksRow.func = some 7 by as_aux_lemma => kernel_rfl).symm.trans hf) |>.symm
   obtain rfl : fn = Tryz.f7 := (Option.some.inj (Tryz.func7.symm.trans hfn)).symm
   exact ⟨by as_aux_lemma => kernel_rfl,fun j t ht => by
    have hp : Tryz.f7.params = #[24,24] := rfl
    rw [hp] at ht
    match j,ht with
    | 0,ht => simp at ht; subst ht; exact (show Tryz.prog.wantsStandIn 24 = false by as_aux_lemma => kernel_rfl)
    | 1,ht => simp at ht; subst ht; exact (show Tryz.prog.wantsStandIn 24 = false by as_aux_lemma => kernel_rfl)
    | j + 2,ht => simp at ht⟩)
  (by as_aux_lemma => kernel_rfl)
#print axioms welllogChecks_card
end Go.Proofs.YtiopbpbcgccngaaGreatDoor
