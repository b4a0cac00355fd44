/- Part A46 of a proof: see its last part, YtiopbpbcgccngaaGreatDoorA47.lean. -/
import Derived.Test.YtiopbpbcgccngaaGreatDoorA45
set_option linter.all false
namespace Go.Proofs.YtiopbpbcgccngaaGreatDoor
open Go.ChangeShapes Go.WideShapes Go.ChangeAt Go.WideMaps Go.WideElems Go.RowKit Go.Eng
set_option maxHeartbeats 40000000 in
set_option maxRecDepth 100000 in
theorem welllogTops_facts : joinedFacts Tryz.prog 3 Tryz.f3 Rows.welllogTopsSpec Rows.welllogTopsRow = true := by
  unfold joinedFacts
  simp only [Bool.and_eq_true]
  repeat' apply And.intro
  all_goals (as_aux_lemma => kernel_rfl)
end Go.Proofs.YtiopbpbcgccngaaGreatDoor
