/- Part B54 of a proof: see its last part, YtiopbpbcgccngaaGreatDoorB55.lean. -/
import Derived.Test.YtiopbpbcgccngaaGreatDoorB53
set_option linter.all false
namespace Go.Proofs.YtiopbpbcgccngaaGreatDoor
open Go.ChangeShapes Go.WideShapes Go.ChangeAt Go.WideMaps Go.WideElems Go.RowKit Go.Eng
set_option maxHeartbeats 40000000 in
set_option maxRecDepth 100000 in
theorem welllogUnits_facts : joinedFacts Tryz.prog 5 Tryz.f5 Rows.welllogUnitsSpec Rows.welllogUnitsRow = true := by
  unfold joinedFacts
  simp only [Bool.and_eq_true]
  repeat' apply And.intro
  all_goals (as_aux_lemma => kernel_rfl)
end Go.Proofs.YtiopbpbcgccngaaGreatDoor
