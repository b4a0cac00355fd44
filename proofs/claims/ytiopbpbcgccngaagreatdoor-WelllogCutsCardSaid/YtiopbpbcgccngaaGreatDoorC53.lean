/- Part C53 of a proof: see its last part, YtiopbpbcgccngaaGreatDoorC54.lean. -/
import Derived.Test.YtiopbpbcgccngaaGreatDoorC52
set_option linter.all false
namespace Go.Proofs.YtiopbpbcgccngaaGreatDoor
open Go.ChangeShapes Go.WideShapes Go.ChangeAt Go.WideMaps Go.WideElems Go.RowKit Go.Eng
set_option maxHeartbeats 40000000 in
set_option maxRecDepth 100000 in
theorem welllogCuts_facts : joinedFacts Tryz.prog 6 Tryz.f6 Rows.welllogCutsSpec Rows.welllogCutsRow = true := by
  unfold joinedFacts
  simp only [Bool.and_eq_true]
  repeat' apply And.intro
  all_goals (as_aux_lemma => kernel_rfl)
end Go.Proofs.YtiopbpbcgccngaaGreatDoor
