/- Part A50 of a proof: see its last part, YtindglnpfdlbhaaGreatDoorA51.lean. -/
import Derived.Test.YtindglnpfdlbhaaGreatDoorA49
set_option linter.all false
namespace Go.Proofs.YtindglnpfdlbhaaGreatDoor
open Go.ChangeShapes Go.WideShapes Go.ChangeAt Go.WideMaps Go.WideElems Go.RowKit Go.Eng
set_option maxHeartbeats 40000000 in
set_option maxRecDepth 100000 in
theorem eventValues_facts : joinedFacts Tryz.prog 3 Tryz.f3 Rows.eventValuesSpec Rows.eventValuesRow = true := by
  unfold joinedFacts
  simp only [Bool.and_eq_true]
  repeat' apply And.intro
  all_goals (as_aux_lemma => kernel_rfl)
end Go.Proofs.YtindglnpfdlbhaaGreatDoor
