/- See I57. -/
import Derived.Test.YtahfjdgeebjiaaaGreatDoorI54
set_option linter.all false
namespace Go.Proofs.YtahfjdgeebjiaaaGreatDoor
open Go.ChangeShapes Go.WideShapes Go.ChangeAt Go.WideMaps Go.WideElems Go.RowKit Go.Eng
set_option maxHeartbeats 40000000 in
set_option maxRecDepth 100000 in
theorem historyRelations_facts : joinedFacts Tryz.prog 4 Tryz.f4 Rows.historyRelationsSpec Rows.historyRelationsRow = true := by
 unfold joinedFacts
 simp only [Bool.and_eq_true]
 repeat' apply And.intro
 all_goals (as_aux_lemma => kernel_rfl)
end Go.Proofs.YtahfjdgeebjiaaaGreatDoor
