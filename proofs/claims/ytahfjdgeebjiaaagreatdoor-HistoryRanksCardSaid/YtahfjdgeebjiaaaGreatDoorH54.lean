/- See H55. -/
import Derived.Test.YtahfjdgeebjiaaaGreatDoorH53
set_option linter.all false
namespace Go.Proofs.YtahfjdgeebjiaaaGreatDoor
open Go.ChangeShapes Go.WideShapes Go.ChangeAt Go.WideMaps Go.WideElems Go.RowKit Go.Eng
set_option maxHeartbeats 40000000 in
set_option maxRecDepth 100000 in
theorem historyRanks_facts : joinedFacts Tryz.prog 3 Tryz.f3 Rows.historyRanksSpec Rows.historyRanksRow = true := by
 unfold joinedFacts
 simp only [Bool.and_eq_true]
 repeat' apply And.intro
 all_goals (as_aux_lemma => kernel_rfl)
end Go.Proofs.YtahfjdgeebjiaaaGreatDoor
