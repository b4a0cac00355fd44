/- Part A43 of a proof: see its last part, YtiopbpbcgccngaaGreatDoorA47.lean. -/
import Derived.Test.YtiopbpbcgccngaaGreatDoorA42
import Derived.Test.YtiopbpbcgccngaaGreatDoorRows
import Derived.Test.YtiopbpbcgccngaaGreatDoorTie
import Derived.Test.YtiopbpbcgccngaaGreatDoorCards
import Derived.ProofKit
import Derived.LaidMore
import Derived.OpenShut
import Derived.ChangeSame
import Derived.ChangeVars
import Derived.JoinedOf
import Derived.RowKit
import Derived.LaidLaws
import Derived.LaidHandle
import Derived.MakeChecks
import Derived.Deep.SlicePairs
import Derived.Carry
import Derived.Stop.Joined
import Derived.SevenTiedAt
set_option linter.all false
namespace Go.Proofs.YtiopbpbcgccngaaGreatDoor
open Go.ChangeShapes Go.WideShapes Go.ChangeAt Go.WideMaps Go.WideElems Go.RowKit Go.Eng
theorem own : ownKnob Tryz.prog.godebug = none := by kernel_rfl
theorem laidOut : laidOutB Tryz.prog = true := by kernel_rfl
def laidAll : List (String × DataW Unit) := Rows.welllogTopsRow.laid
theorem door_met (os : Os) (args : Array Value) : laidMetH Tryz.prog laidAll ((World.doorLaid Tryz.prog 400 os).forCall (fun _ _ => 0) ⟨#[], args, []⟩).memory :=
  laidMetH_of_parts3 (fuel := 8) (laidMet_of_run' 8 (by kernel_rfl) (by kernel_rfl)) (by kernel_rfl) (by kernel_rfl)
theorem tab_name : itoaTab = (laidAll.getD 2 ("", .nil)).1 := by kernel_rfl
end Go.Proofs.YtiopbpbcgccngaaGreatDoor
