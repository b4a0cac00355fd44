/- See E54. -/
import Derived.Test.YthpgbelancmpjaaGreatDoorE21
set_option linter.all false
namespace Go.Proofs
open Go.Eng
end Go.Proofs
