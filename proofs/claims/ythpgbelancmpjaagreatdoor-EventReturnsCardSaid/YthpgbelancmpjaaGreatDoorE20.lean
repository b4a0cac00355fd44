/- See E54. -/
import Derived.Test.YthpgbelancmpjaaGreatDoorE19
set_option linter.all false
namespace Go.Proofs
open Go.Eng
end Go.Proofs
