/- See E54. -/
import Derived.Test.YthpgbelancmpjaaGreatDoorE18
set_option linter.all false
namespace Go.Proofs
open Go.Eng
end Go.Proofs
namespace Go.Eng
end Go.Eng
namespace Go.Proofs
open Go.Eng
end Go.Proofs
