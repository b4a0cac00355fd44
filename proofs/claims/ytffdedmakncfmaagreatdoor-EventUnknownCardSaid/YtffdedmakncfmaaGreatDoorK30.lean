/- See K51. -/
import Derived.Test.YtffdedmakncfmaaGreatDoorK29
set_option linter.all false
namespace Go.Proofs
open Go.Eng
end Go.Proofs
namespace Go.Proofs
open Go.Eng
end Go.Proofs
namespace Go.Proofs
open Go.Eng
def xg(nm:List UInt8) (b u s:AV):List AV:=[.int .i64 1,.str nm,b,u,s,.str [],.str [],.str [],.str [],.str [],.str [],.str [],.str [],.str [],.str [],.nilslice,.str [],.str [],.str [],.str [],.str [],.str [],.str [],.str [],.str [],.int .i64 0,.int .i64 0,.int .i64 0,.int .i64 0,.str [],.str [],.str []]
end Go.Proofs
