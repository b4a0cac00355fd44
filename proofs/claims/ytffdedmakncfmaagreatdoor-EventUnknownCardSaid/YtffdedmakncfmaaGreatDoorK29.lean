/- See K51. -/
import Derived.Test.YtffdedmakncfmaaGreatDoorK28
set_option linter.all false
namespace Go.Proofs
open Go.Eng
end Go.Proofs
namespace Go.Proofs
open Go.Eng
theorem Oi{L:List Int}{k:Nat}(h:k<L.length):(qC (qH L))[k]? =some (.str (aB (hQ (L.getD k 0)))):=by
 have h1:L[k]? =some (L.getD k 0):=by rw[List.getD_eq_getElem?_getD,List.getElem?_eq_getElem h];rfl
 exact Q7 (by simp only[qH,List.getElem?_map,h1];rfl)
theorem zE(L:List Int):(qC (qH L)).length=L.length:=by rw[Hj];simp[qH]
end Go.Proofs
