/- See E54. -/
import Derived.Test.YthpgbelancmpjaaGreatDoorE26
set_option linter.all false
namespace Go.Proofs
open Go.Eng
theorem Sy{L:List Int}{k:Nat}(h:k<L.length):(qC (qH L))[k]? =some (.str (aj (hQ (L.getD k 0)))):=by
 have Z:L[k]? =some (L.getD k 0):=by rw[List.getD_eq_getElem?_getD,List.getElem?_eq_getElem h];rfl
 exact Nf (by simp only[qH,List.getElem?_map,Z];rfl)
theorem B6(L:List Int):(qC (qH L)).length=L.length:=by rw[KE];simp[qH]
def FQ(nm:List UInt8)(b u s:AV):List AV:=[.int .i64 1,.str nm,b,u,s,.str [],.str [],.str [],.str [],.str [],.str [],.str [],.str [],.str [],.str [],.qF,.str [],.str [],.str [],.str [],.str [],.str [],.str [],.str [],.str [],.int .i64 0,.int .i64 0,.int .i64 0,.int .i64 0,.str [],.str [],.str []]
end Go.Proofs
