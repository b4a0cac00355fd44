/- See E54. -/
import Derived.Test.YthpgbelancmpjaaGreatDoorE17
import Derived.Test.YthpgbelancmpjaaGreatDoorE05
set_option linter.all false
namespace Go.Eng
def Xu(B:Int):List Int→Int
 | []=>0
 |d::l=>d+B*Xu B l
structure agS (A:List Int)(i:Nat)(over:Int)(out:List Nat):Prop where
 len:out.length=i
 ok:lok 10000 out=true
 val:(aF 10000 out:Int)+10000 ^ i*(Xu 10000 (A.drop i)+over)=Xu 10000 A
 b1:over.natAbs≤1000000000000
 b2:i+over.natAbs≤A.length+1000000000000
end Go.Eng
namespace Go.Proofs
open Go.Eng
end Go.Proofs
