/- See E54. -/
import Derived.Test.YthpgbelancmpjaaGreatDoorE49
set_option linter.all false
namespace Go.Proofs
open Go.Eng
theorem WU{Q R:List Rat}(h:qC Q=qC R):Q=R:=by unfold qC at h;exact List.map_inj_right (f:=fun q=>AV.str (aj q)) (fun x y e=>gJ (by simpa using e)) |>.1 h
section
variable {M:Mem}{mv:AV}{P:List P2}{T:List Tr}{q:P2}
theorem W2{a b:Rat}:ky (a-b)<0↔a<b:=by rw[←Rat.not_le,←VY];omega
noncomputable def Wh(P:List P2)(T:List Tr)(B:List Rat)(H:List (List Rat))(p:V3):Int:=
 match Tj P (p.1,p.2.1) T 0 with
 |none=> -2
 |some (j,w)=>if p.2.2<Wl T B j w then -1 else (VI p.2.2 (H.map fun Q=>Wl T Q j w):Int)
variable {B:List Rat}{sfs:List (Nat×List Rat)}{pb tb fb sb:Nat}{o1 o2 o3 o4:Bool}{u sv:AV}{p:V3}{c:Evc}
end
noncomputable def dkL(n:V3)(o w:Rat)(p:V3):Int:=if dj n p-o<0 then 0 else if dj n p-o<w then 1 else 2
section
variable {x y:AV}{M:Mem}
end
end Go.Proofs
