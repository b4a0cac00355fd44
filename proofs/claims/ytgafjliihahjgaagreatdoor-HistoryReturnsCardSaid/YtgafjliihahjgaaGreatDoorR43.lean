/- See R54. -/
import Derived.Test.YtgafjliihahjgaaGreatDoorR42
set_option linter.all false
namespace Go.Proofs
open Go.Eng
theorem QD:(List.range 8).all (fun k=>aS ((k:Int)+(-23)) 2)=true:=by kernel_rfl
theorem QE:(List.range 8).all (fun k=>aS ((k:Int)+(-15)) 2)=true:=by kernel_rfl
theorem QF:(List.range 8).all (fun k=>aS ((k:Int)+(-7)) 2)=true:=by kernel_rfl
theorem QG:(List.range 8).all (fun k=>aS ((k:Int)+1) 2)=true:=by kernel_rfl
theorem QH:(List.range 8).all (fun k=>aS ((k:Int)+9) 2)=true:=by kernel_rfl
theorem QI:(List.range 8).all (fun k=>aS ((k:Int)+17) 2)=true:=by kernel_rfl
variable{m:Int}
theorem Ty(h0: -23≤m)(h1:m≤24):aS m 2=true:=by
 by_cases c0:m< -15
 ·exact bA QD (by omega) (by omega)
 by_cases c1:m< -7
 ·exact bA QE (by omega) (by omega)
 by_cases c2:m<1
 ·exact bA QF (by omega) (by omega)
 by_cases c3:m<9
 ·exact bA QG (by omega) (by omega)
 by_cases c4:m<17
 ·exact bA QH (by omega) (by omega)
 exact bA QI (by omega) (by omega)
theorem QJ:(List.range 8).all (fun k=>aS ((k:Int)+25) 2)=true:=by kernel_rfl
theorem QK:(List.range 8).all (fun k=>aS ((k:Int)+33) 2)=true:=by kernel_rfl
theorem QL:(List.range 8).all (fun k=>aS ((k:Int)+41) 2)=true:=by kernel_rfl
theorem QM:(List.range 8).all (fun k=>aS ((k:Int)+49) 2)=true:=by kernel_rfl
theorem QN:(List.range 8).all (fun k=>aS ((k:Int)+57) 2)=true:=by kernel_rfl
theorem QO:(List.range 7).all (fun k=>aS ((k:Int)+65) 2)=true:=by kernel_rfl
theorem Tz(h0:25≤m)(h1:m≤71):aS m 2=true:=by
 by_cases c0:m<33
 ·exact bA QJ (by omega) (by omega)
 by_cases c1:m<41
 ·exact bA QK (by omega) (by omega)
 by_cases c2:m<49
 ·exact bA QL (by omega) (by omega)
 by_cases c3:m<57
 ·exact bA QM (by omega) (by omega)
 by_cases c4:m<65
 ·exact bA QN (by omega) (by omega)
 exact bA QO (by omega) (by omega)
theorem QP:(List.range 2).all (fun k=>aS ((k:Int)+0) 5)=true:=by kernel_rfl
theorem TA(h0:0≤m)(h1:m≤1):aS m 5=true:=by exact bA QP (by omega) (by omega)
theorem QQ:(List.range 2).all (fun k=>aS ((k:Int)+0) 10)=true:=by kernel_rfl
theorem TB(h0:0≤m)(h1:m≤1):aS m 10=true:=by exact bA QQ (by omega) (by omega)
end Go.Proofs
