/- See Q54. -/
import Derived.Test.YtgafjliihahjgaaGreatDoorQ42
set_option linter.all false
namespace Go.Proofs
open Go.Eng
theorem NR:(List.range 8).all (fun k=>aK ((k:Int)+(-23)) 2)=true:=by kernel_rfl
theorem NS:(List.range 8).all (fun k=>aK ((k:Int)+(-15)) 2)=true:=by kernel_rfl
theorem NT:(List.range 8).all (fun k=>aK ((k:Int)+(-7)) 2)=true:=by kernel_rfl
theorem NU:(List.range 8).all (fun k=>aK ((k:Int)+1) 2)=true:=by kernel_rfl
theorem NV:(List.range 8).all (fun k=>aK ((k:Int)+9) 2)=true:=by kernel_rfl
theorem NW:(List.range 8).all (fun k=>aK ((k:Int)+17) 2)=true:=by kernel_rfl
theorem Ql{m:Int}(h0: -23≤m) (h1:m≤24):aK m 2=true:=by
 by_cases c0:m< -15
 ·exact bk NR (by omega) (by omega)
 by_cases c1:m< -7
 ·exact bk NS (by omega) (by omega)
 by_cases c2:m<1
 ·exact bk NT (by omega) (by omega)
 by_cases c3:m<9
 ·exact bk NU (by omega) (by omega)
 by_cases c4:m<17
 ·exact bk NV (by omega) (by omega)
 exact bk NW (by omega) (by omega)
theorem NX:(List.range 8).all (fun k=>aK ((k:Int)+25) 2)=true:=by kernel_rfl
theorem NY:(List.range 8).all (fun k=>aK ((k:Int)+33) 2)=true:=by kernel_rfl
theorem NZ:(List.range 8).all (fun k=>aK ((k:Int)+41) 2)=true:=by kernel_rfl
theorem N3:(List.range 8).all (fun k=>aK ((k:Int)+49) 2)=true:=by kernel_rfl
theorem N4:(List.range 8).all (fun k=>aK ((k:Int)+57) 2)=true:=by kernel_rfl
theorem N5:(List.range 7).all (fun k=>aK ((k:Int)+65) 2)=true:=by kernel_rfl
theorem Qm{m:Int}(h0:25≤m) (h1:m≤71):aK m 2=true:=by
 by_cases c0:m<33
 ·exact bk NX (by omega) (by omega)
 by_cases c1:m<41
 ·exact bk NY (by omega) (by omega)
 by_cases c2:m<49
 ·exact bk NZ (by omega) (by omega)
 by_cases c3:m<57
 ·exact bk N3 (by omega) (by omega)
 by_cases c4:m<65
 ·exact bk N4 (by omega) (by omega)
 exact bk N5 (by omega) (by omega)
theorem N6:(List.range 2).all (fun k=>aK ((k:Int)+0) 5)=true:=by kernel_rfl
theorem Qn{m:Int}(h0:0≤m) (h1:m≤1):aK m 5=true:=by exact bk N6 (by omega) (by omega)
theorem N7:(List.range 2).all (fun k=>aK ((k:Int)+0) 10)=true:=by kernel_rfl
theorem Qo{m:Int}(h0:0≤m) (h1:m≤1):aK m 10=true:=by exact bk N7 (by omega) (by omega)
end Go.Proofs
