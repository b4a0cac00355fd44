/- See F54. -/
import Derived.Test.YtgafjliihahjgaaGreatDoorF37
set_option linter.all false
namespace Go.Proofs
open Go.Eng
theorem SM:(List.range 8).all (fun k=>aT ((k:Int)+(-23)) 2)=true:=by kernel_rfl
theorem SN:(List.range 8).all (fun k=>aT ((k:Int)+(-15)) 2)=true:=by kernel_rfl
theorem SO:(List.range 8).all (fun k=>aT ((k:Int)+(-7)) 2)=true:=by kernel_rfl
theorem SQ:(List.range 8).all (fun k=>aT ((k:Int)+1) 2)=true:=by kernel_rfl
theorem SR:(List.range 8).all (fun k=>aT ((k:Int)+9) 2)=true:=by kernel_rfl
theorem SS:(List.range 8).all (fun k=>aT ((k:Int)+17) 2)=true:=by kernel_rfl
variable{m:Int}
theorem VH(h0: -23≤m)(A:m≤24):aT m 2=true:=by
 by_cases Z:m< -15
 ·exact bF SM (by omega) (by omega)
 by_cases X:m< -7
 ·exact bF SN (by omega) (by omega)
 by_cases W:m<1
 ·exact bF SO (by omega) (by omega)
 by_cases V:m<9
 ·exact bF SQ (by omega) (by omega)
 by_cases S:m<17
 ·exact bF SR (by omega) (by omega)
 exact bF SS (by omega) (by omega)
theorem SU:(List.range 8).all (fun k=>aT ((k:Int)+25) 2)=true:=by kernel_rfl
theorem SV:(List.range 8).all (fun k=>aT ((k:Int)+33) 2)=true:=by kernel_rfl
theorem SW:(List.range 8).all (fun k=>aT ((k:Int)+41) 2)=true:=by kernel_rfl
theorem SX:(List.range 8).all (fun k=>aT ((k:Int)+49) 2)=true:=by kernel_rfl
theorem SY:(List.range 8).all (fun k=>aT ((k:Int)+57) 2)=true:=by kernel_rfl
theorem SZ:(List.range 7).all (fun k=>aT ((k:Int)+65) 2)=true:=by kernel_rfl
theorem VI(h0:25≤m)(A:m≤71):aT m 2=true:=by
 by_cases Z:m<33
 ·exact bF SU (by omega) (by omega)
 by_cases X:m<41
 ·exact bF SV (by omega) (by omega)
 by_cases W:m<49
 ·exact bF SW (by omega) (by omega)
 by_cases V:m<57
 ·exact bF SX (by omega) (by omega)
 by_cases S:m<65
 ·exact bF SY (by omega) (by omega)
 exact bF SZ (by omega) (by omega)
theorem S0:(List.range 2).all (fun k=>aT ((k:Int)+0) 5)=true:=by kernel_rfl
theorem VJ(h0:0≤m)(A:m≤1):aT m 5=true:=by exact bF S0 (by omega) (by omega)
theorem S4:(List.range 2).all (fun k=>aT ((k:Int)+0) 10)=true:=by kernel_rfl
theorem VK(h0:0≤m)(A:m≤1):aT m 10=true:=by exact bF S4 (by omega) (by omega)
end Go.Proofs
