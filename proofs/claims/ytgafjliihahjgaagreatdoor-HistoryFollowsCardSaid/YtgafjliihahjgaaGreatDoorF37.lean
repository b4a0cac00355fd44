/- See F54. -/
import Derived.Test.YtgafjliihahjgaaGreatDoorF12
set_option linter.all false
namespace Go.Proofs
open Go.Eng
open Tryz
def ZK(q:List UInt8)(r:aeQ):Bool:=match r.v with
 |.tuple [.str s,.str z,.int .i64 0]=>s==q&&z==[48]&&(match r.pre with | some p=>p.isEmpty | none=>true)&&r.new.isEmpty
 |_=>false
theorem UQ{q:List UInt8}{r:aeQ}(h:ZK q r=true):r.v=.tuple [.str q,.str [48],.int .i64 0]∧r.mem []=[]:=by
 obtain⟨v,Z,W⟩:=r;unfold ZK at h;simp only at h;split at h
 ·rename_i s z
  simp only[Bool.and_eq_true,beq_iff_eq,List.isEmpty_iff] at h;obtain⟨⟨⟨rfl,rfl⟩,X⟩,rfl⟩:=h;refine⟨rfl,?_⟩;cases Z with
  |none=>rfl
  |some p=>
   simp only[List.isEmpty_iff] at X;subst X;rfl
 ·cases h
noncomputable def aT(m:Int)(g:Nat):Bool:=match sN (aN prog) ab (aK prog) Gj 60 30 (.fn 171) [.str (cC (m*g)),.str (aR g)] [] with
 |some r=>ZK (cC m) r
 |none=>false
variable{m:Int}
theorem bF{c:Int}{n g:Nat}(h:(List.range n).all (fun k=>aT ((k:Int)+c) g)=true)(h0:c≤m)(A:m<c+n):aT m g=true:=by
 have:=List.all_eq_true.1 h (m-c).toNat (List.mem_range.2 (by omega))
 rwa [show(((m-c).toNat:Nat)+c:Int)=m by omega] at this
theorem SF:(List.range 8).all (fun k=>aT ((k:Int)+(-71)) 2)=true:=by kernel_rfl
theorem SG:(List.range 8).all (fun k=>aT ((k:Int)+(-63)) 2)=true:=by kernel_rfl
theorem SH:(List.range 8).all (fun k=>aT ((k:Int)+(-55)) 2)=true:=by kernel_rfl
theorem SI:(List.range 8).all (fun k=>aT ((k:Int)+(-47)) 2)=true:=by kernel_rfl
theorem SJ:(List.range 8).all (fun k=>aT ((k:Int)+(-39)) 2)=true:=by kernel_rfl
theorem SK:(List.range 8).all (fun k=>aT ((k:Int)+(-31)) 2)=true:=by kernel_rfl
theorem VG(h0: -71≤m)(A:m≤ -24):aT m 2=true:=by
 by_cases Z:m< -63
 ·exact bF SF (by omega) (by omega)
 by_cases X:m< -55
 ·exact bF SG (by omega) (by omega)
 by_cases W:m< -47
 ·exact bF SH (by omega) (by omega)
 by_cases V:m< -39
 ·exact bF SI (by omega) (by omega)
 by_cases S:m< -31
 ·exact bF SJ (by omega) (by omega)
 exact bF SK (by omega) (by omega)
end Go.Proofs
