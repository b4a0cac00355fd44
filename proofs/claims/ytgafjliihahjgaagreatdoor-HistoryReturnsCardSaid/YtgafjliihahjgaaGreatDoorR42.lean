/- See R54. -/
import Derived.Test.YtgafjliihahjgaaGreatDoorR17
set_option linter.all false
namespace Go.Proofs
open Go.Eng
open Tryz
def XA(q:List UInt8) (r:HS):Bool:=match r.v with
 |.tuple [.str s,.str z,.int .i64 0]=>s==q&&z==[48]&&(match r.pre with | some p=>p.isEmpty | none=>true)&&r.new.isEmpty
 |_=>false
theorem SG{q:List UInt8}{r:HS}(h:XA q r=true):r.v=.tuple [.str q,.str [48],.int .i64 0]∧r.mem []=[]:=by
 obtain⟨v,pre,new⟩:=r;unfold XA at h;simp only at h;split at h
 ·rename_i s z
  simp only[Bool.and_eq_true,beq_iff_eq,List.isEmpty_iff] at h;obtain⟨⟨⟨rfl,rfl⟩,h1⟩,rfl⟩:=h;refine⟨rfl,?_⟩;cases pre with
  |none=>rfl
  |some p=>
   simp only[List.isEmpty_iff] at h1;subst h1;rfl
 ·cases h
noncomputable def aS(m:Int) (g:Nat):Bool:=match uQ (aM prog) aa (aT prog) EI 60 30 (.fn 171) [.str (cf (m*g)),.str (aQ g)] [] with
 |some r=>XA (cf m) r
 |none=>false
variable{m:Int}
theorem bA{c:Int}{n g:Nat}(h:(List.range n).all (fun k=>aS ((k:Int)+c) g)=true)(h0:c≤m)(h1:m<c+n):aS m g=true:=by
 have:=List.all_eq_true.1 h (m-c).toNat (List.mem_range.2 (by omega))
 rwa [show(((m-c).toNat:Nat)+c:Int)=m by omega] at this
theorem Qx:(List.range 8).all (fun k=>aS ((k:Int)+(-71)) 2)=true:=by kernel_rfl
theorem Qy:(List.range 8).all (fun k=>aS ((k:Int)+(-63)) 2)=true:=by kernel_rfl
theorem Qz:(List.range 8).all (fun k=>aS ((k:Int)+(-55)) 2)=true:=by kernel_rfl
theorem QA:(List.range 8).all (fun k=>aS ((k:Int)+(-47)) 2)=true:=by kernel_rfl
theorem QB:(List.range 8).all (fun k=>aS ((k:Int)+(-39)) 2)=true:=by kernel_rfl
theorem QC:(List.range 8).all (fun k=>aS ((k:Int)+(-31)) 2)=true:=by kernel_rfl
theorem Tx(h0: -71≤m)(h1:m≤ -24):aS m 2=true:=by
 by_cases c0:m< -63
 ·exact bA Qx (by omega) (by omega)
 by_cases c1:m< -55
 ·exact bA Qy (by omega) (by omega)
 by_cases c2:m< -47
 ·exact bA Qz (by omega) (by omega)
 by_cases c3:m< -39
 ·exact bA QA (by omega) (by omega)
 by_cases c4:m< -31
 ·exact bA QB (by omega) (by omega)
 exact bA QC (by omega) (by omega)
end Go.Proofs
