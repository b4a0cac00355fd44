/- See Q54. -/
import Derived.Test.YtgafjliihahjgaaGreatDoorQ17
set_option linter.all false
namespace Go.Proofs
open Go.Eng
def TI(q:List UInt8) (r:CallRes):Bool:=match r.v with
 |.tuple [.str s,.str z,.int .i64 0]=>s==q&&z==[48]&&(match r.pre with | some p=>p.isEmpty | none=>true)&&r.new.isEmpty
 |_=>false
theorem PA{q:List UInt8}{r:CallRes}(h:TI q r=true):r.v=.tuple [.str q,.str [48],.int .i64 0]∧r.mem []=[]:=by
 obtain⟨v,pre,new⟩:=r;unfold TI at h;simp only at h;split at h
 ·rename_i s z
  simp only[Bool.and_eq_true,beq_iff_eq,List.isEmpty_iff] at h;obtain⟨⟨⟨rfl,rfl⟩,h1⟩,rfl⟩:=h;refine⟨rfl,?_⟩;cases pre with
  |none=>rfl
  |some p=>
   simp only[List.isEmpty_iff] at h1;subst h1;rfl
 ·cases h
noncomputable def aK(m:Int) (g:Nat):Bool:=match pM (aM Tryz.prog) ad (aL Tryz.prog) CE 60 30 (.fn 171) [.str (bT (m*g)),.str (aJ g)] [] with
 |some r=>TI (bT m) r
 |none=>false
theorem bk{c:Int}{n g:Nat}(h:(List.range n).all (fun k=>aK ((k:Int)+c) g)=true) {m:Int}(h0:c≤m) (h1:m<c+n):aK m g=true:=by
 have:=List.all_eq_true.1 h (m-c).toNat (List.mem_range.2 (by omega))
 rwa [show(((m-c).toNat:Nat)+c:Int)=m by omega] at this
theorem NL:(List.range 8).all (fun k=>aK ((k:Int)+(-71)) 2)=true:=by kernel_rfl
theorem NM:(List.range 8).all (fun k=>aK ((k:Int)+(-63)) 2)=true:=by kernel_rfl
theorem NN:(List.range 8).all (fun k=>aK ((k:Int)+(-55)) 2)=true:=by kernel_rfl
theorem NO:(List.range 8).all (fun k=>aK ((k:Int)+(-47)) 2)=true:=by kernel_rfl
theorem NP:(List.range 8).all (fun k=>aK ((k:Int)+(-39)) 2)=true:=by kernel_rfl
theorem NQ:(List.range 8).all (fun k=>aK ((k:Int)+(-31)) 2)=true:=by kernel_rfl
theorem Qk{m:Int}(h0: -71≤m) (h1:m≤ -24):aK m 2=true:=by
 by_cases c0:m< -63
 ·exact bk NL (by omega) (by omega)
 by_cases c1:m< -55
 ·exact bk NM (by omega) (by omega)
 by_cases c2:m< -47
 ·exact bk NN (by omega) (by omega)
 by_cases c3:m< -39
 ·exact bk NO (by omega) (by omega)
 by_cases c4:m< -31
 ·exact bk NP (by omega) (by omega)
 exact bk NQ (by omega) (by omega)
end Go.Proofs
