/- See P53. -/
import Derived.Test.YtmhkeaphiadacaaGreatDoorP41a
set_option linter.all false
set_option maxRecDepth 100000
set_option maxHeartbeats 40000000
namespace Go.Proofs
open Go.Eng
open Tryz
def Bw:Nat→List Nat
 |0=>[0,2,3]
 |1=>[1,2,3]
 |2=>[0,4,1,2,3]
 |5=>[0,3,1]
 |6=>[1,2,3,4]
 |7=>[0,3,1,2]
 |_=>[]
def Wg(k:Nat) (PS:List P2):Bool:=if k=2∨k=7 then decide (nq (gr (q9 PS (Bw k) 0) (q9 PS (Bw k) 1) (q9 PS (Bw k) 2))<0) else true
def J4(k:Nat):Bool:=(List.range 15).all fun a=>(List.range 15).all fun b=>[false,true].all fun h=>M9 (R9 k ((a:Int)-7) ((b:Int)-7) h) ((aI k).drop 1)&&Wg k (R9 k ((a:Int)-7) ((b:Int)-7) h)
theorem Wk:J4 0=true:=by kernel_rfl
theorem Wl:J4 1=true:=by kernel_rfl
theorem Wo:J4 5=true:=by kernel_rfl
theorem Wp:J4 6=true:=by kernel_rfl
theorem Wq:J4 7=true:=by kernel_rfl
theorem Wm:J4 2=true:=by kernel_rfl
theorem Wn:J4 4=true:=by kernel_rfl
theorem T9(k:Nat)(hk:k<8)(h3:k≠3):J4 k=true:=by
 have ZW:k=0∨k=1∨k=2∨k=4∨k=5∨k=6∨k=7:=by omega
 rcases ZW with rfl | rfl | rfl | rfl | rfl | rfl | rfl
 ·exact Wk
 ·exact Wl
 ·exact Wm
 ·exact Wn
 ·exact Wo
 ·exact Wp
 ·exact Wq
theorem Qm(s:aaf)(h3:s.kind%8≠3):M9 s.P (s.T.drop 1)=true∧Wg (s.kind%8) s.P=true:=by
 have hk:s.kind%8<8:=Nat.mod_lt _ (by omega);have h:=T9 (s.kind%8) hk h3;obtain⟨u0,u1⟩:=Ql s.sx;obtain⟨v0,v1⟩:=Ql s.sy;have h1:=List.all_eq_true.1 h (s.sx.tmod 8+7).toNat (List.mem_range.2 (by omega));have h2:=List.all_eq_true.1 h1 (s.sy.tmod 8+7).toNat (List.mem_range.2 (by omega));have h3:=List.all_eq_true.1 h2 s.half (by cases s.half<;>simp);have e1:(((s.sx.tmod 8+7).toNat:Nat):Int)-7=s.sx.tmod 8:=by omega
 have e2:(((s.sy.tmod 8+7).toNat:Nat):Int)-7=s.sy.tmod 8:=by omega
 rw[e1,e2,Bool.and_eq_true] at h3;exact h3
end Go.Proofs
