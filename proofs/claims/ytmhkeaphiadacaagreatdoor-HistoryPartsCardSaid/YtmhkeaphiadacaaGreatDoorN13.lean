/- See N58. -/
import Derived.Test.YtmhkeaphiadacaaGreatDoorN05
import Derived.Test.YtmhkeaphiadacaaGreatDoorProg
import Derived.KernelRfl
import Derived.Lib.Strings
import Derived.Lib.Slices
import Derived.Lib.Walk
import Derived.Lib.Bytealg
set_option linter.all false
namespace Go.Proofs
open Go.Eng
theorem aa:Tryz.prog.follows .mixedOrders=true:=by kernel_rfl
set_option maxHeartbeats 1000000 in
set_option maxRecDepth 100000 in
theorem jB(a b:ByteArray) (w:World):
  Calls Tryz.prog 246 #[.string a,.string b] w fun e w' =>e=.returned (.int .i64 (Lib.compareBytes a.data.toList b.data.toList))∧w' =w:=by
 go_enter Tryz.func246,Tryz.ntmps246
 go_wp2
 rw[run_callFunc_extern Tryz.func268 (by kernel_rfl) (by kernel_rfl) (by kernel_rfl) (e:=Extern.BytealgCompare.compare) (by kernel_rfl),Lib.run_compareString]
 simp only[Result.andThen]
 rw[Oper.upon_value]
 go_wp2
 go_ret
 exact⟨rfl,rfl⟩
set_option maxHeartbeats 1000000 in
set_option maxRecDepth 100000 in
theorem fD(s:ByteArray) (c:Int) (w:World):
  Calls Tryz.prog 192 #[.string s,.int .u8 c] w fun e w' =>e=.returned (.int .i64 (Lib.indexByte s.data.toList c.toNat.toUInt8))∧w' =w:=by
 go_enter Tryz.func192,Tryz.ntmps192
 go_wp2
 rw[run_callFunc_extern Tryz.func226 (by kernel_rfl) (by kernel_rfl) (by kernel_rfl) (e:=Extern.BytealgIndexByte.indexByte) (by kernel_rfl),Lib.run_indexByteString]
 simp only[Result.andThen]
 rw[Oper.upon_value]
 go_wp2
 go_ret
 exact⟨rfl,rfl⟩
set_option maxHeartbeats 2000000 in
set_option maxRecDepth 100000 in
theorem jC(s:ByteArray) (c:UInt8) (w:World):
  Calls Tryz.prog 254 #[.string s,.string ⟨#[c]⟩] w fun e w' =>e=.returned (.int .i64 (Lib.indexByte s.data.toList c))∧w' =w:=by
 go_enter Tryz.func254,Tryz.ntmps254
 go_wp2_with (go_at_call 192;refine(fD _ _ _).mono ?_;rintro e w' ⟨rfl,rfl⟩)
 ·have h:([c]==s.toList)=true:=by assumption
  go_ret
  refine⟨?_,rfl⟩
  have e:s.data.toList=[c]:=by rw[←Lib.toList_data];exact(beq_iff_eq.1 h).symm
  rw[e]
  simp[Lib.indexByte]
 ·go_ret
  exact⟨rfl,rfl⟩
theorem fv(f:FuncId) {fn:Func}(h:Tryz.prog.funcs[f]? =some fn) (hb:fn.body.isSome=true) (hn:(fn.name == "runtime.NumGoroutine")=false):Oa Tryz.prog f:=⟨fn,h,hb,hn⟩
theorem jf(a b:List UInt8) (mem:Mem):ACallsTo Tryz.prog 246 [.str a,.str b] mem (.int .i64 (Lib.compareBytes a b)) mem:=
 ACallsTo.of_calls (fv _ Tryz.func246 (by kernel_rfl) (by kernel_rfl)) (Vs:=[.string ⟨a.toArray⟩,.string ⟨b.toArray⟩]) (fun μ n Us h=>by simpa [VRels,VRel] using h) (V:=.int .i64 (Lib.compareBytes a b)) (fun μ n=>by simp[VRel])
  (fun base w _=>(jB ⟨a.toArray⟩ ⟨b.toArray⟩ w).mono fun e w' ⟨h1,h2⟩=>⟨h1,h2▸Gentle.refl w⟩) mem
theorem nY(s:List UInt8) (c:Nat) (mem:Mem):ACallsTo Tryz.prog 192 [.str s,.int .u8 c] mem (.int .i64 (Lib.indexByte s c.toUInt8)) mem:=
 ACallsTo.of_calls (fv _ Tryz.func192 (by kernel_rfl) (by kernel_rfl)) (Vs:=[.string ⟨s.toArray⟩,.int .u8 c]) (fun μ n Us h=>by simpa [VRels,VRel] using h) (V:=.int .i64 (Lib.indexByte s c.toUInt8)) (fun μ n=>by simp[VRel])
  (fun base w _=>(fD ⟨s.toArray⟩ c w).mono fun e w' ⟨h1,h2⟩=>⟨by simpa using h1,h2▸Gentle.refl w⟩) mem
theorem zB(s:List UInt8) (c:UInt8) (mem:Mem):ACallsTo Tryz.prog 254 [.str s,.str [c]] mem (.int .i64 (Lib.indexByte s c)) mem:=
 ACallsTo.of_calls (fv _ Tryz.func254 (by kernel_rfl) (by kernel_rfl)) (Vs:=[.string ⟨s.toArray⟩,.string ⟨#[c]⟩]) (fun μ n Us h=>by simpa [VRels,VRel] using h) (V:=.int .i64 (Lib.indexByte s c)) (fun μ n=>by simp[VRel])
  (fun base w _=>(jC ⟨s.toArray⟩ c w).mono fun e w' ⟨h1,h2⟩=>⟨h1,h2▸Gentle.refl w⟩) mem
end Go.Proofs
