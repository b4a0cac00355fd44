/- See L55. -/
import Derived.Test.YtiopbpbcgccngaaGreatDoorL05
import Derived.Test.YtiopbpbcgccngaaGreatDoorL13
import Derived.Test.YtiopbpbcgccngaaGreatDoorL06
import Derived.Test.YtiopbpbcgccngaaGreatDoorProg
import Derived.KernelRfl
import Derived.Lib.IndexLaws
set_option linter.all false
namespace Go.Proofs
open Go.Eng
theorem Tryz.y2 : tyOf Tryz.prog 2 = some ⟨.int .i64,1,8,.int .i64 0,true⟩ := by kernel_rfl
theorem Tryz.y3 : tyOf Tryz.prog 3 = some ⟨.int .i64,1,8,.int .i64 0,true⟩ := by kernel_rfl
theorem Tryz.y4 : tyOf Tryz.prog 4 = some ⟨.bool,1,1,.bool false,true⟩ := by kernel_rfl
theorem Tryz.y5 : tyOf Tryz.prog 5 = some ⟨.int .u8,1,1,.int .u8 0,true⟩ := by kernel_rfl
theorem Tryz.y6 : tyOf Tryz.prog 6 = some ⟨.int .u8,1,1,.int .u8 0,true⟩ := by kernel_rfl
theorem Tryz.y9 : tyOf Tryz.prog 9 = some ⟨.string,1,16,.string ⟨#[]⟩,true⟩ := by kernel_rfl
theorem Tryz.y22 : tyOf Tryz.prog 22 = some ⟨.slice 77,1,24,.slice none 0 0,true⟩ := by kernel_rfl
theorem Tryz.y24 : tyOf Tryz.prog 24 = some ⟨.slice 33,1,24,.slice none 0 0,true⟩ := by kernel_rfl
theorem Tryz.y26 : tyOf Tryz.prog 26 = some ⟨.slice 9,1,24,.slice none 0 0,true⟩ := by kernel_rfl
theorem Tryz.y27 : tyOf Tryz.prog 27 = some ⟨.slice 31,1,24,.slice none 0 0,true⟩ := by kernel_rfl
theorem Tryz.y28 : tyOf Tryz.prog 28 = some ⟨.int .i64,1,8,.int .i64 0,true⟩ := by kernel_rfl
theorem Tryz.y31 : tyOf Tryz.prog 31 = some ⟨.string,1,16,.string ⟨#[]⟩,true⟩ := by kernel_rfl
theorem Tryz.y35 : tyOf Tryz.prog 35 = some ⟨.slice 44,1,24,.slice none 0 0,true⟩ := by kernel_rfl
theorem Tryz.y85 : tyOf Tryz.prog 85 = some ⟨.slice 24,1,24,.slice none 0 0,true⟩ := by kernel_rfl
theorem Tryz.y89 : tyOf Tryz.prog 89 = some ⟨.string,1,16,.string ⟨#[]⟩,true⟩ := by kernel_rfl
theorem Tryz.y150 : tyOf Tryz.prog 150 = some ⟨.slice 187,1,24,.slice none 0 0,true⟩ := by kernel_rfl
theorem Tryz.y161 : tyOf Tryz.prog 161 = some ⟨.slice 5,1,24,.slice none 0 0,true⟩ := by kernel_rfl
theorem Tryz.y174 : tyOf Tryz.prog 174 = some ⟨.slice 3,1,24,.slice none 0 0,true⟩ := by kernel_rfl
theorem Tryz.y187 : tyOf Tryz.prog 187 = some ⟨.int .u64,1,8,.int .u64 0,true⟩ := by kernel_rfl
theorem Tryz.y195 : tyOf Tryz.prog 195 = some ⟨.pointer 197,1,8,.pointer none,true⟩ := by kernel_rfl
theorem Tryz.y247 : tyOf Tryz.prog 247 = some ⟨.pointer 5,1,8,.pointer none,true⟩ := by kernel_rfl
theorem Tryz.y257 : tyOf Tryz.prog 257 = some ⟨.map 307 3,1,8,.map none,true⟩ := by kernel_rfl
theorem Tryz.y308 : tyOf Tryz.prog 308 = some ⟨.map 3 3,1,8,.map none,true⟩ := by kernel_rfl
theorem Tryz.y315 : tyOf Tryz.prog 315 = some ⟨.slice 307,1,24,.slice none 0 0,true⟩ := by kernel_rfl
attribute [simp] Tryz.y3 Tryz.y4 Tryz.y5 Tryz.y9 Tryz.y22 Tryz.y24 Tryz.y26 Tryz.y27 Tryz.y28 Tryz.y31 Tryz.y35
attribute [simp] Tryz.y85 Tryz.y89 Tryz.y150 Tryz.y161 Tryz.y174 Tryz.y187 Tryz.y195
attribute [simp] Tryz.y247 Tryz.y257 Tryz.y308 Tryz.y315
noncomputable def Tryz.baseF (f : FuncId) (args : List AV) : Option AV :=
 match f,args with
 | 133,[.str a,.str b] => some (.int .i64 (Lib.compareBytes a b))
 | 127,[.str s,.int .u8 c] => if 0 ≤ c then some (.int .i64 (Lib.indexByte s c.toNat.toUInt8)) else none
 | 159,[.str s,.str [c]] => some (.int .i64 (Lib.indexByte s c))
 | _,_ => none
theorem Tryz.base_ok : OracleOk Tryz.prog (pureO Tryz.baseF) := pureO_ok fun f args v h mem => by
 unfold Tryz.baseF at h
 split at h
 ·cases h; exact Tryz.aCompareString _ _ mem
 ·split at h
  ·rename_i c hc
   cases h
   have e : c = ((c.toNat : Nat) : Int) := by omega
   have := Tryz.aIndexByte ‹List UInt8› c.toNat mem
   rw [← e] at this
   exact this
  ·cases h
 ·cases h; exact Tryz.aIndexOne _ _ mem
 ·cases h
theorem Tryz.run {lv : Code → List Nat} {O : Oracle} (hO : OracleOk Tryz.prog O) {K : Nat} {f : FuncId} {args : List AV} {v : AV} (ha : AV.closeds args = true) (hv : v.closed = true)
  (h : callFn (tyOf Tryz.prog) lv (fnOf Tryz.prog) O K f args [] = some ⟨v,none,[]⟩) (mem : Mem) : ACallsTo Tryz.prog f args mem v mem :=
 ACallsTo.of_run Tryz.mixed (tyOf_ok _) hO (fnOf_ok _) ha hv h mem
theorem Tryz.g163 : fnOf Tryz.prog 163 = some Tryz.f163 := by kernel_rfl
theorem Tryz.aHasPrefix0 (s p : List UInt8) (mem : Mem) : ACallsTo Tryz.prog 163 [.str s,.str p] mem (.bool (Lib.hasPrefix s p)) mem := by
 refine Tryz.run (noOracle_ok _) (lv := fun _ => []) (K := 1) rfl rfl ?_ mem
 rw [← Lib.hasPrefix_of_take]
 by_cases h : p.length ≤ s.length
 ·simp [callFn,Tryz.g163,Tryz.f163,h]
 ·simp [callFn,Tryz.g163,Tryz.f163,h]
theorem Tryz.g112 : fnOf Tryz.prog 112 = some Tryz.f112 := by kernel_rfl
theorem Tryz.indexByte_lt {s : List UInt8} {c : UInt8} {i : Nat} (h : Lib.indexByte s c = i) : i < s.length := by
 have := (Lib.indexByte_some h).1
 exact (List.getElem?_eq_some_iff.1 this).1
theorem Tryz.aCut0 (s : List UInt8) (c : UInt8) (mem : Mem) (hl : s.length ≤ 1000000000) : ACallsTo Tryz.prog 112 [.str s,.str [c]] mem (if 0 ≤ Lib.indexByte s c then .tuple [.str (s.take (Lib.indexByte s c).toNat),.str (s.drop ((Lib.indexByte s c).toNat + 1)),.bool true] else .tuple [.str s,.str [],.bool false]) mem := by
 refine Tryz.run Tryz.base_ok (lv := fun _ => []) (K := 1) rfl (by split <;> rfl) ?_ mem
 by_cases h : 0 ≤ Lib.indexByte s c
 ·obtain ⟨i,hi⟩ : ∃ i : Nat,Lib.indexByte s c = i := ⟨_,(Int.toNat_of_nonneg h).symm⟩
  have hlt := Tryz.indexByte_lt hi
  have h1 : (i : Int) ≤ s.length := by omega
  have h2 : IntKind.i64.wrap ((i : Int) + 1) = (i : Int) + 1 := wrap_i64 (by omega) (by omega)
  have h3 : (i : Int) + 1 ≤ s.length := by omega
  have h4 : ((i : Int) + 1).toNat = i + 1 := by omega
  have h5 : (0 : Int) ≤ (i : Int) + 1 := by omega
  simp [callFn,Tryz.g112,Tryz.f112,hi,pureO,Tryz.baseF,h1,h2,h3,h4,h5]
  rw [List.take_of_length_le (by simp)]
 ·simp [callFn,Tryz.g112,Tryz.f112,h,pureO,Tryz.baseF]
noncomputable def Tryz.baseF2 (f : FuncId) (args : List AV) : Option AV :=
 match f,args with
 | 133,[.str a,.str b] => some (.int .i64 (Lib.compareBytes a b))
 | 127,[.str s,.int .u8 c] => if 0 ≤ c then some (.int .i64 (Lib.indexByte s c.toNat.toUInt8)) else none
 | 163,[.str s,.str p] => some (.bool (Lib.hasPrefix s p))
 | 112,[.str s,.str [c]] => if s.length ≤ 1000000000 then some (if 0 ≤ Lib.indexByte s c then .tuple [.str (s.take (Lib.indexByte s c).toNat),.str (s.drop ((Lib.indexByte s c).toNat + 1)),.bool true] else .tuple [.str s,.str [],.bool false]) else none
 | _,_ => none
theorem Tryz.base2_ok : OracleOk Tryz.prog (pureO Tryz.baseF2) := pureO_ok fun f args v h mem => by
 unfold Tryz.baseF2 at h
 split at h
 ·cases h; exact Tryz.aCompareString _ _ mem
 ·split at h
  ·rename_i c hc
   cases h
   have e : c = ((c.toNat : Nat) : Int) := by omega
   have := Tryz.aIndexByte ‹List UInt8› c.toNat mem
   rw [← e] at this
   exact this
  ·cases h
 ·cases h; exact Tryz.aHasPrefix0 _ _ mem
 ·split at h
  ·rename_i hl; cases h; exact Tryz.aCut0 _ _ mem hl
  ·cases h
 ·cases h
theorem Tryz.aHasPrefix (s p : List UInt8) (mem : Mem) : ACallsTo Tryz.prog 116 [.str s,.str p] mem (.bool (Lib.hasPrefix s p)) mem := by
 have hG : fnOf Tryz.prog 116 = some Tryz.f116 := by kernel_rfl
 refine Tryz.run Tryz.base2_ok (lv := fun _ => []) (K := 1) rfl rfl ?_ mem
 simp [callFn,hG,Tryz.f116,pureO,Tryz.baseF2]
theorem Tryz.aCompare (s p : List UInt8) (mem : Mem) : ACallsTo Tryz.prog 98 [.str s,.str p] mem (.int .i64 (Lib.compareBytes s p)) mem := by
 have hG : fnOf Tryz.prog 98 = some Tryz.f98 := by kernel_rfl
 refine Tryz.run Tryz.base2_ok (lv := fun _ => []) (K := 1) rfl rfl ?_ mem
 simp [callFn,hG,Tryz.f98,pureO,Tryz.baseF2]
theorem Tryz.aIndexByteS (s : List UInt8) (c : Int) (hc : 0 ≤ c) (mem : Mem) : ACallsTo Tryz.prog 94 [.str s,.int .u8 c] mem (.int .i64 (Lib.indexByte s c.toNat.toUInt8)) mem := by
 have hG : fnOf Tryz.prog 94 = some Tryz.f94 := by kernel_rfl
 refine Tryz.run Tryz.base2_ok (lv := fun _ => []) (K := 1) rfl rfl ?_ mem
 simp [callFn,hG,Tryz.f94,pureO,Tryz.baseF2,hc]
theorem Tryz.aCut (s : List UInt8) (c : UInt8) (mem : Mem) (hl : s.length ≤ 1000000000) : ACallsTo Tryz.prog 77 [.str s,.str [c]] mem (if 0 ≤ Lib.indexByte s c then .tuple [.str (s.take (Lib.indexByte s c).toNat),.str (s.drop ((Lib.indexByte s c).toNat + 1)),.bool true] else .tuple [.str s,.str [],.bool false]) mem := by
 have hG : fnOf Tryz.prog 77 = some Tryz.f77 := by kernel_rfl
 refine Tryz.run Tryz.base2_ok (lv := fun _ => []) (K := 1) rfl (by split <;> rfl) ?_ mem
 by_cases h : 0 ≤ Lib.indexByte s c
 ·simp [callFn,hG,Tryz.f77,pureO,Tryz.baseF2,hl,h]
 ·simp [callFn,hG,Tryz.f77,pureO,Tryz.baseF2,hl,h]
theorem Tryz.aCutPrefix0 (s p : List UInt8) (mem : Mem) : ACallsTo Tryz.prog 160 [.str s,.str p] mem (.tuple [.str (Lib.trimPrefix s p),.bool (Lib.hasPrefix s p)]) mem := by
 have hG : fnOf Tryz.prog 160 = some Tryz.f160 := by kernel_rfl
 refine Tryz.run Tryz.base2_ok (lv := fun _ => []) (K := 1) rfl rfl ?_ mem
 cases h : Lib.hasPrefix s p with
 | false => simp [callFn,hG,Tryz.f160,pureO,Tryz.baseF2,h,Lib.trimPrefix]
 | true =>
  have hle : p.length ≤ s.length := (List.isPrefixOf_iff_prefix.1 h).length_le
  simp [callFn,hG,Tryz.f160,pureO,Tryz.baseF2,h,Lib.trimPrefix,hle]
  rw [List.take_of_length_le (by simp)]
theorem Tryz.aTrimPrefix0 (s p : List UInt8) (mem : Mem) : ACallsTo Tryz.prog 132 [.str s,.str p] mem (.str (Lib.trimPrefix s p)) mem := by
 have hG : fnOf Tryz.prog 132 = some Tryz.f132 := by kernel_rfl
 refine Tryz.run Tryz.base2_ok (lv := fun _ => []) (K := 1) rfl rfl ?_ mem
 cases h : Lib.hasPrefix s p with
 | false => simp [callFn,hG,Tryz.f132,pureO,Tryz.baseF2,h,Lib.trimPrefix]
 | true =>
  have hle : p.length ≤ s.length := (List.isPrefixOf_iff_prefix.1 h).length_le
  simp [callFn,hG,Tryz.f132,pureO,Tryz.baseF2,h,Lib.trimPrefix,hle]
  rw [List.take_of_length_le (by simp)]
end Go.Proofs
