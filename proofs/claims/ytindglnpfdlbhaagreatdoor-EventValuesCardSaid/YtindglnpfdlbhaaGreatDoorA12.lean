/- Part A12 of a proof: see its last part, YtindglnpfdlbhaaGreatDoorA51.lean. -/
import Derived.Test.YtindglnpfdlbhaaGreatDoorA05
import Derived.Test.YtindglnpfdlbhaaGreatDoorA11
import Derived.Test.YtindglnpfdlbhaaGreatDoorA06
import Derived.Test.YtindglnpfdlbhaaGreatDoorProg
import Derived.KernelRfl
import Derived.Lib.IndexLaws
set_option linter.all false
namespace Go.Proofs
open Go.Eng
theorem Tryz.y2 : tyOf Tryz.prog 2 = some ⟨.int .i64, 1, 8, .int .i64 0, true⟩ := by kernel_rfl
theorem Tryz.y3 : tyOf Tryz.prog 3 = some ⟨.int .i64, 1, 8, .int .i64 0, true⟩ := by kernel_rfl
theorem Tryz.y4 : tyOf Tryz.prog 4 = some ⟨.bool, 1, 1, .bool false, true⟩ := by kernel_rfl
theorem Tryz.y5 : tyOf Tryz.prog 5 = some ⟨.int .u8, 1, 1, .int .u8 0, true⟩ := by kernel_rfl
theorem Tryz.y6 : tyOf Tryz.prog 6 = some ⟨.int .u8, 1, 1, .int .u8 0, true⟩ := by kernel_rfl
theorem Tryz.y9 : tyOf Tryz.prog 9 = some ⟨.string, 1, 16, .string ⟨#[]⟩, true⟩ := by kernel_rfl
theorem Tryz.y10 : tyOf Tryz.prog 10 = some ⟨.string, 1, 16, .string ⟨#[]⟩, true⟩ := by kernel_rfl
theorem Tryz.y11 : tyOf Tryz.prog 11 = some ⟨.string, 1, 16, .string ⟨#[]⟩, true⟩ := by kernel_rfl
theorem Tryz.y12 : tyOf Tryz.prog 12 = some ⟨.int .u64, 1, 8, .int .u64 0, true⟩ := by kernel_rfl
theorem Tryz.y15 : tyOf Tryz.prog 15 = some ⟨.pointer 365, 1, 8, .pointer none, true⟩ := by kernel_rfl
theorem Tryz.y16 : tyOf Tryz.prog 16 = some ⟨.pointer 368, 1, 8, .pointer none, true⟩ := by kernel_rfl
theorem Tryz.y17 : tyOf Tryz.prog 17 = some ⟨.pointer 376, 1, 8, .pointer none, true⟩ := by kernel_rfl
theorem Tryz.y21 : tyOf Tryz.prog 21 = some ⟨.int .i32, 1, 4, .int .i32 0, true⟩ := by kernel_rfl
theorem Tryz.y22 : tyOf Tryz.prog 22 = some ⟨.slice 26, 1, 24, .slice none 0 0, true⟩ := by kernel_rfl
theorem Tryz.y23 : tyOf Tryz.prog 23 = some ⟨.string, 1, 16, .string ⟨#[]⟩, true⟩ := by kernel_rfl
theorem Tryz.y27 : tyOf Tryz.prog 27 = some ⟨.int .i64, 1, 8, .int .i64 0, true⟩ := by kernel_rfl
theorem Tryz.y34 : tyOf Tryz.prog 34 = some ⟨.int .i8, 1, 1, .int .i8 0, true⟩ := by kernel_rfl
theorem Tryz.y47 : tyOf Tryz.prog 47 = some ⟨.int .i16, 1, 2, .int .i16 0, true⟩ := by kernel_rfl
theorem Tryz.y52 : tyOf Tryz.prog 52 = some ⟨.slice 91, 1, 24, .slice none 0 0, true⟩ := by kernel_rfl
theorem Tryz.y53 : tyOf Tryz.prog 53 = some ⟨.slice 209, 1, 24, .slice none 0 0, true⟩ := by kernel_rfl
theorem Tryz.y57 : tyOf Tryz.prog 57 = some ⟨.slice 23, 1, 24, .slice none 0 0, true⟩ := by kernel_rfl
theorem Tryz.y58 : tyOf Tryz.prog 58 = some ⟨.slice 23, 1, 24, .slice none 0 0, true⟩ := by kernel_rfl
theorem Tryz.y59 : tyOf Tryz.prog 59 = some ⟨.slice 9, 1, 24, .slice none 0 0, true⟩ := by kernel_rfl
theorem Tryz.y60 : tyOf Tryz.prog 60 = some ⟨.slice 58, 1, 24, .slice none 0 0, true⟩ := by kernel_rfl
theorem Tryz.y84 : tyOf Tryz.prog 84 = some ⟨.slice 66, 1, 24, .slice none 0 0, true⟩ := by kernel_rfl
theorem Tryz.y87 : tyOf Tryz.prog 87 = some ⟨.slice 3, 1, 24, .slice none 0 0, true⟩ := by kernel_rfl
theorem Tryz.y122 : tyOf Tryz.prog 122 = some ⟨.string, 1, 16, .string ⟨#[]⟩, true⟩ := by kernel_rfl
theorem Tryz.y130 : tyOf Tryz.prog 130 = some ⟨.slice 134, 1, 24, .slice none 0 0, true⟩ := by kernel_rfl
theorem Tryz.y180 : tyOf Tryz.prog 180 = some ⟨.pointer 62, 1, 8, .pointer none, true⟩ := by kernel_rfl
theorem Tryz.y190 : tyOf Tryz.prog 190 = some ⟨.pointer 77, 1, 8, .pointer none, true⟩ := by kernel_rfl
theorem Tryz.y217 : tyOf Tryz.prog 217 = some ⟨.map 91 4, 1, 8, .map none, true⟩ := by kernel_rfl
theorem Tryz.y224 : tyOf Tryz.prog 224 = some ⟨.slice 64, 1, 24, .slice none 0 0, true⟩ := by kernel_rfl
theorem Tryz.y246 : tyOf Tryz.prog 246 = some ⟨.slice 288, 1, 24, .slice none 0 0, true⟩ := by kernel_rfl
theorem Tryz.y265 : tyOf Tryz.prog 265 = some ⟨.map 134 3, 1, 8, .map none, true⟩ := by kernel_rfl
theorem Tryz.y268 : tyOf Tryz.prog 268 = some ⟨.map 3 4, 1, 8, .map none, true⟩ := by kernel_rfl
theorem Tryz.y288 : tyOf Tryz.prog 288 = some ⟨.int .u64, 1, 8, .int .u64 0, true⟩ := by kernel_rfl
theorem Tryz.y297 : tyOf Tryz.prog 297 = some ⟨.pointer 300, 1, 8, .pointer none, true⟩ := by kernel_rfl
theorem Tryz.y298 : tyOf Tryz.prog 298 = some ⟨.slice 5, 1, 24, .slice none 0 0, true⟩ := by kernel_rfl
theorem Tryz.y314 : tyOf Tryz.prog 314 = some ⟨.map 3 3, 1, 8, .map none, true⟩ := by kernel_rfl
theorem Tryz.y319 : tyOf Tryz.prog 319 = some ⟨.int .u64, 1, 8, .int .u64 0, true⟩ := by kernel_rfl
theorem Tryz.y322 : tyOf Tryz.prog 322 = some ⟨.pointer 5, 1, 8, .pointer none, true⟩ := by kernel_rfl
theorem Tryz.y328 : tyOf Tryz.prog 328 = some ⟨.int .u32, 1, 4, .int .u32 0, true⟩ := by kernel_rfl
theorem Tryz.y331 : tyOf Tryz.prog 331 = some ⟨.int .i64, 1, 8, .int .i64 0, true⟩ := by kernel_rfl
theorem Tryz.y334 : tyOf Tryz.prog 334 = some ⟨.pointer 348, 1, 8, .pointer none, true⟩ := by kernel_rfl
theorem Tryz.y358 : tyOf Tryz.prog 358 = some ⟨.pointer 360, 1, 8, .pointer none, true⟩ := by kernel_rfl
theorem Tryz.y370 : tyOf Tryz.prog 370 = some ⟨.int .u8, 1, 1, .int .u8 0, true⟩ := by kernel_rfl
theorem Tryz.y371 : tyOf Tryz.prog 371 = some ⟨.int .u8, 1, 1, .int .u8 0, true⟩ := by kernel_rfl
theorem Tryz.y373 : tyOf Tryz.prog 373 = some ⟨.int .i32, 1, 4, .int .i32 0, true⟩ := by kernel_rfl
theorem Tryz.y374 : tyOf Tryz.prog 374 = some ⟨.int .i32, 1, 4, .int .i32 0, true⟩ := by kernel_rfl
attribute [simp] Tryz.y2 Tryz.y3 Tryz.y4 Tryz.y5 Tryz.y6 Tryz.y9 Tryz.y10 Tryz.y11 Tryz.y12 Tryz.y15 Tryz.y16 Tryz.y17 Tryz.y21 Tryz.y22 Tryz.y23 Tryz.y27 Tryz.y34 Tryz.y47 Tryz.y52 Tryz.y53
attribute [simp] Tryz.y57 Tryz.y58 Tryz.y59 Tryz.y60 Tryz.y84 Tryz.y87 Tryz.y122 Tryz.y130 Tryz.y180 Tryz.y190 Tryz.y217 Tryz.y224 Tryz.y246 Tryz.y265 Tryz.y268 Tryz.y288 Tryz.y297 Tryz.y298 Tryz.y314 Tryz.y319
attribute [simp] Tryz.y322 Tryz.y328 Tryz.y331 Tryz.y334 Tryz.y358 Tryz.y370 Tryz.y371 Tryz.y373 Tryz.y374
end Go.Proofs
namespace Go.Proofs
open Go.Eng
noncomputable def Tryz.baseF (f : FuncId) (args : List AV) : Option AV :=
  match f, args with
  | 257, [.str a, .str b] => some (.int .i64 (Lib.compareBytes a b))
  | 126, [.str s, .int .u8 c] => if 0 ≤ c then some (.int .i64 (Lib.indexByte s c.toNat.toUInt8)) else none
  | 253, [.str s, .str [c]] => some (.int .i64 (Lib.indexByte s c))
  | _, _ => none
theorem Tryz.base_ok : OracleOk Tryz.prog (pureO Tryz.baseF) := pureO_ok fun f args v h mem => by
  unfold Tryz.baseF at h
  split at h
  · cases h; exact Tryz.aCompareString _ _ mem
  · split at h
    · rename_i c hc
      cases h
      have e : c = ((c.toNat : Nat) : Int) := by omega
      have := Tryz.aIndexByte ‹List UInt8› c.toNat mem
      rw [← e] at this
      exact this
    · cases h
  · cases h; exact Tryz.aIndexOne _ _ mem
  · cases h
theorem Tryz.run {lv : Code → List Nat} {O : Oracle} (hO : OracleOk Tryz.prog O) {K : Nat} {f : FuncId} {args : List AV} {v : AV} (ha : AV.closeds args = true) (hv : v.closed = true)
    (h : callFn (tyOf Tryz.prog) lv (fnOf Tryz.prog) O K f args [] = some ⟨v, none, []⟩) (mem : Mem) : ACallsTo Tryz.prog f args mem v mem :=
  ACallsTo.of_run Tryz.mixed (tyOf_ok _) hO (fnOf_ok _) ha hv h mem
theorem Tryz.g289 : fnOf Tryz.prog 289 = some Tryz.f289 := by kernel_rfl
theorem Tryz.aHasPrefix0 (s p : List UInt8) (mem : Mem) : ACallsTo Tryz.prog 289 [.str s, .str p] mem (.bool (Lib.hasPrefix s p)) mem := by
  refine Tryz.run (noOracle_ok _) (lv := fun _ => []) (K := 1) rfl rfl ?_ mem
  rw [← Lib.hasPrefix_of_take]
  by_cases h : p.length ≤ s.length
  · simp [callFn, Tryz.g289, Tryz.f289, h]
  · simp [callFn, Tryz.g289, Tryz.f289, h]
theorem Tryz.g180 : fnOf Tryz.prog 180 = some Tryz.f180 := by kernel_rfl
theorem Tryz.indexByte_lt {s : List UInt8} {c : UInt8} {i : Nat} (h : Lib.indexByte s c = i) : i < s.length := by
  have := (Lib.indexByte_some h).1
  exact (List.getElem?_eq_some_iff.1 this).1
theorem Tryz.aCut0 (s : List UInt8) (c : UInt8) (mem : Mem) (hl : s.length ≤ 1000000000) : ACallsTo Tryz.prog 180 [.str s, .str [c]] mem (if 0 ≤ Lib.indexByte s c then .tuple [.str (s.take (Lib.indexByte s c).toNat), .str (s.drop ((Lib.indexByte s c).toNat + 1)), .bool true] else .tuple [.str s, .str [], .bool false]) mem := by
  refine Tryz.run Tryz.base_ok (lv := fun _ => []) (K := 1) rfl (by split <;> rfl) ?_ mem
  by_cases h : 0 ≤ Lib.indexByte s c
  · obtain ⟨i, hi⟩ : ∃ i : Nat, Lib.indexByte s c = i := ⟨_, (Int.toNat_of_nonneg h).symm⟩
    have hlt := Tryz.indexByte_lt hi
    have h1 : (i : Int) ≤ s.length := by omega
    have h2 : IntKind.i64.wrap ((i : Int) + 1) = (i : Int) + 1 := wrap_i64 (by omega) (by omega)
    have h3 : (i : Int) + 1 ≤ s.length := by omega
    have h4 : ((i : Int) + 1).toNat = i + 1 := by omega
    have h5 : (0 : Int) ≤ (i : Int) + 1 := by omega
    simp [callFn, Tryz.g180, Tryz.f180, hi, pureO, Tryz.baseF, h1, h2, h3, h4, h5]
    rw [List.take_of_length_le (by simp)]
  · simp [callFn, Tryz.g180, Tryz.f180, h, pureO, Tryz.baseF]
noncomputable def Tryz.baseF2 (f : FuncId) (args : List AV) : Option AV :=
  match f, args with
  | 257, [.str a, .str b] => some (.int .i64 (Lib.compareBytes a b))
  | 126, [.str s, .int .u8 c] => if 0 ≤ c then some (.int .i64 (Lib.indexByte s c.toNat.toUInt8)) else none
  | 289, [.str s, .str p] => some (.bool (Lib.hasPrefix s p))
  | 180, [.str s, .str [c]] => if s.length ≤ 1000000000 then some (if 0 ≤ Lib.indexByte s c then .tuple [.str (s.take (Lib.indexByte s c).toNat), .str (s.drop ((Lib.indexByte s c).toNat + 1)), .bool true] else .tuple [.str s, .str [], .bool false]) else none
  | _, _ => none
theorem Tryz.base2_ok : OracleOk Tryz.prog (pureO Tryz.baseF2) := pureO_ok fun f args v h mem => by
  unfold Tryz.baseF2 at h
  split at h
  · cases h; exact Tryz.aCompareString _ _ mem
  · split at h
    · rename_i c hc
      cases h
      have e : c = ((c.toNat : Nat) : Int) := by omega
      have := Tryz.aIndexByte ‹List UInt8› c.toNat mem
      rw [← e] at this
      exact this
    · cases h
  · cases h; exact Tryz.aHasPrefix0 _ _ mem
  · split at h
    · rename_i hl; cases h; exact Tryz.aCut0 _ _ mem hl
    · cases h
  · cases h
theorem Tryz.aHasPrefix (s p : List UInt8) (mem : Mem) : ACallsTo Tryz.prog 255 [.str s, .str p] mem (.bool (Lib.hasPrefix s p)) mem := by
  have hG : fnOf Tryz.prog 255 = some Tryz.f255 := by kernel_rfl
  refine Tryz.run Tryz.base2_ok (lv := fun _ => []) (K := 1) rfl rfl ?_ mem
  simp [callFn, hG, Tryz.f255, pureO, Tryz.baseF2]
theorem Tryz.aCompare (s p : List UInt8) (mem : Mem) : ACallsTo Tryz.prog 184 [.str s, .str p] mem (.int .i64 (Lib.compareBytes s p)) mem := by
  have hG : fnOf Tryz.prog 184 = some Tryz.f184 := by kernel_rfl
  refine Tryz.run Tryz.base2_ok (lv := fun _ => []) (K := 1) rfl rfl ?_ mem
  simp [callFn, hG, Tryz.f184, pureO, Tryz.baseF2]
theorem Tryz.aIndexByteS (s : List UInt8) (c : Int) (hc : 0 ≤ c) (mem : Mem) : ACallsTo Tryz.prog 50 [.str s, .int .u8 c] mem (.int .i64 (Lib.indexByte s c.toNat.toUInt8)) mem := by
  have hG : fnOf Tryz.prog 50 = some Tryz.f50 := by kernel_rfl
  refine Tryz.run Tryz.base2_ok (lv := fun _ => []) (K := 1) rfl rfl ?_ mem
  simp [callFn, hG, Tryz.f50, pureO, Tryz.baseF2, hc]
theorem Tryz.aCut (s : List UInt8) (c : UInt8) (mem : Mem) (hl : s.length ≤ 1000000000) : ACallsTo Tryz.prog 118 [.str s, .str [c]] mem (if 0 ≤ Lib.indexByte s c then .tuple [.str (s.take (Lib.indexByte s c).toNat), .str (s.drop ((Lib.indexByte s c).toNat + 1)), .bool true] else .tuple [.str s, .str [], .bool false]) mem := by
  have hG : fnOf Tryz.prog 118 = some Tryz.f118 := by kernel_rfl
  refine Tryz.run Tryz.base2_ok (lv := fun _ => []) (K := 1) rfl (by split <;> rfl) ?_ mem
  by_cases h : 0 ≤ Lib.indexByte s c
  · simp [callFn, hG, Tryz.f118, pureO, Tryz.baseF2, hl, h]
  · simp [callFn, hG, Tryz.f118, pureO, Tryz.baseF2, hl, h]
theorem Tryz.aCutPrefix0 (s p : List UInt8) (mem : Mem) : ACallsTo Tryz.prog 254 [.str s, .str p] mem (.tuple [.str (Lib.trimPrefix s p), .bool (Lib.hasPrefix s p)]) mem := by
  have hG : fnOf Tryz.prog 254 = some Tryz.f254 := by kernel_rfl
  refine Tryz.run Tryz.base2_ok (lv := fun _ => []) (K := 1) rfl rfl ?_ mem
  cases h : Lib.hasPrefix s p with
  | false => simp [callFn, hG, Tryz.f254, pureO, Tryz.baseF2, h, Lib.trimPrefix]
  | true =>
    have hle : p.length ≤ s.length := (List.isPrefixOf_iff_prefix.1 h).length_le
    simp [callFn, hG, Tryz.f254, pureO, Tryz.baseF2, h, Lib.trimPrefix, hle]
    rw [List.take_of_length_le (by simp)]
theorem Tryz.aTrimPrefix0 (s p : List UInt8) (mem : Mem) : ACallsTo Tryz.prog 256 [.str s, .str p] mem (.str (Lib.trimPrefix s p)) mem := by
  have hG : fnOf Tryz.prog 256 = some Tryz.f256 := by kernel_rfl
  refine Tryz.run Tryz.base2_ok (lv := fun _ => []) (K := 1) rfl rfl ?_ mem
  cases h : Lib.hasPrefix s p with
  | false => simp [callFn, hG, Tryz.f256, pureO, Tryz.baseF2, h, Lib.trimPrefix]
  | true =>
    have hle : p.length ≤ s.length := (List.isPrefixOf_iff_prefix.1 h).length_le
    simp [callFn, hG, Tryz.f256, pureO, Tryz.baseF2, h, Lib.trimPrefix, hle]
    rw [List.take_of_length_le (by simp)]
end Go.Proofs
