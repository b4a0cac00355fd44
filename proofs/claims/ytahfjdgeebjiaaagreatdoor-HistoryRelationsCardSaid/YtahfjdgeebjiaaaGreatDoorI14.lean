/- See I57. -/
import Derived.Test.YtahfjdgeebjiaaaGreatDoorI05
import Derived.Test.YtahfjdgeebjiaaaGreatDoorI13
import Derived.Test.YtahfjdgeebjiaaaGreatDoorI06
import Derived.Test.YtahfjdgeebjiaaaGreatDoorProg
import Derived.KernelRfl
import Derived.Lib.IndexLaws
set_option linter.all false
namespace Go.Proofs
open Go.Eng
theorem Tryz.y2 : tyOf Tryz.prog 2 = some ⟨.int .i64,1,8,.int .i64 0,true⟩ := by kernel_rfl
theorem Tryz.y3 : tyOf Tryz.prog 3 = some ⟨.int .i64,1,8,.int .i64 0,true⟩ := by kernel_rfl
theorem Tryz.y4 : tyOf Tryz.prog 4 = some ⟨.bool,1,1,.bool false,true⟩ := by kernel_rfl
theorem Tryz.y5 : tyOf Tryz.prog 5 = some ⟨.int .u8,1,1,.int .u8 0,true⟩ := by kernel_rfl
theorem Tryz.y6 : tyOf Tryz.prog 6 = some ⟨.int .u8,1,1,.int .u8 0,true⟩ := by kernel_rfl
theorem Tryz.y9 : tyOf Tryz.prog 9 = some ⟨.string,1,16,.string ⟨#[]⟩,true⟩ := by kernel_rfl
theorem Tryz.y22 : tyOf Tryz.prog 22 = some ⟨.int .i8,1,1,.int .i8 0,true⟩ := by kernel_rfl
theorem Tryz.y26 : tyOf Tryz.prog 26 = some ⟨.slice 100,1,24,.slice none 0 0,true⟩ := by kernel_rfl
theorem Tryz.y31 : tyOf Tryz.prog 31 = some ⟨.slice 121,1,24,.slice none 0 0,true⟩ := by kernel_rfl
theorem Tryz.y32 : tyOf Tryz.prog 32 = some ⟨.slice 177,1,24,.slice none 0 0,true⟩ := by kernel_rfl
theorem Tryz.y35 : tyOf Tryz.prog 35 = some ⟨.slice 71,1,24,.slice none 0 0,true⟩ := by kernel_rfl
theorem Tryz.y39 : tyOf Tryz.prog 39 = some ⟨.slice 9,1,24,.slice none 0 0,true⟩ := by kernel_rfl
theorem Tryz.y40 : tyOf Tryz.prog 40 = some ⟨.int .i64,1,8,.int .i64 0,true⟩ := by kernel_rfl
theorem Tryz.y50 : tyOf Tryz.prog 50 = some ⟨.slice 55,1,24,.slice none 0 0,true⟩ := by kernel_rfl
theorem Tryz.y51 : tyOf Tryz.prog 51 = some ⟨.slice 55,1,24,.slice none 0 0,true⟩ := by kernel_rfl
theorem Tryz.y52 : tyOf Tryz.prog 52 = some ⟨.slice 51,1,24,.slice none 0 0,true⟩ := by kernel_rfl
theorem Tryz.y55 : tyOf Tryz.prog 55 = some ⟨.string,1,16,.string ⟨#[]⟩,true⟩ := by kernel_rfl
theorem Tryz.y62 : tyOf Tryz.prog 62 = some ⟨.slice 141,1,24,.slice none 0 0,true⟩ := by kernel_rfl
theorem Tryz.y74 : tyOf Tryz.prog 74 = some ⟨.slice 77,1,24,.slice none 0 0,true⟩ := by kernel_rfl
theorem Tryz.y107 : tyOf Tryz.prog 107 = some ⟨.slice 3,1,24,.slice none 0 0,true⟩ := by kernel_rfl
theorem Tryz.y131 : tyOf Tryz.prog 131 = some ⟨.slice 135,1,24,.slice none 0 0,true⟩ := by kernel_rfl
theorem Tryz.y142 : tyOf Tryz.prog 142 = some ⟨.slice 67,1,24,.slice none 0 0,true⟩ := by kernel_rfl
theorem Tryz.y146 : tyOf Tryz.prog 146 = some ⟨.slice 5,1,24,.slice none 0 0,true⟩ := by kernel_rfl
theorem Tryz.y185 : tyOf Tryz.prog 185 = some ⟨.slice 57,1,24,.slice none 0 0,true⟩ := by kernel_rfl
theorem Tryz.y187 : tyOf Tryz.prog 187 = some ⟨.string,1,16,.string ⟨#[]⟩,true⟩ := by kernel_rfl
theorem Tryz.y189 : tyOf Tryz.prog 189 = some ⟨.map 121 4,1,8,.map none,true⟩ := by kernel_rfl
theorem Tryz.y202 : tyOf Tryz.prog 202 = some ⟨.pointer 71,1,8,.pointer none,true⟩ := by kernel_rfl
theorem Tryz.y248 : tyOf Tryz.prog 248 = some ⟨.map 135 3,1,8,.map none,true⟩ := by kernel_rfl
theorem Tryz.y251 : tyOf Tryz.prog 251 = some ⟨.map 3 4,1,8,.map none,true⟩ := by kernel_rfl
theorem Tryz.y278 : tyOf Tryz.prog 278 = some ⟨.int .u64,1,8,.int .u64 0,true⟩ := by kernel_rfl
theorem Tryz.y312 : tyOf Tryz.prog 312 = some ⟨.map 3 3,1,8,.map none,true⟩ := by kernel_rfl
theorem Tryz.y340 : tyOf Tryz.prog 340 = some ⟨.slice 278,1,24,.slice none 0 0,true⟩ := by kernel_rfl
attribute [simp] Tryz.y3 Tryz.y4 Tryz.y5 Tryz.y9 Tryz.y22 Tryz.y26 Tryz.y31 Tryz.y32 Tryz.y35 Tryz.y39 Tryz.y40
attribute [simp] Tryz.y50 Tryz.y51 Tryz.y52 Tryz.y55 Tryz.y62 Tryz.y74 Tryz.y107 Tryz.y131 Tryz.y142 Tryz.y146 Tryz.y185 Tryz.y187 Tryz.y189
attribute [simp] Tryz.y202 Tryz.y248 Tryz.y251 Tryz.y278 Tryz.y312 Tryz.y340
noncomputable def Tryz.baseF (f : FuncId) (args : List AV) : Option AV :=
 match f,args with
 | 303,[.str a,.str b] => some (.int .i64 (Lib.compareBytes a b))
 | 268,[.str s,.int .u8 c] => if 0 ≤ c then some (.int .i64 (Lib.indexByte s c.toNat.toUInt8)) else none
 | 334,[.str s,.str [c]] => some (.int .i64 (Lib.indexByte s c))
 | _,_ => none
theorem Tryz.base_ok : OracleOk Tryz.prog (pureO Tryz.baseF) := pureO_ok fun f args v h mem => by
 unfold Tryz.baseF at h
 split at h
 ·cases h; exact Tryz.aCompareString _ _ mem
 ·split at h
  ·rename_i c hc
   cases h
   have e : c = ((c.toNat : Nat) : Int) := by omega
   have := Tryz.aIndexByte ‹List UInt8› c.toNat mem
   rw [← e] at this
   exact this
  ·cases h
 ·cases h; exact Tryz.aIndexOne _ _ mem
 ·cases h
theorem Tryz.run {lv : Code → List Nat} {O : Oracle} (hO : OracleOk Tryz.prog O) {K : Nat} {f : FuncId} {args : List AV} {v : AV} (ha : AV.closeds args = true) (hv : v.closed = true)
  (h : callFn (tyOf Tryz.prog) lv (fnOf Tryz.prog) O K f args [] = some ⟨v,none,[]⟩) (mem : Mem) : ACallsTo Tryz.prog f args mem v mem :=
 ACallsTo.of_run Tryz.mixed (tyOf_ok _) hO (fnOf_ok _) ha hv h mem
theorem Tryz.g311 : fnOf Tryz.prog 311 = some Tryz.f311 := by kernel_rfl
theorem Tryz.aHasPrefix0 (s p : List UInt8) (mem : Mem) : ACallsTo Tryz.prog 311 [.str s,.str p] mem (.bool (Lib.hasPrefix s p)) mem := by
 refine Tryz.run (noOracle_ok _) (lv := fun _ => []) (K := 1) rfl rfl ?_ mem
 rw [← Lib.hasPrefix_of_take]
 by_cases h : p.length ≤ s.length
 ·simp [callFn,Tryz.g311,Tryz.f311,h]
 ·simp [callFn,Tryz.g311,Tryz.f311,h]
theorem Tryz.g296 : fnOf Tryz.prog 296 = some Tryz.f296 := by kernel_rfl
theorem Tryz.indexByte_lt {s : List UInt8} {c : UInt8} {i : Nat} (h : Lib.indexByte s c = i) : i < s.length := by
 have := (Lib.indexByte_some h).1
 exact (List.getElem?_eq_some_iff.1 this).1
theorem Tryz.aCut0 (s : List UInt8) (c : UInt8) (mem : Mem) (hl : s.length ≤ 1000000000) : ACallsTo Tryz.prog 296 [.str s,.str [c]] mem (if 0 ≤ Lib.indexByte s c then .tuple [.str (s.take (Lib.indexByte s c).toNat),.str (s.drop ((Lib.indexByte s c).toNat + 1)),.bool true] else .tuple [.str s,.str [],.bool false]) mem := by
 refine Tryz.run Tryz.base_ok (lv := fun _ => []) (K := 1) rfl (by split <;> rfl) ?_ mem
 by_cases h : 0 ≤ Lib.indexByte s c
 ·obtain ⟨i,hi⟩ : ∃ i : Nat,Lib.indexByte s c = i := ⟨_,(Int.toNat_of_nonneg h).symm⟩
  have hlt := Tryz.indexByte_lt hi
  have h1 : (i : Int) ≤ s.length := by omega
  have h2 : IntKind.i64.wrap ((i : Int) + 1) = (i : Int) + 1 := wrap_i64 (by omega) (by omega)
  have h3 : (i : Int) + 1 ≤ s.length := by omega
  have h4 : ((i : Int) + 1).toNat = i + 1 := by omega
  have h5 : (0 : Int) ≤ (i : Int) + 1 := by omega
  simp [callFn,Tryz.g296,Tryz.f296,hi,pureO,Tryz.baseF,h1,h2,h3,h4,h5]
  rw [List.take_of_length_le (by simp)]
 ·simp [callFn,Tryz.g296,Tryz.f296,h,pureO,Tryz.baseF]
noncomputable def Tryz.baseF2 (f : FuncId) (args : List AV) : Option AV :=
 match f,args with
 | 303,[.str a,.str b] => some (.int .i64 (Lib.compareBytes a b))
 | 268,[.str s,.int .u8 c] => if 0 ≤ c then some (.int .i64 (Lib.indexByte s c.toNat.toUInt8)) else none
 | 311,[.str s,.str p] => some (.bool (Lib.hasPrefix s p))
 | 296,[.str s,.str [c]] => if s.length ≤ 1000000000 then some (if 0 ≤ Lib.indexByte s c then .tuple [.str (s.take (Lib.indexByte s c).toNat),.str (s.drop ((Lib.indexByte s c).toNat + 1)),.bool true] else .tuple [.str s,.str [],.bool false]) else none
 | _,_ => none
theorem Tryz.base2_ok : OracleOk Tryz.prog (pureO Tryz.baseF2) := pureO_ok fun f args v h mem => by
 unfold Tryz.baseF2 at h
 split at h
 ·cases h; exact Tryz.aCompareString _ _ mem
 ·split at h
  ·rename_i c hc
   cases h
   have e : c = ((c.toNat : Nat) : Int) := by omega
   have := Tryz.aIndexByte ‹List UInt8› c.toNat mem
   rw [← e] at this
   exact this
  ·cases h
 ·cases h; exact Tryz.aHasPrefix0 _ _ mem
 ·split at h
  ·rename_i hl; cases h; exact Tryz.aCut0 _ _ mem hl
  ·cases h
 ·cases h
theorem Tryz.aHasPrefix (s p : List UInt8) (mem : Mem) : ACallsTo Tryz.prog 267 [.str s,.str p] mem (.bool (Lib.hasPrefix s p)) mem := by
 have hG : fnOf Tryz.prog 267 = some Tryz.f267 := by kernel_rfl
 refine Tryz.run Tryz.base2_ok (lv := fun _ => []) (K := 1) rfl rfl ?_ mem
 simp [callFn,hG,Tryz.f267,pureO,Tryz.baseF2]
theorem Tryz.aCompare (s p : List UInt8) (mem : Mem) : ACallsTo Tryz.prog 260 [.str s,.str p] mem (.int .i64 (Lib.compareBytes s p)) mem := by
 have hG : fnOf Tryz.prog 260 = some Tryz.f260 := by kernel_rfl
 refine Tryz.run Tryz.base2_ok (lv := fun _ => []) (K := 1) rfl rfl ?_ mem
 simp [callFn,hG,Tryz.f260,pureO,Tryz.baseF2]
theorem Tryz.aIndexByteS (s : List UInt8) (c : Int) (hc : 0 ≤ c) (mem : Mem) : ACallsTo Tryz.prog 181 [.str s,.int .u8 c] mem (.int .i64 (Lib.indexByte s c.toNat.toUInt8)) mem := by
 have hG : fnOf Tryz.prog 181 = some Tryz.f181 := by kernel_rfl
 refine Tryz.run Tryz.base2_ok (lv := fun _ => []) (K := 1) rfl rfl ?_ mem
 simp [callFn,hG,Tryz.f181,pureO,Tryz.baseF2,hc]
theorem Tryz.aCut (s : List UInt8) (c : UInt8) (mem : Mem) (hl : s.length ≤ 1000000000) : ACallsTo Tryz.prog 253 [.str s,.str [c]] mem (if 0 ≤ Lib.indexByte s c then .tuple [.str (s.take (Lib.indexByte s c).toNat),.str (s.drop ((Lib.indexByte s c).toNat + 1)),.bool true] else .tuple [.str s,.str [],.bool false]) mem := by
 have hG : fnOf Tryz.prog 253 = some Tryz.f253 := by kernel_rfl
 refine Tryz.run Tryz.base2_ok (lv := fun _ => []) (K := 1) rfl (by split <;> rfl) ?_ mem
 by_cases h : 0 ≤ Lib.indexByte s c
 ·simp [callFn,hG,Tryz.f253,pureO,Tryz.baseF2,hl,h]
 ·simp [callFn,hG,Tryz.f253,pureO,Tryz.baseF2,hl,h]
theorem Tryz.aCutPrefix0 (s p : List UInt8) (mem : Mem) : ACallsTo Tryz.prog 335 [.str s,.str p] mem (.tuple [.str (Lib.trimPrefix s p),.bool (Lib.hasPrefix s p)]) mem := by
 have hG : fnOf Tryz.prog 335 = some Tryz.f335 := by kernel_rfl
 refine Tryz.run Tryz.base2_ok (lv := fun _ => []) (K := 1) rfl rfl ?_ mem
 cases h : Lib.hasPrefix s p with
 | false => simp [callFn,hG,Tryz.f335,pureO,Tryz.baseF2,h,Lib.trimPrefix]
 | true =>
  have hle : p.length ≤ s.length := (List.isPrefixOf_iff_prefix.1 h).length_le
  simp [callFn,hG,Tryz.f335,pureO,Tryz.baseF2,h,Lib.trimPrefix,hle]
  rw [List.take_of_length_le (by simp)]
theorem Tryz.aTrimPrefix0 (s p : List UInt8) (mem : Mem) : ACallsTo Tryz.prog 302 [.str s,.str p] mem (.str (Lib.trimPrefix s p)) mem := by
 have hG : fnOf Tryz.prog 302 = some Tryz.f302 := by kernel_rfl
 refine Tryz.run Tryz.base2_ok (lv := fun _ => []) (K := 1) rfl rfl ?_ mem
 cases h : Lib.hasPrefix s p with
 | false => simp [callFn,hG,Tryz.f302,pureO,Tryz.baseF2,h,Lib.trimPrefix]
 | true =>
  have hle : p.length ≤ s.length := (List.isPrefixOf_iff_prefix.1 h).length_le
  simp [callFn,hG,Tryz.f302,pureO,Tryz.baseF2,h,Lib.trimPrefix,hle]
  rw [List.take_of_length_le (by simp)]
end Go.Proofs
