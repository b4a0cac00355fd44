/- See L55. -/
import Derived.Test.YtiopbpbcgccngaaGreatDoorL15
import Derived.Shelf.Strconv.Itoa3
import Derived.Shelf.Pu.ParseUintPublic10
import Derived.Ground.NamesProg
import Derived.Ground.MpProg
import Derived.Test.YtiopbpbcgccngaaGreatDoorProg
import Derived.Lib.AppendIntMem
set_option linter.all false
namespace Go.Proofs
open Go.Eng Go.Shelf
def Tryz.laysParseUint_ren : Go.Shelf.Ren := ⟨fun | 14 => 118 | 16 => 166 | 17 => 165 | 19 => 217 | 20 => 218 | 21 => 213 | 22 => 214 | 23 => 215 | 24 => 216 | 25 => 274 | 27 => 80 | 26 => 275 | 28 => 115 | 29 => 162 | 30 => 208 | 31 => 209 | 32 => 210 | 33 => 211 | 35 => 158 | 34 => 270 | 36 => 271 | 37 => 272 | 38 => 273 | 39 => 303 | 40 => 304 | n => n,fun | 9 => 9 | 3 => 3 | 22 => 187 | 24 => 189 | 25 => 192 | 4 => 4 | 34 => 292 | 5 => 5 | 36 => 181 | 37 => 161 | 0 => 0 | 39 => 295 | 21 => 21 | 44 => 339 | 47 => 247 | 50 => 375 | 48 => 373 | 2 => 2 | 52 => 288 | 55 => 290 | 59 => 335 | 60 => 241 | 20 => 20 | 61 => 336 | 65 => 391 | 66 => 392 | 67 => 203 | n => n,fun | 0 => 2 | 1 => 3 | 2 => 1 | 3 => 4 | 4 => 5 | n => n⟩
theorem Tryz.laysParseUint : Go.Proofs.LaysPu.n14 Tryz.prog Tryz.laysParseUint_ren := {
 mixed := by kernel_rfl
 f14 := Tryz.func118.trans (congrArg some (by kernel_rfl))
 f16 := Tryz.func166.trans (congrArg some (by kernel_rfl))
 f17 := Tryz.func165.trans (congrArg some (by kernel_rfl))
 f19 := Tryz.func217.trans (congrArg some (by kernel_rfl))
 f20 := Tryz.func218.trans (congrArg some (by kernel_rfl))
 f21 := Tryz.func213.trans (congrArg some (by kernel_rfl))
 f22 := Tryz.func214.trans (congrArg some (by kernel_rfl))
 f23 := Tryz.func215.trans (congrArg some (by kernel_rfl))
 f24 := Tryz.func216.trans (congrArg some (by kernel_rfl))
 f25 := Tryz.func274.trans (congrArg some (by kernel_rfl))
 f26 := Tryz.func275.trans (congrArg some (by kernel_rfl))
 f27 := Tryz.func80.trans (congrArg some (by kernel_rfl))
 f28 := Tryz.func115.trans (congrArg some (by kernel_rfl))
 f29 := Tryz.func162.trans (congrArg some (by kernel_rfl))
 f30 := Tryz.func208.trans (congrArg some (by kernel_rfl))
 f31 := Tryz.func209.trans (congrArg some (by kernel_rfl))
 f32 := Tryz.func210.trans (congrArg some (by kernel_rfl))
 f33 := Tryz.func211.trans (congrArg some (by kernel_rfl))
 f34 := Tryz.func270.trans (congrArg some (by kernel_rfl))
 f35 := Tryz.func158.trans (congrArg some (by kernel_rfl))
 f36 := Tryz.func271.trans (congrArg some (by kernel_rfl))
 f37 := Tryz.func272.trans (congrArg some (by kernel_rfl))
 f38 := Tryz.func273.trans (congrArg some (by kernel_rfl))
 f39 := Tryz.func303.trans (congrArg some (by kernel_rfl))
 f40 := Tryz.func304.trans (congrArg some (by kernel_rfl))
 t0 := Tryz.underlying0
 a0 := Tryz.isAgg0
 z0 := Tryz.sizeOf0
 v0 := Tryz.zeroValue0
 i0 := by kernel_rfl
 t2 := Tryz.underlying2
 a2 := Tryz.isAgg2
 z2 := Tryz.sizeOf2
 v2 := Tryz.zeroValue2
 i2 := by kernel_rfl
 t3 := Tryz.underlying3
 a3 := Tryz.isAgg3
 z3 := Tryz.sizeOf3
 v3 := Tryz.zeroValue3
 i3 := by kernel_rfl
 t4 := Tryz.underlying4
 a4 := Tryz.isAgg4
 z4 := Tryz.sizeOf4
 v4 := Tryz.zeroValue4
 i4 := by kernel_rfl
 t5 := Tryz.underlying5
 a5 := Tryz.isAgg5
 z5 := Tryz.sizeOf5
 v5 := Tryz.zeroValue5
 i5 := by kernel_rfl
 t9 := Tryz.underlying9
 a9 := Tryz.isAgg9
 z9 := Tryz.sizeOf9
 v9 := Tryz.zeroValue9
 i9 := by kernel_rfl
 t20 := Tryz.underlying20
 a20 := Tryz.isAgg20
 z20 := Tryz.sizeOf20
 v20 := Tryz.zeroValue20
 i20 := by kernel_rfl
 t21 := Tryz.underlying21
 a21 := Tryz.isAgg21
 z21 := Tryz.sizeOf21
 v21 := Tryz.zeroValue21
 i21 := by kernel_rfl
 t22 := Tryz.underlying187
 a22 := Tryz.isAgg187
 z22 := Tryz.sizeOf187
 v22 := Tryz.zeroValue187
 i22 := by kernel_rfl
 t24 := Tryz.underlying189
 a24 := Tryz.isAgg189
 z24 := Tryz.sizeOf189
 v24 := Tryz.zeroValue189
 i24 := by kernel_rfl
 t25 := Tryz.underlying192
 a25 := Tryz.isAgg192
 z25 := Tryz.sizeOf192
 v25 := Tryz.zeroValue192
 i25 := by kernel_rfl
 t34 := Tryz.underlying292
 a34 := Tryz.isAgg292
 z34 := Tryz.sizeOf292
 v34 := Tryz.zeroValue292
 i34 := by kernel_rfl
 c34 := by kernel_rfl
 t36 := Tryz.underlying181
 a36 := Tryz.isAgg181
 z36 := Tryz.sizeOf181
 v36 := Tryz.zeroValue181
 i36 := by kernel_rfl
 t37 := Tryz.underlying161
 a37 := Tryz.isAgg161
 z37 := Tryz.sizeOf161
 v37 := Tryz.zeroValue161
 i37 := by kernel_rfl
 t39 := Tryz.underlying295
 a39 := Tryz.isAgg295
 z39 := Tryz.sizeOf295
 v39 := Tryz.zeroValue295
 i39 := by kernel_rfl
 t44 := Tryz.underlying339
 a44 := Tryz.isAgg339
 z44 := Tryz.sizeOf339
 v44 := Tryz.zeroValue339
 i44 := by kernel_rfl
 t47 := Tryz.underlying247
 a47 := Tryz.isAgg247
 z47 := Tryz.sizeOf247
 v47 := Tryz.zeroValue247
 i47 := by kernel_rfl
 t48 := Tryz.underlying373
 a48 := Tryz.isAgg373
 z48 := Tryz.sizeOf373
 v48 := Tryz.zeroValue373
 i48 := by kernel_rfl
 t50 := Tryz.underlying375
 a50 := Tryz.isAgg375
 z50 := Tryz.sizeOf375
 v50 := Tryz.zeroValue375
 i50 := by kernel_rfl
 t52 := Tryz.underlying288
 a52 := Tryz.isAgg288
 z52 := Tryz.sizeOf288
 v52 := Tryz.zeroValue288
 i52 := by kernel_rfl
 t55 := Tryz.underlying290
 a55 := Tryz.isAgg290
 z55 := Tryz.sizeOf290
 v55 := Tryz.zeroValue290
 i55 := by kernel_rfl
 t59 := Tryz.underlying335
 a59 := Tryz.isAgg335
 z59 := Tryz.sizeOf335
 v59 := Tryz.zeroValue335
 i59 := by kernel_rfl
 t60 := Tryz.underlying241
 a60 := Tryz.isAgg241
 z60 := Tryz.sizeOf241
 v60 := Tryz.zeroValue241
 i60 := by kernel_rfl
 t61 := Tryz.underlying336
 a61 := Tryz.isAgg336
 z61 := Tryz.sizeOf336
 t65 := Tryz.underlying391
 a65 := Tryz.isAgg391
 z65 := Tryz.sizeOf391
 v65 := Tryz.zeroValue391
 i65 := by kernel_rfl
 t66 := Tryz.underlying392
 a66 := Tryz.isAgg392
 z66 := Tryz.sizeOf392
 v66 := Tryz.zeroValue392
 i66 := by kernel_rfl
 t67 := Tryz.underlying203
 a67 := Tryz.isAgg203
 z67 := Tryz.sizeOf203
 v67 := Tryz.zeroValue203
 i67 := by kernel_rfl
 g0 := by kernel_rfl
 m0 := by kernel_rfl
 g1 := by kernel_rfl
 m1 := by kernel_rfl
 g2 := by kernel_rfl
 m2 := by kernel_rfl
 g3 := by kernel_rfl
 m3 := by kernel_rfl
 g4 := by kernel_rfl
 m4 := by kernel_rfl }
theorem parseUintM_valF : ∀ (l : List UInt8) (a : Nat),l.all isD = true → (a + 1) * 10 ^ l.length ≤ 1000000000000000000 → Lib.parseUintM (2 ^ 64 - 1) a l = .ok (valF a l)
 | [],a,_,_ => by rw [valF_nil]; rfl
 | c :: r,a,h,hb => by
  simp only [List.all_cons,Bool.and_eq_true] at h
  have hd := isD_lt h.1
  have hc : 48 ≤ c.toNat ∧ c.toNat ≤ 57 := by have := h.1; unfold isD at this; simpa using this
  rw [List.length_cons,Nat.pow_succ] at hb
  have hp : 1 ≤ 10 ^ r.length := Nat.one_le_pow _ _ (by omega)
  have h1 : (a + 1) * (10 ^ r.length * 10) = (10 * a + 10) * 10 ^ r.length := by rw [Nat.mul_comm (10 ^ r.length) 10,← Nat.mul_assoc]; congr 1; omega
  rw [h1] at hb
  have h2 : (10 * a + 10) * 1 ≤ (10 * a + 10) * 10 ^ r.length := Nat.mul_le_mul_left _ hp
  have e : a * 10 + (c.toNat - 48) = 10 * a + (c.toNat - 48) := by omega
  unfold Lib.parseUintM
  rw [if_pos hc,if_neg (by omega),if_neg (by omega),valF_cons,e]
  refine parseUintM_valF r _ h.2 (Nat.le_trans (Nat.mul_le_mul_right _ ?_) hb)
  omega
theorem Tryz.aParseUint (s : List UInt8) (hs : s ≠ []) (hd : s.all isD = true) (hl : s.length ≤ 18) (mem : Mem) : ACallsTo Tryz.prog 118 [.str s,.int .i64 10,.int .i64 64] mem (.tuple [.int .u64 (valD s : Nat),.nilIface]) mem :=
 ACallsTo.of_calls (Tryz.funOk _ Tryz.func118 (by kernel_rfl) (by kernel_rfl)) (Vs := [.string ⟨s.toArray⟩,.int .i64 10,.int .i64 64]) (fun μ n Us h => by simpa [VRels,VRel] using h) (V := .tuple #[.int .u64 (valD s : Nat),.nilIface]) (fun μ n => by simp only [VRel,VRels]; exact ⟨_,rfl,_,_,rfl,rfl,_,_,rfl,rfl,rfl⟩)
  (fun base w hG => (Any.strconv_ParseUint_10_at64_ok Tryz.laysParseUint ⟨s.toArray⟩ (by simp [ByteArray.size]; omega) (valD s) (by
   have hp : 10 ^ s.length ≤ 10 ^ 18 := Nat.pow_le_pow_right (by omega) hl
   have := parseUintM_valF s 0 hd (by omega)
   simp only [Lib.parseUintB]
   rw [if_neg (by simpa using hs)]
   exact this) w).mono fun e w' ⟨h1,h2⟩ => ⟨h1,by rcases h2 with rfl | rfl; exact Gentle.refl _; exact Tryz.gentle_bytes _ _ _⟩) mem
end Go.Proofs
namespace Go.Proofs
open Go.Eng Go.Shelf Go.RowKit Go.Sort
def Tryz.laysNumDigits_ren : Go.Shelf.Ren := ⟨fun | 284 => 209 | 129 => 158 | 317 => 270 | 318 => 271 | n => n,fun | 53 => 187 | 3 => 3 | 212 => 335 | 0 => 0 | 4 => 4 | 46 => 181 | 5 => 5 | 9 => 9 | n => n,fun | 17 => 1 | n => n⟩
theorem Tryz.laysNumDigits : Go.Proofs.LaysM.n284 Tryz.prog Tryz.laysNumDigits_ren := {
 mixed := by kernel_rfl
 f129 := Tryz.func158.trans (congrArg some (by kernel_rfl))
 f284 := Tryz.func209.trans (congrArg some (by kernel_rfl))
 f317 := Tryz.func270.trans (congrArg some (by kernel_rfl))
 f318 := Tryz.func271.trans (congrArg some (by kernel_rfl))
 t0 := Tryz.underlying0
 a0 := Tryz.isAgg0
 z0 := Tryz.sizeOf0
 v0 := Tryz.zeroValue0
 t3 := Tryz.underlying3
 a3 := Tryz.isAgg3
 z3 := Tryz.sizeOf3
 v3 := Tryz.zeroValue3
 t4 := Tryz.underlying4
 a4 := Tryz.isAgg4
 z4 := Tryz.sizeOf4
 v4 := Tryz.zeroValue4
 t5 := Tryz.underlying5
 a5 := Tryz.isAgg5
 z5 := Tryz.sizeOf5
 v5 := Tryz.zeroValue5
 t9 := Tryz.underlying9
 a9 := Tryz.isAgg9
 z9 := Tryz.sizeOf9
 v9 := Tryz.zeroValue9
 t46 := Tryz.underlying181
 a46 := Tryz.isAgg181
 z46 := Tryz.sizeOf181
 v46 := Tryz.zeroValue181
 t53 := Tryz.underlying187
 a53 := Tryz.isAgg187
 z53 := Tryz.sizeOf187
 v53 := Tryz.zeroValue187
 t212 := Tryz.underlying335
 a212 := Tryz.isAgg335
 z212 := Tryz.sizeOf335
 v212 := Tryz.zeroValue335
 g17 := by kernel_rfl
 i0 := by kernel_rfl
 i3 := by kernel_rfl
 i4 := by kernel_rfl
 i5 := by kernel_rfl
 i9 := by kernel_rfl
 i46 := by kernel_rfl
 i53 := by kernel_rfl
 i212 := by kernel_rfl
 m17 := by kernel_rfl }
def Tryz.laysFormatBase10_ren : Go.Shelf.Ren := ⟨fun | 285 => 210 | n => n,fun | 37 => 161 | 53 => 187 | 3 => 3 | 4 => 4 | 51 => 241 | 9 => 9 | 5 => 5 | 0 => 0 | n => n,fun | n => n⟩
theorem Tryz.laysFormatBase10 : Go.Proofs.Lays.n285 Tryz.prog Tryz.laysFormatBase10_ren := {
 mixed := by kernel_rfl
 f285 := Tryz.func210.trans (congrArg some (by kernel_rfl))
 t0 := Tryz.underlying0
 a0 := Tryz.isAgg0
 z0 := Tryz.sizeOf0
 v0 := Tryz.zeroValue0
 t3 := Tryz.underlying3
 a3 := Tryz.isAgg3
 z3 := Tryz.sizeOf3
 v3 := Tryz.zeroValue3
 t4 := Tryz.underlying4
 a4 := Tryz.isAgg4
 z4 := Tryz.sizeOf4
 v4 := Tryz.zeroValue4
 t5 := Tryz.underlying5
 a5 := Tryz.isAgg5
 z5 := Tryz.sizeOf5
 v5 := Tryz.zeroValue5
 t9 := Tryz.underlying9
 a9 := Tryz.isAgg9
 z9 := Tryz.sizeOf9
 v9 := Tryz.zeroValue9
 t37 := Tryz.underlying161
 a37 := Tryz.isAgg161
 z37 := Tryz.sizeOf161
 v37 := Tryz.zeroValue161
 t51 := Tryz.underlying241
 a51 := Tryz.isAgg241
 z51 := Tryz.sizeOf241
 v51 := Tryz.zeroValue241
 t53 := Tryz.underlying187
 a53 := Tryz.isAgg187
 z53 := Tryz.sizeOf187
 v53 := Tryz.zeroValue187 }
def Tryz.laysSmallNum_ren : Go.Shelf.Ren := ⟨fun | 283 => 208 | n => n,fun | 3 => 3 | 9 => 9 | 4 => 4 | n => n,fun | n => n⟩
theorem Tryz.laysSmallNum : Go.Proofs.Lays.n283 Tryz.prog Tryz.laysSmallNum_ren := {
 mixed := by kernel_rfl
 f283 := Tryz.func208.trans (congrArg some (by kernel_rfl))
 t3 := Tryz.underlying3
 a3 := Tryz.isAgg3
 z3 := Tryz.sizeOf3
 v3 := Tryz.zeroValue3
 t4 := Tryz.underlying4
 a4 := Tryz.isAgg4
 z4 := Tryz.sizeOf4
 v4 := Tryz.zeroValue4
 t9 := Tryz.underlying9
 a9 := Tryz.isAgg9
 z9 := Tryz.sizeOf9
 v9 := Tryz.zeroValue9 }
set_option maxHeartbeats 6400000 in
set_option maxRecDepth 100000 in
theorem Tryz.internal_FormatUint (u : Nat) (hu64 : u < 18446744073709551616) (w : World) (htab : ∀ s,itoaTab = s → Lib.TabIs Tryz.prog w s .u64 Lib.pow10Tab) :
  Calls Tryz.prog 169 #[.int .u64 u,.int .i64 10] w fun e w' => e = .returned (.string ⟨(Lib.decDigits u).toArray⟩) ∧ ∃ k os,w' = grow (w.drewN k) os := by
 by_cases hs : u < 100
 ·go_enter Tryz.func169,Tryz.ntmps169
  go_wp2_with (go_at_call 208; refine (Any.internal_strconv_small Tryz.laysSmallNum u hs _).mono ?_; rintro e w' ⟨rfl,rfl⟩)
  go_ret
  exact ⟨rfl,0,#[],by simp [World.drewN_zero]⟩
 ·have hu1 : 1 ≤ u := by omega
  have hnd20 : Lib.nDigits u ≤ 20 := by have := Lib.numDigits_eq u hu1 hu64; split at this <;> omega
  have hal : Tryz.prog.arrayLen 288 = 24 := by kernel_rfl
  have hsl1 : ∀ W,(Instr.sliceAt 288 (.pointer (some ⟨w.heap.size,0,none⟩)) none (some (.int .i64 (Lib.nDigits u : Int))) none).run Tryz.prog W = .ok (.slice (some ⟨w.heap.size,0,none⟩) (Lib.nDigits u) 24) W := fun W => by
   rw [run_sliceAt_array_h W 288 ⟨w.heap.size,0,none⟩ (by kernel_rfl) .i64 (Lib.nDigits u : Int) (by omega) (by rw [hal]; omega)]
   go_simp
  have hH0 := Lib.holds_zero0 w 288 (Lib.nDigits u) (by omega)
  have hfmt := Any.internal_strconv_formatBase10 Tryz.laysFormatBase10 w.heap.size 0 24 u (Array.replicate (Lib.nDigits u) 0) (w.alloc (.cells Lib.zeros24 288)) hH0 (by rw [Array.size_replicate]; exact Lib.lt_pow_nDigits u) hu64 (by rw [Array.size_replicate]; omega)
  rw [Array.size_replicate] at hfmt
  have HH0 := Lib.hid hH0
  clear hH0 hal
  go_enter Tryz.func169,Tryz.ntmps169
  go_wp2_with (first
   | (go_at_call 209; refine (Any.internal_strconv_numDigits Tryz.laysNumDigits u hu1 hu64 _ (Lib.tabIs_alloc (htab _ (by kernel_rfl)) _)).mono ?_; rintro e w' ⟨rfl,rfl⟩))
  go_at_call 210
  refine hfmt.mono ?_
  rintro e w' ⟨rfl,k,v',dk,rfl,hF⟩
  have hcv : (convert 161 9 (.slice (some ⟨w.heap.size,0,none⟩) (Lib.nDigits u) 24)).run Tryz.prog ((putRow (fun (b : UInt8) => Value.int .u8 (b.toNat : Int)) (w.alloc (.cells Lib.zeros24 288)) w.heap.size 0 dk).drewN k) = .ok (.string ⟨(Lib.decDigits u).toArray⟩) ((putRow (fun (b : UInt8) => Value.int .u8 (b.toNat : Int)) (w.alloc (.cells Lib.zeros24 288)) w.heap.size 0 dk).drewN k) := by
   have h := run_convert_bytes_back (P := Tryz.prog) ((putRow (fun (b : UInt8) => Value.int .u8 (b.toNat : Int)) (w.alloc (.cells Lib.zeros24 288)) w.heap.size 0 dk).drewN k) 161 9 5 ⟨w.heap.size,0,none⟩ 24 (Lib.decDigits u) (by kernel_rfl) (by kernel_rfl) (by kernel_rfl) (fun j hj => by
    rw [Lib.row_is_numeral hF j hj,Lib.add_plain,World.cell?_drewN]
    exact cell?_putRow (fun (b : UInt8) => Value.int .u8 (b.toNat : Int)) _ w.heap.size 0 _ dk HH0.out (by rw [hF.size,Array.size_replicate]) j (by rw [hF.size]; rw [Lib.decDigits_length] at hj; exact hj))
   rw [Lib.decDigits_length] at h
   exact h
  go_wp2
  go_ret
  obtain ⟨os,eo⟩ := Lib.fin_at w (.cells Lib.zeros24 288) dk k 0
  exact ⟨rfl,k,os,eo⟩
set_option maxHeartbeats 2000000 in
set_option maxRecDepth 100000 in
theorem Tryz.strconv_FormatUint (u : Nat) (hu64 : u < 18446744073709551616) (w : World) (htab : ∀ s,itoaTab = s → Lib.TabIs Tryz.prog w s .u64 Lib.pow10Tab) :
  Calls Tryz.prog 122 #[.int .u64 u,.int .i64 10] w fun e w' => e = .returned (.string ⟨(Lib.decDigits u).toArray⟩) ∧ ∃ k os,w' = grow (w.drewN k) os := by
 go_enter Tryz.func122,Tryz.ntmps122
 go_wp2_with (go_at_call 169; refine (Tryz.internal_FormatUint u hu64 _ htab).mono ?_; rintro e w' ⟨rfl,hw⟩)
 go_ret
 exact ⟨rfl,hw⟩
theorem Tryz.aFormatUint (u : Nat) (hu : u < 18446744073709551616) (mem : Mem) : ACallsTo Tryz.prog 122 [.int .u64 u,.int .i64 10] mem (.str (natD u)) mem :=
 ACallsTo.of_calls (Tryz.funOk _ Tryz.func122 (by kernel_rfl) (by kernel_rfl)) (Vs := [.int .u64 u,.int .i64 10]) (fun μ n Us h => by simpa [VRels,VRel] using h) (V := .string ⟨(natD u).toArray⟩) (fun μ n => by simp [VRel])
  (fun base w hG => (Tryz.strconv_FormatUint u hu w fun _ hs => hG.tabOf hs).mono fun e w' ⟨h1,k,os,h2⟩ => ⟨by rw [h1,natD_eq],h2 ▸ Gentle.grow w k os⟩) mem
end Go.Proofs
