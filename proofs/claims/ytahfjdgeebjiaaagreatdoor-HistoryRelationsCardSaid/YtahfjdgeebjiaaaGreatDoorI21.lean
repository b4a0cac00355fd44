/- See I57. -/
import Derived.Test.YtahfjdgeebjiaaaGreatDoorI15
import Derived.Shelf.Strconv.Itoa3
import Derived.Shelf.Pu.ParseUintPublic10
import Derived.Ground.NamesProg
import Derived.Ground.MpProg
import Derived.Test.YtahfjdgeebjiaaaGreatDoorProg
import Derived.Lib.AppendIntMem
set_option linter.all false
namespace Go.Proofs
open Go.Eng Go.Shelf
def Tryz.laysParseUint_ren : Go.Shelf.Ren := ⟨fun | 14 => 304 | 16 => 338 | 17 => 274 | 19 => 353 | 20 => 354 | 21 => 314 | 22 => 315 | 23 => 316 | 24 => 317 | 25 => 342 | 27 => 133 | 26 => 343 | 28 => 195 | 29 => 275 | 30 => 318 | 31 => 319 | 32 => 320 | 33 => 321 | 35 => 158 | 34 => 344 | 36 => 345 | 37 => 346 | 38 => 347 | 39 => 356 | 40 => 357 | n => n,fun | 9 => 9 | 3 => 3 | 22 => 278 | 24 => 304 | 25 => 380 | 4 => 4 | 34 => 392 | 5 => 5 | 36 => 212 | 37 => 146 | 0 => 0 | 39 => 395 | 21 => 21 | 44 => 414 | 47 => 411 | 50 => 427 | 48 => 425 | 2 => 2 | 52 => 398 | 55 => 400 | 59 => 418 | 60 => 276 | 20 => 20 | 61 => 419 | 65 => 434 | 66 => 435 | 67 => 391 | n => n,fun | 0 => 1 | 1 => 2 | 2 => 3 | 3 => 4 | 4 => 5 | n => n⟩
theorem Tryz.laysParseUint : Go.Proofs.LaysPu.n14 Tryz.prog Tryz.laysParseUint_ren := {
 mixed := by kernel_rfl
 f14 := Tryz.func304.trans (congrArg some (by kernel_rfl))
 f16 := Tryz.func338.trans (congrArg some (by kernel_rfl))
 f17 := Tryz.func274.trans (congrArg some (by kernel_rfl))
 f19 := Tryz.func353.trans (congrArg some (by kernel_rfl))
 f20 := Tryz.func354.trans (congrArg some (by kernel_rfl))
 f21 := Tryz.func314.trans (congrArg some (by kernel_rfl))
 f22 := Tryz.func315.trans (congrArg some (by kernel_rfl))
 f23 := Tryz.func316.trans (congrArg some (by kernel_rfl))
 f24 := Tryz.func317.trans (congrArg some (by kernel_rfl))
 f25 := Tryz.func342.trans (congrArg some (by kernel_rfl))
 f26 := Tryz.func343.trans (congrArg some (by kernel_rfl))
 f27 := Tryz.func133.trans (congrArg some (by kernel_rfl))
 f28 := Tryz.func195.trans (congrArg some (by kernel_rfl))
 f29 := Tryz.func275.trans (congrArg some (by kernel_rfl))
 f30 := Tryz.func318.trans (congrArg some (by kernel_rfl))
 f31 := Tryz.func319.trans (congrArg some (by kernel_rfl))
 f32 := Tryz.func320.trans (congrArg some (by kernel_rfl))
 f33 := Tryz.func321.trans (congrArg some (by kernel_rfl))
 f34 := Tryz.func344.trans (congrArg some (by kernel_rfl))
 f35 := Tryz.func158.trans (congrArg some (by kernel_rfl))
 f36 := Tryz.func345.trans (congrArg some (by kernel_rfl))
 f37 := Tryz.func346.trans (congrArg some (by kernel_rfl))
 f38 := Tryz.func347.trans (congrArg some (by kernel_rfl))
 f39 := Tryz.func356.trans (congrArg some (by kernel_rfl))
 f40 := Tryz.func357.trans (congrArg some (by kernel_rfl))
 t0 := Tryz.underlying0
 a0 := Tryz.isAgg0
 z0 := Tryz.sizeOf0
 v0 := Tryz.zeroValue0
 i0 := by kernel_rfl
 t2 := Tryz.underlying2
 a2 := Tryz.isAgg2
 z2 := Tryz.sizeOf2
 v2 := Tryz.zeroValue2
 i2 := by kernel_rfl
 t3 := Tryz.underlying3
 a3 := Tryz.isAgg3
 z3 := Tryz.sizeOf3
 v3 := Tryz.zeroValue3
 i3 := by kernel_rfl
 t4 := Tryz.underlying4
 a4 := Tryz.isAgg4
 z4 := Tryz.sizeOf4
 v4 := Tryz.zeroValue4
 i4 := by kernel_rfl
 t5 := Tryz.underlying5
 a5 := Tryz.isAgg5
 z5 := Tryz.sizeOf5
 v5 := Tryz.zeroValue5
 i5 := by kernel_rfl
 t9 := Tryz.underlying9
 a9 := Tryz.isAgg9
 z9 := Tryz.sizeOf9
 v9 := Tryz.zeroValue9
 i9 := by kernel_rfl
 t20 := Tryz.underlying20
 a20 := Tryz.isAgg20
 z20 := Tryz.sizeOf20
 v20 := Tryz.zeroValue20
 i20 := by kernel_rfl
 t21 := Tryz.underlying21
 a21 := Tryz.isAgg21
 z21 := Tryz.sizeOf21
 v21 := Tryz.zeroValue21
 i21 := by kernel_rfl
 t22 := Tryz.underlying278
 a22 := Tryz.isAgg278
 z22 := Tryz.sizeOf278
 v22 := Tryz.zeroValue278
 i22 := by kernel_rfl
 t24 := Tryz.underlying304
 a24 := Tryz.isAgg304
 z24 := Tryz.sizeOf304
 v24 := Tryz.zeroValue304
 i24 := by kernel_rfl
 t25 := Tryz.underlying380
 a25 := Tryz.isAgg380
 z25 := Tryz.sizeOf380
 v25 := Tryz.zeroValue380
 i25 := by kernel_rfl
 t34 := Tryz.underlying392
 a34 := Tryz.isAgg392
 z34 := Tryz.sizeOf392
 v34 := Tryz.zeroValue392
 i34 := by kernel_rfl
 c34 := by kernel_rfl
 t36 := Tryz.underlying212
 a36 := Tryz.isAgg212
 z36 := Tryz.sizeOf212
 v36 := Tryz.zeroValue212
 i36 := by kernel_rfl
 t37 := Tryz.underlying146
 a37 := Tryz.isAgg146
 z37 := Tryz.sizeOf146
 v37 := Tryz.zeroValue146
 i37 := by kernel_rfl
 t39 := Tryz.underlying395
 a39 := Tryz.isAgg395
 z39 := Tryz.sizeOf395
 v39 := Tryz.zeroValue395
 i39 := by kernel_rfl
 t44 := Tryz.underlying414
 a44 := Tryz.isAgg414
 z44 := Tryz.sizeOf414
 v44 := Tryz.zeroValue414
 i44 := by kernel_rfl
 t47 := Tryz.underlying411
 a47 := Tryz.isAgg411
 z47 := Tryz.sizeOf411
 v47 := Tryz.zeroValue411
 i47 := by kernel_rfl
 t48 := Tryz.underlying425
 a48 := Tryz.isAgg425
 z48 := Tryz.sizeOf425
 v48 := Tryz.zeroValue425
 i48 := by kernel_rfl
 t50 := Tryz.underlying427
 a50 := Tryz.isAgg427
 z50 := Tryz.sizeOf427
 v50 := Tryz.zeroValue427
 i50 := by kernel_rfl
 t52 := Tryz.underlying398
 a52 := Tryz.isAgg398
 z52 := Tryz.sizeOf398
 v52 := Tryz.zeroValue398
 i52 := by kernel_rfl
 t55 := Tryz.underlying400
 a55 := Tryz.isAgg400
 z55 := Tryz.sizeOf400
 v55 := Tryz.zeroValue400
 i55 := by kernel_rfl
 t59 := Tryz.underlying418
 a59 := Tryz.isAgg418
 z59 := Tryz.sizeOf418
 v59 := Tryz.zeroValue418
 i59 := by kernel_rfl
 t60 := Tryz.underlying276
 a60 := Tryz.isAgg276
 z60 := Tryz.sizeOf276
 v60 := Tryz.zeroValue276
 i60 := by kernel_rfl
 t61 := Tryz.underlying419
 a61 := Tryz.isAgg419
 z61 := Tryz.sizeOf419
 t65 := Tryz.underlying434
 a65 := Tryz.isAgg434
 z65 := Tryz.sizeOf434
 v65 := Tryz.zeroValue434
 i65 := by kernel_rfl
 t66 := Tryz.underlying435
 a66 := Tryz.isAgg435
 z66 := Tryz.sizeOf435
 v66 := Tryz.zeroValue435
 i66 := by kernel_rfl
 t67 := Tryz.underlying391
 a67 := Tryz.isAgg391
 z67 := Tryz.sizeOf391
 v67 := Tryz.zeroValue391
 i67 := by kernel_rfl
 g0 := by kernel_rfl
 m0 := by kernel_rfl
 g1 := by kernel_rfl
 m1 := by kernel_rfl
 g2 := by kernel_rfl
 m2 := by kernel_rfl
 g3 := by kernel_rfl
 m3 := by kernel_rfl
 g4 := by kernel_rfl
 m4 := by kernel_rfl }
theorem parseUintM_valF : ∀ (l : List UInt8) (a : Nat),l.all isD = true → (a + 1) * 10 ^ l.length ≤ 1000000000000000000 → Lib.parseUintM (2 ^ 64 - 1) a l = .ok (valF a l)
 | [],a,_,_ => by rw [valF_nil]; rfl
 | c :: r,a,h,hb => by
  simp only [List.all_cons,Bool.and_eq_true] at h
  have hd := isD_lt h.1
  have hc : 48 ≤ c.toNat ∧ c.toNat ≤ 57 := by have := h.1; unfold isD at this; simpa using this
  rw [List.length_cons,Nat.pow_succ] at hb
  have hp : 1 ≤ 10 ^ r.length := Nat.one_le_pow _ _ (by omega)
  have h1 : (a + 1) * (10 ^ r.length * 10) = (10 * a + 10) * 10 ^ r.length := by rw [Nat.mul_comm (10 ^ r.length) 10,← Nat.mul_assoc]; congr 1; omega
  rw [h1] at hb
  have h2 : (10 * a + 10) * 1 ≤ (10 * a + 10) * 10 ^ r.length := Nat.mul_le_mul_left _ hp
  have e : a * 10 + (c.toNat - 48) = 10 * a + (c.toNat - 48) := by omega
  unfold Lib.parseUintM
  rw [if_pos hc,if_neg (by omega),if_neg (by omega),valF_cons,e]
  refine parseUintM_valF r _ h.2 (Nat.le_trans (Nat.mul_le_mul_right _ ?_) hb)
  omega
theorem Tryz.aParseUint (s : List UInt8) (hs : s ≠ []) (hd : s.all isD = true) (hl : s.length ≤ 18) (mem : Mem) : ACallsTo Tryz.prog 304 [.str s,.int .i64 10,.int .i64 64] mem (.tuple [.int .u64 (valD s : Nat),.nilIface]) mem :=
 ACallsTo.of_calls (Tryz.funOk _ Tryz.func304 (by kernel_rfl) (by kernel_rfl)) (Vs := [.string ⟨s.toArray⟩,.int .i64 10,.int .i64 64]) (fun μ n Us h => by simpa [VRels,VRel] using h) (V := .tuple #[.int .u64 (valD s : Nat),.nilIface]) (fun μ n => by simp only [VRel,VRels]; exact ⟨_,rfl,_,_,rfl,rfl,_,_,rfl,rfl,rfl⟩)
  (fun base w hG => (Any.strconv_ParseUint_10_at64_ok Tryz.laysParseUint ⟨s.toArray⟩ (by simp [ByteArray.size]; omega) (valD s) (by
   have hp : 10 ^ s.length ≤ 10 ^ 18 := Nat.pow_le_pow_right (by omega) hl
   have := parseUintM_valF s 0 hd (by omega)
   simp only [Lib.parseUintB]
   rw [if_neg (by simpa using hs)]
   exact this) w).mono fun e w' ⟨h1,h2⟩ => ⟨h1,by rcases h2 with rfl | rfl; exact Gentle.refl _; exact Tryz.gentle_bytes _ _ _⟩) mem
end Go.Proofs
namespace Go.Proofs
open Go.Eng Go.Shelf Go.RowKit Go.Sort
def Tryz.laysNumDigits_ren : Go.Shelf.Ren := ⟨fun | 284 => 319 | 129 => 158 | 317 => 344 | 318 => 345 | n => n,fun | 53 => 278 | 3 => 3 | 212 => 418 | 0 => 0 | 4 => 4 | 46 => 212 | 5 => 5 | 9 => 9 | n => n,fun | 17 => 3 | n => n⟩
theorem Tryz.laysNumDigits : Go.Proofs.LaysM.n284 Tryz.prog Tryz.laysNumDigits_ren := {
 mixed := by kernel_rfl
 f129 := Tryz.func158.trans (congrArg some (by kernel_rfl))
 f284 := Tryz.func319.trans (congrArg some (by kernel_rfl))
 f317 := Tryz.func344.trans (congrArg some (by kernel_rfl))
 f318 := Tryz.func345.trans (congrArg some (by kernel_rfl))
 t0 := Tryz.underlying0
 a0 := Tryz.isAgg0
 z0 := Tryz.sizeOf0
 v0 := Tryz.zeroValue0
 t3 := Tryz.underlying3
 a3 := Tryz.isAgg3
 z3 := Tryz.sizeOf3
 v3 := Tryz.zeroValue3
 t4 := Tryz.underlying4
 a4 := Tryz.isAgg4
 z4 := Tryz.sizeOf4
 v4 := Tryz.zeroValue4
 t5 := Tryz.underlying5
 a5 := Tryz.isAgg5
 z5 := Tryz.sizeOf5
 v5 := Tryz.zeroValue5
 t9 := Tryz.underlying9
 a9 := Tryz.isAgg9
 z9 := Tryz.sizeOf9
 v9 := Tryz.zeroValue9
 t46 := Tryz.underlying212
 a46 := Tryz.isAgg212
 z46 := Tryz.sizeOf212
 v46 := Tryz.zeroValue212
 t53 := Tryz.underlying278
 a53 := Tryz.isAgg278
 z53 := Tryz.sizeOf278
 v53 := Tryz.zeroValue278
 t212 := Tryz.underlying418
 a212 := Tryz.isAgg418
 z212 := Tryz.sizeOf418
 v212 := Tryz.zeroValue418
 g17 := by kernel_rfl
 i0 := by kernel_rfl
 i3 := by kernel_rfl
 i4 := by kernel_rfl
 i5 := by kernel_rfl
 i9 := by kernel_rfl
 i46 := by kernel_rfl
 i53 := by kernel_rfl
 i212 := by kernel_rfl
 m17 := by kernel_rfl }
def Tryz.laysFormatBase10_ren : Go.Shelf.Ren := ⟨fun | 285 => 320 | n => n,fun | 37 => 146 | 53 => 278 | 3 => 3 | 4 => 4 | 51 => 276 | 9 => 9 | 5 => 5 | 0 => 0 | n => n,fun | n => n⟩
theorem Tryz.laysFormatBase10 : Go.Proofs.Lays.n285 Tryz.prog Tryz.laysFormatBase10_ren := {
 mixed := by kernel_rfl
 f285 := Tryz.func320.trans (congrArg some (by kernel_rfl))
 t0 := Tryz.underlying0
 a0 := Tryz.isAgg0
 z0 := Tryz.sizeOf0
 v0 := Tryz.zeroValue0
 t3 := Tryz.underlying3
 a3 := Tryz.isAgg3
 z3 := Tryz.sizeOf3
 v3 := Tryz.zeroValue3
 t4 := Tryz.underlying4
 a4 := Tryz.isAgg4
 z4 := Tryz.sizeOf4
 v4 := Tryz.zeroValue4
 t5 := Tryz.underlying5
 a5 := Tryz.isAgg5
 z5 := Tryz.sizeOf5
 v5 := Tryz.zeroValue5
 t9 := Tryz.underlying9
 a9 := Tryz.isAgg9
 z9 := Tryz.sizeOf9
 v9 := Tryz.zeroValue9
 t37 := Tryz.underlying146
 a37 := Tryz.isAgg146
 z37 := Tryz.sizeOf146
 v37 := Tryz.zeroValue146
 t51 := Tryz.underlying276
 a51 := Tryz.isAgg276
 z51 := Tryz.sizeOf276
 v51 := Tryz.zeroValue276
 t53 := Tryz.underlying278
 a53 := Tryz.isAgg278
 z53 := Tryz.sizeOf278
 v53 := Tryz.zeroValue278 }
def Tryz.laysSmallNum_ren : Go.Shelf.Ren := ⟨fun | 283 => 318 | n => n,fun | 3 => 3 | 9 => 9 | 4 => 4 | n => n,fun | n => n⟩
theorem Tryz.laysSmallNum : Go.Proofs.Lays.n283 Tryz.prog Tryz.laysSmallNum_ren := {
 mixed := by kernel_rfl
 f283 := Tryz.func318.trans (congrArg some (by kernel_rfl))
 t3 := Tryz.underlying3
 a3 := Tryz.isAgg3
 z3 := Tryz.sizeOf3
 v3 := Tryz.zeroValue3
 t4 := Tryz.underlying4
 a4 := Tryz.isAgg4
 z4 := Tryz.sizeOf4
 v4 := Tryz.zeroValue4
 t9 := Tryz.underlying9
 a9 := Tryz.isAgg9
 z9 := Tryz.sizeOf9
 v9 := Tryz.zeroValue9 }
set_option maxHeartbeats 6400000 in
set_option maxRecDepth 100000 in
theorem Tryz.internal_FormatUint (u : Nat) (hu64 : u < 18446744073709551616) (w : World) (htab : ∀ s,itoaTab = s → Lib.TabIs Tryz.prog w s .u64 Lib.pow10Tab) :
  Calls Tryz.prog 341 #[.int .u64 u,.int .i64 10] w fun e w' => e = .returned (.string ⟨(Lib.decDigits u).toArray⟩) ∧ ∃ k os,w' = grow (w.drewN k) os := by
 by_cases hs : u < 100
 ·go_enter Tryz.func341,Tryz.ntmps341
  go_wp2_with (go_at_call 318; refine (Any.internal_strconv_small Tryz.laysSmallNum u hs _).mono ?_; rintro e w' ⟨rfl,rfl⟩)
  go_ret
  exact ⟨rfl,0,#[],by simp [World.drewN_zero]⟩
 ·have hu1 : 1 ≤ u := by omega
  have hnd20 : Lib.nDigits u ≤ 20 := by have := Lib.numDigits_eq u hu1 hu64; split at this <;> omega
  have hal : Tryz.prog.arrayLen 398 = 24 := by kernel_rfl
  have hsl1 : ∀ W,(Instr.sliceAt 398 (.pointer (some ⟨w.heap.size,0,none⟩)) none (some (.int .i64 (Lib.nDigits u : Int))) none).run Tryz.prog W = .ok (.slice (some ⟨w.heap.size,0,none⟩) (Lib.nDigits u) 24) W := fun W => by
   rw [run_sliceAt_array_h W 398 ⟨w.heap.size,0,none⟩ (by kernel_rfl) .i64 (Lib.nDigits u : Int) (by omega) (by rw [hal]; omega)]
   go_simp
  have hH0 := Lib.holds_zero0 w 398 (Lib.nDigits u) (by omega)
  have hfmt := Any.internal_strconv_formatBase10 Tryz.laysFormatBase10 w.heap.size 0 24 u (Array.replicate (Lib.nDigits u) 0) (w.alloc (.cells Lib.zeros24 398)) hH0 (by rw [Array.size_replicate]; exact Lib.lt_pow_nDigits u) hu64 (by rw [Array.size_replicate]; omega)
  rw [Array.size_replicate] at hfmt
  have HH0 := Lib.hid hH0
  clear hH0 hal
  go_enter Tryz.func341,Tryz.ntmps341
  go_wp2_with (first
   | (go_at_call 319; refine (Any.internal_strconv_numDigits Tryz.laysNumDigits u hu1 hu64 _ (Lib.tabIs_alloc (htab _ (by kernel_rfl)) _)).mono ?_; rintro e w' ⟨rfl,rfl⟩))
  go_at_call 320
  refine hfmt.mono ?_
  rintro e w' ⟨rfl,k,v',dk,rfl,hF⟩
  have hcv : (convert 146 9 (.slice (some ⟨w.heap.size,0,none⟩) (Lib.nDigits u) 24)).run Tryz.prog ((putRow (fun (b : UInt8) => Value.int .u8 (b.toNat : Int)) (w.alloc (.cells Lib.zeros24 398)) w.heap.size 0 dk).drewN k) = .ok (.string ⟨(Lib.decDigits u).toArray⟩) ((putRow (fun (b : UInt8) => Value.int .u8 (b.toNat : Int)) (w.alloc (.cells Lib.zeros24 398)) w.heap.size 0 dk).drewN k) := by
   have h := run_convert_bytes_back (P := Tryz.prog) ((putRow (fun (b : UInt8) => Value.int .u8 (b.toNat : Int)) (w.alloc (.cells Lib.zeros24 398)) w.heap.size 0 dk).drewN k) 146 9 5 ⟨w.heap.size,0,none⟩ 24 (Lib.decDigits u) (by kernel_rfl) (by kernel_rfl) (by kernel_rfl) (fun j hj => by
    rw [Lib.row_is_numeral hF j hj,Lib.add_plain,World.cell?_drewN]
    exact cell?_putRow (fun (b : UInt8) => Value.int .u8 (b.toNat : Int)) _ w.heap.size 0 _ dk HH0.out (by rw [hF.size,Array.size_replicate]) j (by rw [hF.size]; rw [Lib.decDigits_length] at hj; exact hj))
   rw [Lib.decDigits_length] at h
   exact h
  go_wp2
  go_ret
  obtain ⟨os,eo⟩ := Lib.fin_at w (.cells Lib.zeros24 398) dk k 0
  exact ⟨rfl,k,os,eo⟩
set_option maxHeartbeats 2000000 in
set_option maxRecDepth 100000 in
theorem Tryz.strconv_FormatUint (u : Nat) (hu64 : u < 18446744073709551616) (w : World) (htab : ∀ s,itoaTab = s → Lib.TabIs Tryz.prog w s .u64 Lib.pow10Tab) :
  Calls Tryz.prog 308 #[.int .u64 u,.int .i64 10] w fun e w' => e = .returned (.string ⟨(Lib.decDigits u).toArray⟩) ∧ ∃ k os,w' = grow (w.drewN k) os := by
 go_enter Tryz.func308,Tryz.ntmps308
 go_wp2_with (go_at_call 341; refine (Tryz.internal_FormatUint u hu64 _ htab).mono ?_; rintro e w' ⟨rfl,hw⟩)
 go_ret
 exact ⟨rfl,hw⟩
theorem Tryz.aFormatUint (u : Nat) (hu : u < 18446744073709551616) (mem : Mem) : ACallsTo Tryz.prog 308 [.int .u64 u,.int .i64 10] mem (.str (natD u)) mem :=
 ACallsTo.of_calls (Tryz.funOk _ Tryz.func308 (by kernel_rfl) (by kernel_rfl)) (Vs := [.int .u64 u,.int .i64 10]) (fun μ n Us h => by simpa [VRels,VRel] using h) (V := .string ⟨(natD u).toArray⟩) (fun μ n => by simp [VRel])
  (fun base w hG => (Tryz.strconv_FormatUint u hu w fun _ hs => hG.tabOf hs).mono fun e w' ⟨h1,k,os,h2⟩ => ⟨by rw [h1,natD_eq],h2 ▸ Gentle.grow w k os⟩) mem
end Go.Proofs
