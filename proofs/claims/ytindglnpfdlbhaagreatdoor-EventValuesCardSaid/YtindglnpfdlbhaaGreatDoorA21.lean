/- Part A21 of a proof: see its last part, YtindglnpfdlbhaaGreatDoorA51.lean. -/
import Derived.Test.YtindglnpfdlbhaaGreatDoorA13
import Derived.Shelf.Strconv.Itoa3
import Derived.Shelf.Pu.ParseUintPublic10
import Derived.Ground.NamesProg
import Derived.Ground.MpProg
import Derived.Test.YtindglnpfdlbhaaGreatDoorProg
import Derived.Lib.AppendIntMem
set_option linter.all false
namespace Go.Proofs
open Go.Eng Go.Shelf
def Tryz.laysParseUint_ren : Go.Shelf.Ren := ⟨fun | 14 => 259 | 16 => 293 | 17 => 292 | 19 => 307 | 20 => 308 | 21 => 303 | 22 => 304 | 23 => 305 | 24 => 306 | 25 => 315 | 27 => 199 | 26 => 316 | 28 => 273 | 29 => 297 | 30 => 310 | 31 => 311 | 32 => 312 | 33 => 313 | 35 => 318 | 34 => 317 | 36 => 319 | 37 => 320 | 38 => 321 | 39 => 324 | 40 => 325 | n => n, fun | 9 => 9 | 3 => 3 | 22 => 288 | 24 => 285 | 25 => 289 | 4 => 4 | 34 => 331 | 5 => 5 | 36 => 319 | 37 => 298 | 0 => 0 | 39 => 334 | 21 => 21 | 44 => 348 | 47 => 322 | 50 => 360 | 48 => 358 | 2 => 2 | 52 => 340 | 55 => 343 | 59 => 351 | 60 => 328 | 20 => 20 | 61 => 352 | 65 => 362 | 66 => 363 | 67 => 303 | n => n, fun | 0 => 1 | 1 => 2 | 2 => 3 | 3 => 4 | 4 => 5 | n => n⟩
theorem Tryz.laysParseUint : Go.Proofs.LaysPu.n14 Tryz.prog Tryz.laysParseUint_ren := {
  mixed := by kernel_rfl
  f14 := Tryz.func259.trans (congrArg some (by kernel_rfl))
  f16 := Tryz.func293.trans (congrArg some (by kernel_rfl))
  f17 := Tryz.func292.trans (congrArg some (by kernel_rfl))
  f19 := Tryz.func307.trans (congrArg some (by kernel_rfl))
  f20 := Tryz.func308.trans (congrArg some (by kernel_rfl))
  f21 := Tryz.func303.trans (congrArg some (by kernel_rfl))
  f22 := Tryz.func304.trans (congrArg some (by kernel_rfl))
  f23 := Tryz.func305.trans (congrArg some (by kernel_rfl))
  f24 := Tryz.func306.trans (congrArg some (by kernel_rfl))
  f25 := Tryz.func315.trans (congrArg some (by kernel_rfl))
  f26 := Tryz.func316.trans (congrArg some (by kernel_rfl))
  f27 := Tryz.func199.trans (congrArg some (by kernel_rfl))
  f28 := Tryz.func273.trans (congrArg some (by kernel_rfl))
  f29 := Tryz.func297.trans (congrArg some (by kernel_rfl))
  f30 := Tryz.func310.trans (congrArg some (by kernel_rfl))
  f31 := Tryz.func311.trans (congrArg some (by kernel_rfl))
  f32 := Tryz.func312.trans (congrArg some (by kernel_rfl))
  f33 := Tryz.func313.trans (congrArg some (by kernel_rfl))
  f34 := Tryz.func317.trans (congrArg some (by kernel_rfl))
  f35 := Tryz.func318.trans (congrArg some (by kernel_rfl))
  f36 := Tryz.func319.trans (congrArg some (by kernel_rfl))
  f37 := Tryz.func320.trans (congrArg some (by kernel_rfl))
  f38 := Tryz.func321.trans (congrArg some (by kernel_rfl))
  f39 := Tryz.func324.trans (congrArg some (by kernel_rfl))
  f40 := Tryz.func325.trans (congrArg some (by kernel_rfl))
  t0 := Tryz.underlying0
  a0 := Tryz.isAgg0
  z0 := Tryz.sizeOf0
  v0 := Tryz.zeroValue0
  i0 := by kernel_rfl
  t2 := Tryz.underlying2
  a2 := Tryz.isAgg2
  z2 := Tryz.sizeOf2
  v2 := Tryz.zeroValue2
  i2 := by kernel_rfl
  t3 := Tryz.underlying3
  a3 := Tryz.isAgg3
  z3 := Tryz.sizeOf3
  v3 := Tryz.zeroValue3
  i3 := by kernel_rfl
  t4 := Tryz.underlying4
  a4 := Tryz.isAgg4
  z4 := Tryz.sizeOf4
  v4 := Tryz.zeroValue4
  i4 := by kernel_rfl
  t5 := Tryz.underlying5
  a5 := Tryz.isAgg5
  z5 := Tryz.sizeOf5
  v5 := Tryz.zeroValue5
  i5 := by kernel_rfl
  t9 := Tryz.underlying9
  a9 := Tryz.isAgg9
  z9 := Tryz.sizeOf9
  v9 := Tryz.zeroValue9
  i9 := by kernel_rfl
  t20 := Tryz.underlying20
  a20 := Tryz.isAgg20
  z20 := Tryz.sizeOf20
  v20 := Tryz.zeroValue20
  i20 := by kernel_rfl
  t21 := Tryz.underlying21
  a21 := Tryz.isAgg21
  z21 := Tryz.sizeOf21
  v21 := Tryz.zeroValue21
  i21 := by kernel_rfl
  t22 := Tryz.underlying288
  a22 := Tryz.isAgg288
  z22 := Tryz.sizeOf288
  v22 := Tryz.zeroValue288
  i22 := by kernel_rfl
  t24 := Tryz.underlying285
  a24 := Tryz.isAgg285
  z24 := Tryz.sizeOf285
  v24 := Tryz.zeroValue285
  i24 := by kernel_rfl
  t25 := Tryz.underlying289
  a25 := Tryz.isAgg289
  z25 := Tryz.sizeOf289
  v25 := Tryz.zeroValue289
  i25 := by kernel_rfl
  t34 := Tryz.underlying331
  a34 := Tryz.isAgg331
  z34 := Tryz.sizeOf331
  v34 := Tryz.zeroValue331
  i34 := by kernel_rfl
  c34 := by kernel_rfl
  t36 := Tryz.underlying319
  a36 := Tryz.isAgg319
  z36 := Tryz.sizeOf319
  v36 := Tryz.zeroValue319
  i36 := by kernel_rfl
  t37 := Tryz.underlying298
  a37 := Tryz.isAgg298
  z37 := Tryz.sizeOf298
  v37 := Tryz.zeroValue298
  i37 := by kernel_rfl
  t39 := Tryz.underlying334
  a39 := Tryz.isAgg334
  z39 := Tryz.sizeOf334
  v39 := Tryz.zeroValue334
  i39 := by kernel_rfl
  t44 := Tryz.underlying348
  a44 := Tryz.isAgg348
  z44 := Tryz.sizeOf348
  v44 := Tryz.zeroValue348
  i44 := by kernel_rfl
  t47 := Tryz.underlying322
  a47 := Tryz.isAgg322
  z47 := Tryz.sizeOf322
  v47 := Tryz.zeroValue322
  i47 := by kernel_rfl
  t48 := Tryz.underlying358
  a48 := Tryz.isAgg358
  z48 := Tryz.sizeOf358
  v48 := Tryz.zeroValue358
  i48 := by kernel_rfl
  t50 := Tryz.underlying360
  a50 := Tryz.isAgg360
  z50 := Tryz.sizeOf360
  v50 := Tryz.zeroValue360
  i50 := by kernel_rfl
  t52 := Tryz.underlying340
  a52 := Tryz.isAgg340
  z52 := Tryz.sizeOf340
  v52 := Tryz.zeroValue340
  i52 := by kernel_rfl
  t55 := Tryz.underlying343
  a55 := Tryz.isAgg343
  z55 := Tryz.sizeOf343
  v55 := Tryz.zeroValue343
  i55 := by kernel_rfl
  t59 := Tryz.underlying351
  a59 := Tryz.isAgg351
  z59 := Tryz.sizeOf351
  v59 := Tryz.zeroValue351
  i59 := by kernel_rfl
  t60 := Tryz.underlying328
  a60 := Tryz.isAgg328
  z60 := Tryz.sizeOf328
  v60 := Tryz.zeroValue328
  i60 := by kernel_rfl
  t61 := Tryz.underlying352
  a61 := Tryz.isAgg352
  z61 := Tryz.sizeOf352
  t65 := Tryz.underlying362
  a65 := Tryz.isAgg362
  z65 := Tryz.sizeOf362
  v65 := Tryz.zeroValue362
  i65 := by kernel_rfl
  t66 := Tryz.underlying363
  a66 := Tryz.isAgg363
  z66 := Tryz.sizeOf363
  v66 := Tryz.zeroValue363
  i66 := by kernel_rfl
  t67 := Tryz.underlying303
  a67 := Tryz.isAgg303
  z67 := Tryz.sizeOf303
  v67 := Tryz.zeroValue303
  i67 := by kernel_rfl
  g0 := by kernel_rfl
  m0 := by kernel_rfl
  g1 := by kernel_rfl
  m1 := by kernel_rfl
  g2 := by kernel_rfl
  m2 := by kernel_rfl
  g3 := by kernel_rfl
  m3 := by kernel_rfl
  g4 := by kernel_rfl
  m4 := by kernel_rfl }
theorem parseUintM_valF : ∀ (l : List UInt8) (a : Nat), l.all isD = true → (a + 1) * 10 ^ l.length ≤ 1000000000000000000 → Lib.parseUintM (2 ^ 64 - 1) a l = .ok (valF a l)
  | [], a, _, _ => by rw [valF_nil]; rfl
  | c :: r, a, h, hb => by
    simp only [List.all_cons, Bool.and_eq_true] at h
    have hd := isD_lt h.1
    have hc : 48 ≤ c.toNat ∧ c.toNat ≤ 57 := by have := h.1; unfold isD at this; simpa using this
    rw [List.length_cons, Nat.pow_succ] at hb
    have hp : 1 ≤ 10 ^ r.length := Nat.one_le_pow _ _ (by omega)
    have h1 : (a + 1) * (10 ^ r.length * 10) = (10 * a + 10) * 10 ^ r.length := by rw [Nat.mul_comm (10 ^ r.length) 10, ← Nat.mul_assoc]; congr 1; omega
    rw [h1] at hb
    have h2 : (10 * a + 10) * 1 ≤ (10 * a + 10) * 10 ^ r.length := Nat.mul_le_mul_left _ hp
    have e : a * 10 + (c.toNat - 48) = 10 * a + (c.toNat - 48) := by omega
    unfold Lib.parseUintM
    rw [if_pos hc, if_neg (by omega), if_neg (by omega), valF_cons, e]
    refine parseUintM_valF r _ h.2 (Nat.le_trans (Nat.mul_le_mul_right _ ?_) hb)
    omega
theorem Tryz.aParseUint (s : List UInt8) (hs : s ≠ []) (hd : s.all isD = true) (hl : s.length ≤ 18) (mem : Mem) : ACallsTo Tryz.prog 259 [.str s, .int .i64 10, .int .i64 64] mem (.tuple [.int .u64 (valD s : Nat), .nilIface]) mem :=
  ACallsTo.of_calls (Tryz.funOk _ Tryz.func259 (by kernel_rfl) (by kernel_rfl)) (Vs := [.string ⟨s.toArray⟩, .int .i64 10, .int .i64 64]) (fun μ n Us h => by simpa [VRels, VRel] using h) (V := .tuple #[.int .u64 (valD s : Nat), .nilIface]) (fun μ n => by simp only [VRel, VRels]; exact ⟨_, rfl, _, _, rfl, rfl, _, _, rfl, rfl, rfl⟩)
    (fun base w hG => (Any.strconv_ParseUint_10_at64_ok Tryz.laysParseUint ⟨s.toArray⟩ (by simp [ByteArray.size]; omega) (valD s) (by
      have hp : 10 ^ s.length ≤ 10 ^ 18 := Nat.pow_le_pow_right (by omega) hl
      have := parseUintM_valF s 0 hd (by omega)
      simp only [Lib.parseUintB]
      rw [if_neg (by simpa using hs)]
      exact this) w).mono fun e w' ⟨h1, h2⟩ => ⟨h1, by rcases h2 with rfl | rfl; exact Gentle.refl _; exact Tryz.gentle_bytes _ _ _⟩) mem
end Go.Proofs
namespace Go.Proofs
open Go.Eng Go.Shelf Go.RowKit Go.Sort
def Tryz.laysNumDigits_ren : Go.Shelf.Ren := ⟨fun | 284 => 311 | 129 => 318 | 317 => 317 | 318 => 319 | n => n, fun | 53 => 288 | 3 => 3 | 212 => 351 | 0 => 0 | 4 => 4 | 46 => 319 | 5 => 5 | 9 => 9 | n => n, fun | 17 => 3 | n => n⟩
theorem Tryz.laysNumDigits : Go.Proofs.LaysM.n284 Tryz.prog Tryz.laysNumDigits_ren := {
  mixed := by kernel_rfl
  f129 := Tryz.func318.trans (congrArg some (by kernel_rfl))
  f284 := Tryz.func311.trans (congrArg some (by kernel_rfl))
  f317 := Tryz.func317.trans (congrArg some (by kernel_rfl))
  f318 := Tryz.func319.trans (congrArg some (by kernel_rfl))
  t0 := Tryz.underlying0
  a0 := Tryz.isAgg0
  z0 := Tryz.sizeOf0
  v0 := Tryz.zeroValue0
  t3 := Tryz.underlying3
  a3 := Tryz.isAgg3
  z3 := Tryz.sizeOf3
  v3 := Tryz.zeroValue3
  t4 := Tryz.underlying4
  a4 := Tryz.isAgg4
  z4 := Tryz.sizeOf4
  v4 := Tryz.zeroValue4
  t5 := Tryz.underlying5
  a5 := Tryz.isAgg5
  z5 := Tryz.sizeOf5
  v5 := Tryz.zeroValue5
  t9 := Tryz.underlying9
  a9 := Tryz.isAgg9
  z9 := Tryz.sizeOf9
  v9 := Tryz.zeroValue9
  t46 := Tryz.underlying319
  a46 := Tryz.isAgg319
  z46 := Tryz.sizeOf319
  v46 := Tryz.zeroValue319
  t53 := Tryz.underlying288
  a53 := Tryz.isAgg288
  z53 := Tryz.sizeOf288
  v53 := Tryz.zeroValue288
  t212 := Tryz.underlying351
  a212 := Tryz.isAgg351
  z212 := Tryz.sizeOf351
  v212 := Tryz.zeroValue351
  g17 := by kernel_rfl
  i0 := by kernel_rfl
  i3 := by kernel_rfl
  i4 := by kernel_rfl
  i5 := by kernel_rfl
  i9 := by kernel_rfl
  i46 := by kernel_rfl
  i53 := by kernel_rfl
  i212 := by kernel_rfl
  m17 := by kernel_rfl }
def Tryz.laysFormatBase10_ren : Go.Shelf.Ren := ⟨fun | 285 => 312 | n => n, fun | 37 => 298 | 53 => 288 | 3 => 3 | 4 => 4 | 51 => 328 | 9 => 9 | 5 => 5 | 0 => 0 | n => n, fun | n => n⟩
theorem Tryz.laysFormatBase10 : Go.Proofs.Lays.n285 Tryz.prog Tryz.laysFormatBase10_ren := {
  mixed := by kernel_rfl
  f285 := Tryz.func312.trans (congrArg some (by kernel_rfl))
  t0 := Tryz.underlying0
  a0 := Tryz.isAgg0
  z0 := Tryz.sizeOf0
  v0 := Tryz.zeroValue0
  t3 := Tryz.underlying3
  a3 := Tryz.isAgg3
  z3 := Tryz.sizeOf3
  v3 := Tryz.zeroValue3
  t4 := Tryz.underlying4
  a4 := Tryz.isAgg4
  z4 := Tryz.sizeOf4
  v4 := Tryz.zeroValue4
  t5 := Tryz.underlying5
  a5 := Tryz.isAgg5
  z5 := Tryz.sizeOf5
  v5 := Tryz.zeroValue5
  t9 := Tryz.underlying9
  a9 := Tryz.isAgg9
  z9 := Tryz.sizeOf9
  v9 := Tryz.zeroValue9
  t37 := Tryz.underlying298
  a37 := Tryz.isAgg298
  z37 := Tryz.sizeOf298
  v37 := Tryz.zeroValue298
  t51 := Tryz.underlying328
  a51 := Tryz.isAgg328
  z51 := Tryz.sizeOf328
  v51 := Tryz.zeroValue328
  t53 := Tryz.underlying288
  a53 := Tryz.isAgg288
  z53 := Tryz.sizeOf288
  v53 := Tryz.zeroValue288 }
def Tryz.laysSmallNum_ren : Go.Shelf.Ren := ⟨fun | 283 => 310 | n => n, fun | 3 => 3 | 9 => 9 | 4 => 4 | n => n, fun | n => n⟩
theorem Tryz.laysSmallNum : Go.Proofs.Lays.n283 Tryz.prog Tryz.laysSmallNum_ren := {
  mixed := by kernel_rfl
  f283 := Tryz.func310.trans (congrArg some (by kernel_rfl))
  t3 := Tryz.underlying3
  a3 := Tryz.isAgg3
  z3 := Tryz.sizeOf3
  v3 := Tryz.zeroValue3
  t4 := Tryz.underlying4
  a4 := Tryz.isAgg4
  z4 := Tryz.sizeOf4
  v4 := Tryz.zeroValue4
  t9 := Tryz.underlying9
  a9 := Tryz.isAgg9
  z9 := Tryz.sizeOf9
  v9 := Tryz.zeroValue9 }
set_option maxHeartbeats 6400000 in
set_option maxRecDepth 100000 in
theorem Tryz.internal_FormatUint (u : Nat) (hu64 : u < 18446744073709551616) (w : World) (htab : ∀ s, itoaTab = s → Lib.TabIs Tryz.prog w s .u64 Lib.pow10Tab) :
    Calls Tryz.prog 296 #[.int .u64 u, .int .i64 10] w fun e w' => e = .returned (.string ⟨(Lib.decDigits u).toArray⟩) ∧ ∃ k os, w' = grow (w.drewN k) os := by
  by_cases hs : u < 100
  · go_enter Tryz.func296, Tryz.ntmps296
    go_wp2_with (go_at_call 310; refine (Any.internal_strconv_small Tryz.laysSmallNum u hs _).mono ?_; rintro e w' ⟨rfl, rfl⟩)
    go_ret
    exact ⟨rfl, 0, #[], by simp [World.drewN_zero]⟩
  · have hu1 : 1 ≤ u := by omega
    have hnd20 : Lib.nDigits u ≤ 20 := by have := Lib.numDigits_eq u hu1 hu64; split at this <;> omega
    have hal : Tryz.prog.arrayLen 340 = 24 := by kernel_rfl
    have hsl1 : ∀ W, (Instr.sliceAt 340 (.pointer (some ⟨w.heap.size, 0, none⟩)) none (some (.int .i64 (Lib.nDigits u : Int))) none).run Tryz.prog W = .ok (.slice (some ⟨w.heap.size, 0, none⟩) (Lib.nDigits u) 24) W := fun W => by
      rw [run_sliceAt_array_h W 340 ⟨w.heap.size, 0, none⟩ (by kernel_rfl) .i64 (Lib.nDigits u : Int) (by omega) (by rw [hal]; omega)]
      go_simp
    have hH0 := Lib.holds_zero0 w 340 (Lib.nDigits u) (by omega)
    have hfmt := Any.internal_strconv_formatBase10 Tryz.laysFormatBase10 w.heap.size 0 24 u (Array.replicate (Lib.nDigits u) 0) (w.alloc (.cells Lib.zeros24 340)) hH0 (by rw [Array.size_replicate]; exact Lib.lt_pow_nDigits u) hu64 (by rw [Array.size_replicate]; omega)
    rw [Array.size_replicate] at hfmt
    have HH0 := Lib.hid hH0
    clear hH0 hal
    go_enter Tryz.func296, Tryz.ntmps296
    go_wp2_with (first
      | (go_at_call 311; refine (Any.internal_strconv_numDigits Tryz.laysNumDigits u hu1 hu64 _ (Lib.tabIs_alloc (htab _ (by kernel_rfl)) _)).mono ?_; rintro e w' ⟨rfl, rfl⟩))
    go_at_call 312
    refine hfmt.mono ?_
    rintro e w' ⟨rfl, k, v', dk, rfl, hF⟩
    have hcv : (convert 298 9 (.slice (some ⟨w.heap.size, 0, none⟩) (Lib.nDigits u) 24)).run Tryz.prog ((putRow (fun (b : UInt8) => Value.int .u8 (b.toNat : Int)) (w.alloc (.cells Lib.zeros24 340)) w.heap.size 0 dk).drewN k) = .ok (.string ⟨(Lib.decDigits u).toArray⟩) ((putRow (fun (b : UInt8) => Value.int .u8 (b.toNat : Int)) (w.alloc (.cells Lib.zeros24 340)) w.heap.size 0 dk).drewN k) := by
      have h := run_convert_bytes_back (P := Tryz.prog) ((putRow (fun (b : UInt8) => Value.int .u8 (b.toNat : Int)) (w.alloc (.cells Lib.zeros24 340)) w.heap.size 0 dk).drewN k) 298 9 5 ⟨w.heap.size, 0, none⟩ 24 (Lib.decDigits u) (by kernel_rfl) (by kernel_rfl) (by kernel_rfl) (fun j hj => by
        rw [Lib.row_is_numeral hF j hj, Lib.add_plain, World.cell?_drewN]
        exact cell?_putRow (fun (b : UInt8) => Value.int .u8 (b.toNat : Int)) _ w.heap.size 0 _ dk HH0.out (by rw [hF.size, Array.size_replicate]) j (by rw [hF.size]; rw [Lib.decDigits_length] at hj; exact hj))
      rw [Lib.decDigits_length] at h
      exact h
    go_wp2
    go_ret
    obtain ⟨os, eo⟩ := Lib.fin_at w (.cells Lib.zeros24 340) dk k 0
    exact ⟨rfl, k, os, eo⟩
set_option maxHeartbeats 2000000 in
set_option maxRecDepth 100000 in
theorem Tryz.strconv_FormatUint (u : Nat) (hu64 : u < 18446744073709551616) (w : World) (htab : ∀ s, itoaTab = s → Lib.TabIs Tryz.prog w s .u64 Lib.pow10Tab) :
    Calls Tryz.prog 266 #[.int .u64 u, .int .i64 10] w fun e w' => e = .returned (.string ⟨(Lib.decDigits u).toArray⟩) ∧ ∃ k os, w' = grow (w.drewN k) os := by
  go_enter Tryz.func266, Tryz.ntmps266
  go_wp2_with (go_at_call 296; refine (Tryz.internal_FormatUint u hu64 _ htab).mono ?_; rintro e w' ⟨rfl, hw⟩)
  go_ret
  exact ⟨rfl, hw⟩
theorem Tryz.aFormatUint (u : Nat) (hu : u < 18446744073709551616) (mem : Mem) : ACallsTo Tryz.prog 266 [.int .u64 u, .int .i64 10] mem (.str (natD u)) mem :=
  ACallsTo.of_calls (Tryz.funOk _ Tryz.func266 (by kernel_rfl) (by kernel_rfl)) (Vs := [.int .u64 u, .int .i64 10]) (fun μ n Us h => by simpa [VRels, VRel] using h) (V := .string ⟨(natD u).toArray⟩) (fun μ n => by simp [VRel])
    (fun base w hG => (Tryz.strconv_FormatUint u hu w fun _ hs => hG.tabOf hs).mono fun e w' ⟨h1, k, os, h2⟩ => ⟨by rw [h1, natD_eq], h2 ▸ Gentle.grow w k os⟩) mem
end Go.Proofs
