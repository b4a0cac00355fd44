/- Part A13 of a proof: see its last part, YtindglnpfdlbhaaGreatDoorA51.lean. -/
import Derived.Test.YtindglnpfdlbhaaGreatDoorA11
import Derived.Test.YtindglnpfdlbhaaGreatDoorA10
import Derived.Test.YtindglnpfdlbhaaGreatDoorA12
import Derived.Shelf.Strconv.Itoa3
import Derived.Shelf.Strconv.Atoi
import Derived.Ground.NamesProg
import Derived.Test.YtindglnpfdlbhaaGreatDoorProg
set_option linter.all false
namespace Go.Proofs
open Go.Eng Go.Shelf
def Tryz.laysItoa_ren : Go.Shelf.Ren := ⟨fun | 171 => 199 | 243 => 273 | 246 => 297 | 283 => 310 | 284 => 311 | 285 => 312 | 286 => 313 | 129 => 318 | 317 => 317 | 318 => 319 | 319 => 320 | 320 => 321 | 337 => 324 | 338 => 325 | n => n, fun | 3 => 3 | 9 => 9 | 2 => 2 | 4 => 4 | 171 => 340 | 0 => 0 | 53 => 288 | 37 => 298 | 5 => 5 | 173 => 343 | 212 => 351 | 51 => 328 | 20 => 20 | 213 => 352 | 46 => 319 | 232 => 362 | 233 => 363 | n => n, fun | 17 => 3 | 18 => 4 | 19 => 5 | n => n⟩
theorem Tryz.laysItoa : Go.Proofs.LaysM.n171 Tryz.prog Tryz.laysItoa_ren := {
  mixed := by kernel_rfl
  f129 := Tryz.func318.trans (congrArg some (by kernel_rfl))
  f171 := Tryz.func199.trans (congrArg some (by kernel_rfl))
  f243 := Tryz.func273.trans (congrArg some (by kernel_rfl))
  f246 := Tryz.func297.trans (congrArg some (by kernel_rfl))
  f283 := Tryz.func310.trans (congrArg some (by kernel_rfl))
  f284 := Tryz.func311.trans (congrArg some (by kernel_rfl))
  f285 := Tryz.func312.trans (congrArg some (by kernel_rfl))
  f286 := Tryz.func313.trans (congrArg some (by kernel_rfl))
  f317 := Tryz.func317.trans (congrArg some (by kernel_rfl))
  f318 := Tryz.func319.trans (congrArg some (by kernel_rfl))
  f319 := Tryz.func320.trans (congrArg some (by kernel_rfl))
  f320 := Tryz.func321.trans (congrArg some (by kernel_rfl))
  f337 := Tryz.func324.trans (congrArg some (by kernel_rfl))
  f338 := Tryz.func325.trans (congrArg some (by kernel_rfl))
  t0 := Tryz.underlying0
  a0 := Tryz.isAgg0
  z0 := Tryz.sizeOf0
  v0 := Tryz.zeroValue0
  t2 := Tryz.underlying2
  a2 := Tryz.isAgg2
  z2 := Tryz.sizeOf2
  v2 := Tryz.zeroValue2
  t3 := Tryz.underlying3
  a3 := Tryz.isAgg3
  z3 := Tryz.sizeOf3
  v3 := Tryz.zeroValue3
  t4 := Tryz.underlying4
  a4 := Tryz.isAgg4
  z4 := Tryz.sizeOf4
  v4 := Tryz.zeroValue4
  t5 := Tryz.underlying5
  a5 := Tryz.isAgg5
  z5 := Tryz.sizeOf5
  v5 := Tryz.zeroValue5
  t9 := Tryz.underlying9
  a9 := Tryz.isAgg9
  z9 := Tryz.sizeOf9
  v9 := Tryz.zeroValue9
  t20 := Tryz.underlying20
  a20 := Tryz.isAgg20
  z20 := Tryz.sizeOf20
  v20 := Tryz.zeroValue20
  t37 := Tryz.underlying298
  a37 := Tryz.isAgg298
  z37 := Tryz.sizeOf298
  v37 := Tryz.zeroValue298
  t46 := Tryz.underlying319
  a46 := Tryz.isAgg319
  z46 := Tryz.sizeOf319
  v46 := Tryz.zeroValue319
  t51 := Tryz.underlying328
  a51 := Tryz.isAgg328
  z51 := Tryz.sizeOf328
  v51 := Tryz.zeroValue328
  t53 := Tryz.underlying288
  a53 := Tryz.isAgg288
  z53 := Tryz.sizeOf288
  v53 := Tryz.zeroValue288
  t171 := Tryz.underlying340
  a171 := Tryz.isAgg340
  z171 := Tryz.sizeOf340
  v171 := Tryz.zeroValue340
  t173 := Tryz.underlying343
  a173 := Tryz.isAgg343
  z173 := Tryz.sizeOf343
  v173 := Tryz.zeroValue343
  t212 := Tryz.underlying351
  a212 := Tryz.isAgg351
  z212 := Tryz.sizeOf351
  v212 := Tryz.zeroValue351
  t213 := Tryz.underlying352
  a213 := Tryz.isAgg352
  z213 := Tryz.sizeOf352
  t232 := Tryz.underlying362
  a232 := Tryz.isAgg362
  z232 := Tryz.sizeOf362
  v232 := Tryz.zeroValue362
  t233 := Tryz.underlying363
  a233 := Tryz.isAgg363
  z233 := Tryz.sizeOf363
  v233 := Tryz.zeroValue363
  g17 := by kernel_rfl
  g18 := by kernel_rfl
  g19 := by kernel_rfl
  i0 := by kernel_rfl
  i2 := by kernel_rfl
  i3 := by kernel_rfl
  i4 := by kernel_rfl
  i5 := by kernel_rfl
  i9 := by kernel_rfl
  i20 := by kernel_rfl
  i37 := by kernel_rfl
  i46 := by kernel_rfl
  i51 := by kernel_rfl
  i53 := by kernel_rfl
  i171 := by kernel_rfl
  i173 := by kernel_rfl
  i212 := by kernel_rfl
  i232 := by kernel_rfl
  i233 := by kernel_rfl
  m17 := by kernel_rfl
  m18 := by kernel_rfl
  m19 := by kernel_rfl }
def Tryz.laysAtoi_ren : Go.Shelf.Ren := ⟨fun | 172 => 258 | 244 => 291 | 245 => 292 | 247 => 302 | 279 => 303 | 280 => 304 | 281 => 305 | 282 => 306 | 287 => 293 | 316 => 315 | 171 => 199 | 205 => 316 | 321 => 307 | 322 => 308 | 243 => 273 | 246 => 297 | 283 => 310 | 284 => 311 | 285 => 312 | 286 => 313 | 129 => 318 | 317 => 317 | 318 => 319 | 319 => 320 | 320 => 321 | 337 => 324 | 338 => 325 | n => n, fun | 9 => 9 | 3 => 3 | 75 => 285 | 76 => 286 | 4 => 4 | 5 => 5 | 167 => 331 | 37 => 298 | 0 => 0 | 85 => 332 | 2 => 2 | 168 => 334 | 53 => 288 | 175 => 289 | 46 => 319 | 210 => 348 | 127 => 322 | 145 => 360 | 143 => 358 | 21 => 21 | 171 => 340 | 173 => 343 | 212 => 351 | 51 => 328 | 20 => 20 | 213 => 352 | 232 => 362 | 233 => 363 | 80 => 303 | n => n, fun | 15 => 1 | 16 => 2 | 17 => 3 | 18 => 4 | 19 => 5 | n => n⟩
theorem Tryz.laysAtoi : Go.Proofs.Lays.n172 Tryz.prog Tryz.laysAtoi_ren := {
  mixed := by kernel_rfl
  f129 := Tryz.func318.trans (congrArg some (by kernel_rfl))
  f171 := Tryz.func199.trans (congrArg some (by kernel_rfl))
  f172 := Tryz.func258.trans (congrArg some (by kernel_rfl))
  f205 := Tryz.func316.trans (congrArg some (by kernel_rfl))
  f243 := Tryz.func273.trans (congrArg some (by kernel_rfl))
  f244 := Tryz.func291.trans (congrArg some (by kernel_rfl))
  f245 := Tryz.func292.trans (congrArg some (by kernel_rfl))
  f246 := Tryz.func297.trans (congrArg some (by kernel_rfl))
  f247 := Tryz.func302.trans (congrArg some (by kernel_rfl))
  f279 := Tryz.func303.trans (congrArg some (by kernel_rfl))
  f280 := Tryz.func304.trans (congrArg some (by kernel_rfl))
  f281 := Tryz.func305.trans (congrArg some (by kernel_rfl))
  f282 := Tryz.func306.trans (congrArg some (by kernel_rfl))
  f283 := Tryz.func310.trans (congrArg some (by kernel_rfl))
  f284 := Tryz.func311.trans (congrArg some (by kernel_rfl))
  f285 := Tryz.func312.trans (congrArg some (by kernel_rfl))
  f286 := Tryz.func313.trans (congrArg some (by kernel_rfl))
  f287 := Tryz.func293.trans (congrArg some (by kernel_rfl))
  f316 := Tryz.func315.trans (congrArg some (by kernel_rfl))
  f317 := Tryz.func317.trans (congrArg some (by kernel_rfl))
  f318 := Tryz.func319.trans (congrArg some (by kernel_rfl))
  f319 := Tryz.func320.trans (congrArg some (by kernel_rfl))
  f320 := Tryz.func321.trans (congrArg some (by kernel_rfl))
  f321 := Tryz.func307.trans (congrArg some (by kernel_rfl))
  f322 := Tryz.func308.trans (congrArg some (by kernel_rfl))
  f337 := Tryz.func324.trans (congrArg some (by kernel_rfl))
  f338 := Tryz.func325.trans (congrArg some (by kernel_rfl))
  t0 := Tryz.underlying0
  a0 := Tryz.isAgg0
  z0 := Tryz.sizeOf0
  v0 := Tryz.zeroValue0
  t2 := Tryz.underlying2
  a2 := Tryz.isAgg2
  z2 := Tryz.sizeOf2
  v2 := Tryz.zeroValue2
  t3 := Tryz.underlying3
  a3 := Tryz.isAgg3
  z3 := Tryz.sizeOf3
  v3 := Tryz.zeroValue3
  t4 := Tryz.underlying4
  a4 := Tryz.isAgg4
  z4 := Tryz.sizeOf4
  v4 := Tryz.zeroValue4
  t5 := Tryz.underlying5
  a5 := Tryz.isAgg5
  z5 := Tryz.sizeOf5
  v5 := Tryz.zeroValue5
  t9 := Tryz.underlying9
  a9 := Tryz.isAgg9
  z9 := Tryz.sizeOf9
  v9 := Tryz.zeroValue9
  t20 := Tryz.underlying20
  a20 := Tryz.isAgg20
  z20 := Tryz.sizeOf20
  v20 := Tryz.zeroValue20
  t21 := Tryz.underlying21
  a21 := Tryz.isAgg21
  z21 := Tryz.sizeOf21
  v21 := Tryz.zeroValue21
  t37 := Tryz.underlying298
  a37 := Tryz.isAgg298
  z37 := Tryz.sizeOf298
  v37 := Tryz.zeroValue298
  t46 := Tryz.underlying319
  a46 := Tryz.isAgg319
  z46 := Tryz.sizeOf319
  v46 := Tryz.zeroValue319
  t51 := Tryz.underlying328
  a51 := Tryz.isAgg328
  z51 := Tryz.sizeOf328
  v51 := Tryz.zeroValue328
  t53 := Tryz.underlying288
  a53 := Tryz.isAgg288
  z53 := Tryz.sizeOf288
  v53 := Tryz.zeroValue288
  t75 := Tryz.underlying285
  a75 := Tryz.isAgg285
  z75 := Tryz.sizeOf285
  v75 := Tryz.zeroValue285
  t76 := Tryz.underlying286
  a76 := Tryz.isAgg286
  z76 := Tryz.sizeOf286
  v76 := Tryz.zeroValue286
  t85 := Tryz.underlying332
  a85 := Tryz.isAgg332
  z85 := Tryz.sizeOf332
  v85 := Tryz.zeroValue332
  t127 := Tryz.underlying322
  a127 := Tryz.isAgg322
  z127 := Tryz.sizeOf322
  v127 := Tryz.zeroValue322
  t143 := Tryz.underlying358
  a143 := Tryz.isAgg358
  z143 := Tryz.sizeOf358
  v143 := Tryz.zeroValue358
  t145 := Tryz.underlying360
  a145 := Tryz.isAgg360
  z145 := Tryz.sizeOf360
  v145 := Tryz.zeroValue360
  t167 := Tryz.underlying331
  a167 := Tryz.isAgg331
  z167 := Tryz.sizeOf331
  v167 := Tryz.zeroValue331
  t168 := Tryz.underlying334
  a168 := Tryz.isAgg334
  z168 := Tryz.sizeOf334
  v168 := Tryz.zeroValue334
  t171 := Tryz.underlying340
  a171 := Tryz.isAgg340
  z171 := Tryz.sizeOf340
  v171 := Tryz.zeroValue340
  t173 := Tryz.underlying343
  a173 := Tryz.isAgg343
  z173 := Tryz.sizeOf343
  v173 := Tryz.zeroValue343
  t175 := Tryz.underlying289
  a175 := Tryz.isAgg289
  z175 := Tryz.sizeOf289
  v175 := Tryz.zeroValue289
  t210 := Tryz.underlying348
  a210 := Tryz.isAgg348
  z210 := Tryz.sizeOf348
  v210 := Tryz.zeroValue348
  t212 := Tryz.underlying351
  a212 := Tryz.isAgg351
  z212 := Tryz.sizeOf351
  v212 := Tryz.zeroValue351
  t213 := Tryz.underlying352
  a213 := Tryz.isAgg352
  z213 := Tryz.sizeOf352
  t232 := Tryz.underlying362
  a232 := Tryz.isAgg362
  z232 := Tryz.sizeOf362
  v232 := Tryz.zeroValue362
  t233 := Tryz.underlying363
  a233 := Tryz.isAgg363
  z233 := Tryz.sizeOf363
  v233 := Tryz.zeroValue363
  g15 := by kernel_rfl
  g16 := by kernel_rfl
  g17 := by kernel_rfl
  g18 := by kernel_rfl
  g19 := by kernel_rfl }
theorem Tryz.gentle_bytes (w : World) (e : TypeId) (s : ByteArray) : Gentle w (Lib.bytesWorld w e s) :=
  ⟨by rw [Lib.bytesWorld_size]; omega, fun k hk => Lib.bytesWorld_at_old w e s k hk, rfl, rfl, rfl⟩
theorem Tryz.aItoa (n : Int) (h0 : -9223372036854775808 ≤ n) (h1 : n ≤ 9223372036854775807) (mem : Mem) : ACallsTo Tryz.prog 199 [.int .i64 n] mem (.str (intS n)) mem :=
  ACallsTo.of_calls (Tryz.funOk _ Tryz.func199 (by kernel_rfl) (by kernel_rfl)) (Vs := [.int .i64 n]) (fun μ n Us h => by simpa [VRels, VRel] using h) (V := .string ⟨(intS n).toArray⟩) (fun μ n => by simp [VRel])
    (fun base w hG => (Any.strconv_Itoa Tryz.laysItoa n h0 h1 w (hG.tabOf (by kernel_rfl))).mono fun e w' ⟨h1, k, os, h2⟩ => ⟨by rw [h1, intS_eq], h2 ▸ Gentle.grow w k os⟩) mem
theorem Tryz.aAtoi (s : List UInt8) (n : Int) (hl : s.length ≤ 18) (h : Lib.atoi s = some n) (mem : Mem) : ACallsTo Tryz.prog 258 [.str s] mem (.tuple [.int .i64 n, .nilIface]) mem :=
  ACallsTo.of_calls (Tryz.funOk _ Tryz.func258 (by kernel_rfl) (by kernel_rfl)) (Vs := [.string ⟨s.toArray⟩]) (fun μ n Us h => by simpa [VRels, VRel] using h) (V := .tuple #[.int .i64 n, .nilIface]) (fun μ n => by simp only [VRel, VRels]; exact ⟨_, rfl, _, _, rfl, rfl, _, _, rfl, rfl, rfl⟩)
    (fun base w hG => (Any.strconv_Atoi Tryz.laysAtoi ⟨s.toArray⟩ n (by simpa [ByteArray.size] using hl) (by simpa using h) w).mono fun e w' ⟨h1, t, h2⟩ => ⟨h1, by rw [h2]; exact Tryz.gentle_bytes _ _ _⟩) mem
end Go.Proofs
namespace Go.Proofs
open Go.Eng
noncomputable def Tryz.baseF3 (f : FuncId) (args : List AV) : Option AV :=
  match f, args with
  | 254, [.str s, .str p] => some (.tuple [.str (Lib.trimPrefix s p), .bool (Lib.hasPrefix s p)])
  | 256, [.str s, .str p] => some (.str (Lib.trimPrefix s p))
  | _, _ => none
theorem Tryz.base3_ok : OracleOk Tryz.prog (pureO Tryz.baseF3) := pureO_ok fun f args v h mem => by
  unfold Tryz.baseF3 at h
  split at h
  · cases h; exact Tryz.aCutPrefix0 _ _ mem
  · cases h; exact Tryz.aTrimPrefix0 _ _ mem
  · cases h
theorem Tryz.aCutPrefix (s p : List UInt8) (mem : Mem) : ACallsTo Tryz.prog 181 [.str s, .str p] mem (.tuple [.str (Lib.trimPrefix s p), .bool (Lib.hasPrefix s p)]) mem := by
  have hG : fnOf Tryz.prog 181 = some Tryz.f181 := by kernel_rfl
  refine Tryz.run Tryz.base3_ok (lv := fun _ => []) (K := 1) rfl rfl ?_ mem
  simp [callFn, hG, Tryz.f181, pureO, Tryz.baseF3]
theorem Tryz.aTrimPrefix (s p : List UInt8) (mem : Mem) : ACallsTo Tryz.prog 183 [.str s, .str p] mem (.str (Lib.trimPrefix s p)) mem := by
  have hG : fnOf Tryz.prog 183 = some Tryz.f183 := by kernel_rfl
  refine Tryz.run Tryz.base3_ok (lv := fun _ => []) (K := 1) rfl rfl ?_ mem
  simp [callFn, hG, Tryz.f183, pureO, Tryz.baseF3]
def fitsI (n : Int) : Bool := decide (-9223372036854775808 ≤ n) && decide (n ≤ 9223372036854775807)
noncomputable def Tryz.strF (f : FuncId) (args : List AV) : Option AV :=
  match f, args with
  | 255, [.str s, .str p] => some (.bool (Lib.hasPrefix s p))
  | 184, [.str s, .str p] => some (.int .i64 (Lib.compareBytes s p))
  | 50, [.str s, .int .u8 c] => if 0 ≤ c then some (.int .i64 (Lib.indexByte s c.toNat.toUInt8)) else none
  | 118, [.str s, .str [c]] => if s.length ≤ 1000000000 then some (if 0 ≤ Lib.indexByte s c then .tuple [.str (s.take (Lib.indexByte s c).toNat), .str (s.drop ((Lib.indexByte s c).toNat + 1)), .bool true] else .tuple [.str s, .str [], .bool false]) else none
  | 181, [.str s, .str p] => some (.tuple [.str (Lib.trimPrefix s p), .bool (Lib.hasPrefix s p)])
  | 183, [.str s, .str p] => some (.str (Lib.trimPrefix s p))
  | 199, [.int .i64 n] => if fitsI n then some (.str (intS n)) else none
  | 258, [.str s] => if s.length ≤ 18 then match Lib.atoi s with
    | some n => some (.tuple [.int .i64 n, .nilIface])
    | none => none
    else none
  | _, _ => none
theorem Tryz.str_ok : OracleOk Tryz.prog (pureO Tryz.strF) := pureO_ok fun f args v h mem => by
  unfold Tryz.strF at h
  split at h
  · cases h; exact Tryz.aHasPrefix _ _ mem
  · cases h; exact Tryz.aCompare _ _ mem
  · split at h
    · rename_i hc; cases h; exact Tryz.aIndexByteS _ _ hc mem
    · cases h
  · split at h
    · rename_i hl; cases h; exact Tryz.aCut _ _ mem hl
    · cases h
  · cases h; exact Tryz.aCutPrefix _ _ mem
  · cases h; exact Tryz.aTrimPrefix _ _ mem
  · split at h
    · rename_i hn
      cases h
      simp only [fitsI, Bool.and_eq_true, decide_eq_true_eq] at hn
      exact Tryz.aItoa _ hn.1 hn.2 mem
    · cases h
  · split at h
    · rename_i hl
      split at h
      · rename_i n hn; cases h; exact Tryz.aAtoi _ _ hl hn mem
      · cases h
    · cases h
  · cases h
end Go.Proofs
