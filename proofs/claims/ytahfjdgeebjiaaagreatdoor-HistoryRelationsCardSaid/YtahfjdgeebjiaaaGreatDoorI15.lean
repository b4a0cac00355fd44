/- See I57. -/
import Derived.Test.YtahfjdgeebjiaaaGreatDoorI13
import Derived.Test.YtahfjdgeebjiaaaGreatDoorI10
import Derived.Test.YtahfjdgeebjiaaaGreatDoorI14
import Derived.Shelf.Strconv.Itoa3
import Derived.Shelf.Strconv.Atoi
import Derived.Ground.NamesProg
import Derived.Test.YtahfjdgeebjiaaaGreatDoorProg
set_option linter.all false
namespace Go.Proofs
open Go.Eng Go.Shelf
def Tryz.laysItoa_ren : Go.Shelf.Ren := ⟨fun | 171 => 133 | 243 => 195 | 246 => 275 | 283 => 318 | 284 => 319 | 285 => 320 | 286 => 321 | 129 => 158 | 317 => 344 | 318 => 345 | 319 => 346 | 320 => 347 | 337 => 356 | 338 => 357 | n => n,fun | 3 => 3 | 9 => 9 | 2 => 2 | 4 => 4 | 171 => 398 | 0 => 0 | 53 => 278 | 37 => 146 | 5 => 5 | 173 => 400 | 212 => 418 | 51 => 276 | 20 => 20 | 213 => 419 | 46 => 212 | 232 => 434 | 233 => 435 | n => n,fun | 17 => 3 | 18 => 4 | 19 => 5 | n => n⟩
theorem Tryz.laysItoa : Go.Proofs.LaysM.n171 Tryz.prog Tryz.laysItoa_ren := {
 mixed := by kernel_rfl
 f129 := Tryz.func158.trans (congrArg some (by kernel_rfl))
 f171 := Tryz.func133.trans (congrArg some (by kernel_rfl))
 f243 := Tryz.func195.trans (congrArg some (by kernel_rfl))
 f246 := Tryz.func275.trans (congrArg some (by kernel_rfl))
 f283 := Tryz.func318.trans (congrArg some (by kernel_rfl))
 f284 := Tryz.func319.trans (congrArg some (by kernel_rfl))
 f285 := Tryz.func320.trans (congrArg some (by kernel_rfl))
 f286 := Tryz.func321.trans (congrArg some (by kernel_rfl))
 f317 := Tryz.func344.trans (congrArg some (by kernel_rfl))
 f318 := Tryz.func345.trans (congrArg some (by kernel_rfl))
 f319 := Tryz.func346.trans (congrArg some (by kernel_rfl))
 f320 := Tryz.func347.trans (congrArg some (by kernel_rfl))
 f337 := Tryz.func356.trans (congrArg some (by kernel_rfl))
 f338 := Tryz.func357.trans (congrArg some (by kernel_rfl))
 t0 := Tryz.underlying0
 a0 := Tryz.isAgg0
 z0 := Tryz.sizeOf0
 v0 := Tryz.zeroValue0
 t2 := Tryz.underlying2
 a2 := Tryz.isAgg2
 z2 := Tryz.sizeOf2
 v2 := Tryz.zeroValue2
 t3 := Tryz.underlying3
 a3 := Tryz.isAgg3
 z3 := Tryz.sizeOf3
 v3 := Tryz.zeroValue3
 t4 := Tryz.underlying4
 a4 := Tryz.isAgg4
 z4 := Tryz.sizeOf4
 v4 := Tryz.zeroValue4
 t5 := Tryz.underlying5
 a5 := Tryz.isAgg5
 z5 := Tryz.sizeOf5
 v5 := Tryz.zeroValue5
 t9 := Tryz.underlying9
 a9 := Tryz.isAgg9
 z9 := Tryz.sizeOf9
 v9 := Tryz.zeroValue9
 t20 := Tryz.underlying20
 a20 := Tryz.isAgg20
 z20 := Tryz.sizeOf20
 v20 := Tryz.zeroValue20
 t37 := Tryz.underlying146
 a37 := Tryz.isAgg146
 z37 := Tryz.sizeOf146
 v37 := Tryz.zeroValue146
 t46 := Tryz.underlying212
 a46 := Tryz.isAgg212
 z46 := Tryz.sizeOf212
 v46 := Tryz.zeroValue212
 t51 := Tryz.underlying276
 a51 := Tryz.isAgg276
 z51 := Tryz.sizeOf276
 v51 := Tryz.zeroValue276
 t53 := Tryz.underlying278
 a53 := Tryz.isAgg278
 z53 := Tryz.sizeOf278
 v53 := Tryz.zeroValue278
 t171 := Tryz.underlying398
 a171 := Tryz.isAgg398
 z171 := Tryz.sizeOf398
 v171 := Tryz.zeroValue398
 t173 := Tryz.underlying400
 a173 := Tryz.isAgg400
 z173 := Tryz.sizeOf400
 v173 := Tryz.zeroValue400
 t212 := Tryz.underlying418
 a212 := Tryz.isAgg418
 z212 := Tryz.sizeOf418
 v212 := Tryz.zeroValue418
 t213 := Tryz.underlying419
 a213 := Tryz.isAgg419
 z213 := Tryz.sizeOf419
 t232 := Tryz.underlying434
 a232 := Tryz.isAgg434
 z232 := Tryz.sizeOf434
 v232 := Tryz.zeroValue434
 t233 := Tryz.underlying435
 a233 := Tryz.isAgg435
 z233 := Tryz.sizeOf435
 v233 := Tryz.zeroValue435
 g17 := by kernel_rfl
 g18 := by kernel_rfl
 g19 := by kernel_rfl
 i0 := by kernel_rfl
 i2 := by kernel_rfl
 i3 := by kernel_rfl
 i4 := by kernel_rfl
 i5 := by kernel_rfl
 i9 := by kernel_rfl
 i20 := by kernel_rfl
 i37 := by kernel_rfl
 i46 := by kernel_rfl
 i51 := by kernel_rfl
 i53 := by kernel_rfl
 i171 := by kernel_rfl
 i173 := by kernel_rfl
 i212 := by kernel_rfl
 i232 := by kernel_rfl
 i233 := by kernel_rfl
 m17 := by kernel_rfl
 m18 := by kernel_rfl
 m19 := by kernel_rfl }
def Tryz.laysAtoi_ren : Go.Shelf.Ren := ⟨fun | 172 => 192 | 244 => 273 | 245 => 274 | 247 => 313 | 279 => 314 | 280 => 315 | 281 => 316 | 282 => 317 | 287 => 338 | 316 => 342 | 171 => 133 | 205 => 343 | 321 => 353 | 322 => 354 | 243 => 195 | 246 => 275 | 283 => 318 | 284 => 319 | 285 => 320 | 286 => 321 | 129 => 158 | 317 => 344 | 318 => 345 | 319 => 346 | 320 => 347 | 337 => 356 | 338 => 357 | n => n,fun | 9 => 9 | 3 => 3 | 75 => 304 | 76 => 305 | 4 => 4 | 5 => 5 | 167 => 392 | 37 => 146 | 0 => 0 | 85 => 393 | 2 => 2 | 168 => 395 | 53 => 278 | 175 => 380 | 46 => 212 | 210 => 414 | 127 => 411 | 145 => 427 | 143 => 425 | 21 => 21 | 171 => 398 | 173 => 400 | 212 => 418 | 51 => 276 | 20 => 20 | 213 => 419 | 232 => 434 | 233 => 435 | 80 => 391 | n => n,fun | 15 => 1 | 16 => 2 | 17 => 3 | 18 => 4 | 19 => 5 | n => n⟩
theorem Tryz.laysAtoi : Go.Proofs.Lays.n172 Tryz.prog Tryz.laysAtoi_ren := {
 mixed := by kernel_rfl
 f129 := Tryz.func158.trans (congrArg some (by kernel_rfl))
 f171 := Tryz.func133.trans (congrArg some (by kernel_rfl))
 f172 := Tryz.func192.trans (congrArg some (by kernel_rfl))
 f205 := Tryz.func343.trans (congrArg some (by kernel_rfl))
 f243 := Tryz.func195.trans (congrArg some (by kernel_rfl))
 f244 := Tryz.func273.trans (congrArg some (by kernel_rfl))
 f245 := Tryz.func274.trans (congrArg some (by kernel_rfl))
 f246 := Tryz.func275.trans (congrArg some (by kernel_rfl))
 f247 := Tryz.func313.trans (congrArg some (by kernel_rfl))
 f279 := Tryz.func314.trans (congrArg some (by kernel_rfl))
 f280 := Tryz.func315.trans (congrArg some (by kernel_rfl))
 f281 := Tryz.func316.trans (congrArg some (by kernel_rfl))
 f282 := Tryz.func317.trans (congrArg some (by kernel_rfl))
 f283 := Tryz.func318.trans (congrArg some (by kernel_rfl))
 f284 := Tryz.func319.trans (congrArg some (by kernel_rfl))
 f285 := Tryz.func320.trans (congrArg some (by kernel_rfl))
 f286 := Tryz.func321.trans (congrArg some (by kernel_rfl))
 f287 := Tryz.func338.trans (congrArg some (by kernel_rfl))
 f316 := Tryz.func342.trans (congrArg some (by kernel_rfl))
 f317 := Tryz.func344.trans (congrArg some (by kernel_rfl))
 f318 := Tryz.func345.trans (congrArg some (by kernel_rfl))
 f319 := Tryz.func346.trans (congrArg some (by kernel_rfl))
 f320 := Tryz.func347.trans (congrArg some (by kernel_rfl))
 f321 := Tryz.func353.trans (congrArg some (by kernel_rfl))
 f322 := Tryz.func354.trans (congrArg some (by kernel_rfl))
 f337 := Tryz.func356.trans (congrArg some (by kernel_rfl))
 f338 := Tryz.func357.trans (congrArg some (by kernel_rfl))
 t0 := Tryz.underlying0
 a0 := Tryz.isAgg0
 z0 := Tryz.sizeOf0
 v0 := Tryz.zeroValue0
 t2 := Tryz.underlying2
 a2 := Tryz.isAgg2
 z2 := Tryz.sizeOf2
 v2 := Tryz.zeroValue2
 t3 := Tryz.underlying3
 a3 := Tryz.isAgg3
 z3 := Tryz.sizeOf3
 v3 := Tryz.zeroValue3
 t4 := Tryz.underlying4
 a4 := Tryz.isAgg4
 z4 := Tryz.sizeOf4
 v4 := Tryz.zeroValue4
 t5 := Tryz.underlying5
 a5 := Tryz.isAgg5
 z5 := Tryz.sizeOf5
 v5 := Tryz.zeroValue5
 t9 := Tryz.underlying9
 a9 := Tryz.isAgg9
 z9 := Tryz.sizeOf9
 v9 := Tryz.zeroValue9
 t20 := Tryz.underlying20
 a20 := Tryz.isAgg20
 z20 := Tryz.sizeOf20
 v20 := Tryz.zeroValue20
 t21 := Tryz.underlying21
 a21 := Tryz.isAgg21
 z21 := Tryz.sizeOf21
 v21 := Tryz.zeroValue21
 t37 := Tryz.underlying146
 a37 := Tryz.isAgg146
 z37 := Tryz.sizeOf146
 v37 := Tryz.zeroValue146
 t46 := Tryz.underlying212
 a46 := Tryz.isAgg212
 z46 := Tryz.sizeOf212
 v46 := Tryz.zeroValue212
 t51 := Tryz.underlying276
 a51 := Tryz.isAgg276
 z51 := Tryz.sizeOf276
 v51 := Tryz.zeroValue276
 t53 := Tryz.underlying278
 a53 := Tryz.isAgg278
 z53 := Tryz.sizeOf278
 v53 := Tryz.zeroValue278
 t75 := Tryz.underlying304
 a75 := Tryz.isAgg304
 z75 := Tryz.sizeOf304
 v75 := Tryz.zeroValue304
 t76 := Tryz.underlying305
 a76 := Tryz.isAgg305
 z76 := Tryz.sizeOf305
 v76 := Tryz.zeroValue305
 t85 := Tryz.underlying393
 a85 := Tryz.isAgg393
 z85 := Tryz.sizeOf393
 v85 := Tryz.zeroValue393
 t127 := Tryz.underlying411
 a127 := Tryz.isAgg411
 z127 := Tryz.sizeOf411
 v127 := Tryz.zeroValue411
 t143 := Tryz.underlying425
 a143 := Tryz.isAgg425
 z143 := Tryz.sizeOf425
 v143 := Tryz.zeroValue425
 t145 := Tryz.underlying427
 a145 := Tryz.isAgg427
 z145 := Tryz.sizeOf427
 v145 := Tryz.zeroValue427
 t167 := Tryz.underlying392
 a167 := Tryz.isAgg392
 z167 := Tryz.sizeOf392
 v167 := Tryz.zeroValue392
 t168 := Tryz.underlying395
 a168 := Tryz.isAgg395
 z168 := Tryz.sizeOf395
 v168 := Tryz.zeroValue395
 t171 := Tryz.underlying398
 a171 := Tryz.isAgg398
 z171 := Tryz.sizeOf398
 v171 := Tryz.zeroValue398
 t173 := Tryz.underlying400
 a173 := Tryz.isAgg400
 z173 := Tryz.sizeOf400
 v173 := Tryz.zeroValue400
 t175 := Tryz.underlying380
 a175 := Tryz.isAgg380
 z175 := Tryz.sizeOf380
 v175 := Tryz.zeroValue380
 t210 := Tryz.underlying414
 a210 := Tryz.isAgg414
 z210 := Tryz.sizeOf414
 v210 := Tryz.zeroValue414
 t212 := Tryz.underlying418
 a212 := Tryz.isAgg418
 z212 := Tryz.sizeOf418
 v212 := Tryz.zeroValue418
 t213 := Tryz.underlying419
 a213 := Tryz.isAgg419
 z213 := Tryz.sizeOf419
 t232 := Tryz.underlying434
 a232 := Tryz.isAgg434
 z232 := Tryz.sizeOf434
 v232 := Tryz.zeroValue434
 t233 := Tryz.underlying435
 a233 := Tryz.isAgg435
 z233 := Tryz.sizeOf435
 v233 := Tryz.zeroValue435
 g15 := by kernel_rfl
 g16 := by kernel_rfl
 g17 := by kernel_rfl
 g18 := by kernel_rfl
 g19 := by kernel_rfl }
theorem Tryz.gentle_bytes (w : World) (e : TypeId) (s : ByteArray) : Gentle w (Lib.bytesWorld w e s) :=
 ⟨by rw [Lib.bytesWorld_size]; omega,fun k hk => Lib.bytesWorld_at_old w e s k hk,rfl,rfl,rfl,by first | exact Nat.le_refl _ | exact Nat.le_add_right _ _ | exact Nat.le_succ _⟩
theorem Tryz.aItoa (n : Int) (h0 : -9223372036854775808 ≤ n) (h1 : n ≤ 9223372036854775807) (mem : Mem) : ACallsTo Tryz.prog 133 [.int .i64 n] mem (.str (intS n)) mem :=
 ACallsTo.of_calls (Tryz.funOk _ Tryz.func133 (by kernel_rfl) (by kernel_rfl)) (Vs := [.int .i64 n]) (fun μ n Us h => by simpa [VRels,VRel] using h) (V := .string ⟨(intS n).toArray⟩) (fun μ n => by simp [VRel])
  (fun base w hG => (Any.strconv_Itoa Tryz.laysItoa n h0 h1 w (hG.tabOf (by kernel_rfl))).mono fun e w' ⟨h1,k,os,h2⟩ => ⟨by rw [h1,intS_eq],h2 ▸ Gentle.grow w k os⟩) mem
theorem Tryz.aAtoi (s : List UInt8) (n : Int) (hl : s.length ≤ 18) (h : Lib.atoi s = some n) (mem : Mem) : ACallsTo Tryz.prog 192 [.str s] mem (.tuple [.int .i64 n,.nilIface]) mem :=
 ACallsTo.of_calls (Tryz.funOk _ Tryz.func192 (by kernel_rfl) (by kernel_rfl)) (Vs := [.string ⟨s.toArray⟩]) (fun μ n Us h => by simpa [VRels,VRel] using h) (V := .tuple #[.int .i64 n,.nilIface]) (fun μ n => by simp only [VRel,VRels]; exact ⟨_,rfl,_,_,rfl,rfl,_,_,rfl,rfl,rfl⟩)
  (fun base w hG => (Any.strconv_Atoi Tryz.laysAtoi ⟨s.toArray⟩ n (by simpa [ByteArray.size] using hl) (by simpa using h) w).mono fun e w' ⟨h1,t,h2⟩ => ⟨h1,by rw [h2]; exact Tryz.gentle_bytes _ _ _⟩) mem
end Go.Proofs
namespace Go.Proofs
open Go.Eng
noncomputable def Tryz.baseF3 (f : FuncId) (args : List AV) : Option AV :=
 match f,args with
 | 335,[.str s,.str p] => some (.tuple [.str (Lib.trimPrefix s p),.bool (Lib.hasPrefix s p)])
 | 302,[.str s,.str p] => some (.str (Lib.trimPrefix s p))
 | _,_ => none
theorem Tryz.base3_ok : OracleOk Tryz.prog (pureO Tryz.baseF3) := pureO_ok fun f args v h mem => by
 unfold Tryz.baseF3 at h
 split at h
 ·cases h; exact Tryz.aCutPrefix0 _ _ mem
 ·cases h; exact Tryz.aTrimPrefix0 _ _ mem
 ·cases h
theorem Tryz.aCutPrefix (s p : List UInt8) (mem : Mem) : ACallsTo Tryz.prog 297 [.str s,.str p] mem (.tuple [.str (Lib.trimPrefix s p),.bool (Lib.hasPrefix s p)]) mem := by
 have hG : fnOf Tryz.prog 297 = some Tryz.f297 := by kernel_rfl
 refine Tryz.run Tryz.base3_ok (lv := fun _ => []) (K := 1) rfl rfl ?_ mem
 simp [callFn,hG,Tryz.f297,pureO,Tryz.baseF3]
theorem Tryz.aTrimPrefix (s p : List UInt8) (mem : Mem) : ACallsTo Tryz.prog 259 [.str s,.str p] mem (.str (Lib.trimPrefix s p)) mem := by
 have hG : fnOf Tryz.prog 259 = some Tryz.f259 := by kernel_rfl
 refine Tryz.run Tryz.base3_ok (lv := fun _ => []) (K := 1) rfl rfl ?_ mem
 simp [callFn,hG,Tryz.f259,pureO,Tryz.baseF3]
def fitsI (n : Int) : Bool := decide (-9223372036854775808 ≤ n) && decide (n ≤ 9223372036854775807)
noncomputable def Tryz.strF (f : FuncId) (args : List AV) : Option AV :=
 match f,args with
 | 267,[.str s,.str p] => some (.bool (Lib.hasPrefix s p))
 | 260,[.str s,.str p] => some (.int .i64 (Lib.compareBytes s p))
 | 181,[.str s,.int .u8 c] => if 0 ≤ c then some (.int .i64 (Lib.indexByte s c.toNat.toUInt8)) else none
 | 253,[.str s,.str [c]] => if s.length ≤ 1000000000 then some (if 0 ≤ Lib.indexByte s c then .tuple [.str (s.take (Lib.indexByte s c).toNat),.str (s.drop ((Lib.indexByte s c).toNat + 1)),.bool true] else .tuple [.str s,.str [],.bool false]) else none
 | 297,[.str s,.str p] => some (.tuple [.str (Lib.trimPrefix s p),.bool (Lib.hasPrefix s p)])
 | 259,[.str s,.str p] => some (.str (Lib.trimPrefix s p))
 | 133,[.int .i64 n] => if fitsI n then some (.str (intS n)) else none
 | 192,[.str s] => if s.length ≤ 18 then match Lib.atoi s with
  | some n => some (.tuple [.int .i64 n,.nilIface])
  | none => none
  else none
 | _,_ => none
theorem Tryz.str_ok : OracleOk Tryz.prog (pureO Tryz.strF) := pureO_ok fun f args v h mem => by
 unfold Tryz.strF at h
 split at h
 ·cases h; exact Tryz.aHasPrefix _ _ mem
 ·cases h; exact Tryz.aCompare _ _ mem
 ·split at h
  ·rename_i hc; cases h; exact Tryz.aIndexByteS _ _ hc mem
  ·cases h
 ·split at h
  ·rename_i hl; cases h; exact Tryz.aCut _ _ mem hl
  ·cases h
 ·cases h; exact Tryz.aCutPrefix _ _ mem
 ·cases h; exact Tryz.aTrimPrefix _ _ mem
 ·split at h
  ·rename_i hn
   cases h
   simp only [fitsI,Bool.and_eq_true,decide_eq_true_eq] at hn
   exact Tryz.aItoa _ hn.1 hn.2 mem
  ·cases h
 ·split at h
  ·rename_i hl
   split at h
   ·rename_i n hn; cases h; exact Tryz.aAtoi _ _ hl hn mem
   ·cases h
  ·cases h
 ·cases h
end Go.Proofs
