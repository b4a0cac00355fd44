/- See L55. -/
import Derived.Test.YtiopbpbcgccngaaGreatDoorL13
import Derived.Test.YtiopbpbcgccngaaGreatDoorL11
import Derived.Test.YtiopbpbcgccngaaGreatDoorL14
import Derived.Shelf.Strconv.Itoa3
import Derived.Shelf.Strconv.Atoi
import Derived.Ground.NamesProg
import Derived.Test.YtiopbpbcgccngaaGreatDoorProg
set_option linter.all false
namespace Go.Proofs
open Go.Eng Go.Shelf
def Tryz.laysItoa_ren : Go.Shelf.Ren := ⟨fun | 171 => 80 | 243 => 115 | 246 => 162 | 283 => 208 | 284 => 209 | 285 => 210 | 286 => 211 | 129 => 158 | 317 => 270 | 318 => 271 | 319 => 272 | 320 => 273 | 337 => 303 | 338 => 304 | n => n,fun | 3 => 3 | 9 => 9 | 2 => 2 | 4 => 4 | 171 => 288 | 0 => 0 | 53 => 187 | 37 => 161 | 5 => 5 | 173 => 290 | 212 => 335 | 51 => 241 | 20 => 20 | 213 => 336 | 46 => 181 | 232 => 391 | 233 => 392 | n => n,fun | 17 => 1 | 18 => 4 | 19 => 5 | n => n⟩
theorem Tryz.laysItoa : Go.Proofs.LaysM.n171 Tryz.prog Tryz.laysItoa_ren := {
 mixed := by kernel_rfl
 f129 := Tryz.func158.trans (congrArg some (by kernel_rfl))
 f171 := Tryz.func80.trans (congrArg some (by kernel_rfl))
 f243 := Tryz.func115.trans (congrArg some (by kernel_rfl))
 f246 := Tryz.func162.trans (congrArg some (by kernel_rfl))
 f283 := Tryz.func208.trans (congrArg some (by kernel_rfl))
 f284 := Tryz.func209.trans (congrArg some (by kernel_rfl))
 f285 := Tryz.func210.trans (congrArg some (by kernel_rfl))
 f286 := Tryz.func211.trans (congrArg some (by kernel_rfl))
 f317 := Tryz.func270.trans (congrArg some (by kernel_rfl))
 f318 := Tryz.func271.trans (congrArg some (by kernel_rfl))
 f319 := Tryz.func272.trans (congrArg some (by kernel_rfl))
 f320 := Tryz.func273.trans (congrArg some (by kernel_rfl))
 f337 := Tryz.func303.trans (congrArg some (by kernel_rfl))
 f338 := Tryz.func304.trans (congrArg some (by kernel_rfl))
 t0 := Tryz.underlying0
 a0 := Tryz.isAgg0
 z0 := Tryz.sizeOf0
 v0 := Tryz.zeroValue0
 t2 := Tryz.underlying2
 a2 := Tryz.isAgg2
 z2 := Tryz.sizeOf2
 v2 := Tryz.zeroValue2
 t3 := Tryz.underlying3
 a3 := Tryz.isAgg3
 z3 := Tryz.sizeOf3
 v3 := Tryz.zeroValue3
 t4 := Tryz.underlying4
 a4 := Tryz.isAgg4
 z4 := Tryz.sizeOf4
 v4 := Tryz.zeroValue4
 t5 := Tryz.underlying5
 a5 := Tryz.isAgg5
 z5 := Tryz.sizeOf5
 v5 := Tryz.zeroValue5
 t9 := Tryz.underlying9
 a9 := Tryz.isAgg9
 z9 := Tryz.sizeOf9
 v9 := Tryz.zeroValue9
 t20 := Tryz.underlying20
 a20 := Tryz.isAgg20
 z20 := Tryz.sizeOf20
 v20 := Tryz.zeroValue20
 t37 := Tryz.underlying161
 a37 := Tryz.isAgg161
 z37 := Tryz.sizeOf161
 v37 := Tryz.zeroValue161
 t46 := Tryz.underlying181
 a46 := Tryz.isAgg181
 z46 := Tryz.sizeOf181
 v46 := Tryz.zeroValue181
 t51 := Tryz.underlying241
 a51 := Tryz.isAgg241
 z51 := Tryz.sizeOf241
 v51 := Tryz.zeroValue241
 t53 := Tryz.underlying187
 a53 := Tryz.isAgg187
 z53 := Tryz.sizeOf187
 v53 := Tryz.zeroValue187
 t171 := Tryz.underlying288
 a171 := Tryz.isAgg288
 z171 := Tryz.sizeOf288
 v171 := Tryz.zeroValue288
 t173 := Tryz.underlying290
 a173 := Tryz.isAgg290
 z173 := Tryz.sizeOf290
 v173 := Tryz.zeroValue290
 t212 := Tryz.underlying335
 a212 := Tryz.isAgg335
 z212 := Tryz.sizeOf335
 v212 := Tryz.zeroValue335
 t213 := Tryz.underlying336
 a213 := Tryz.isAgg336
 z213 := Tryz.sizeOf336
 t232 := Tryz.underlying391
 a232 := Tryz.isAgg391
 z232 := Tryz.sizeOf391
 v232 := Tryz.zeroValue391
 t233 := Tryz.underlying392
 a233 := Tryz.isAgg392
 z233 := Tryz.sizeOf392
 v233 := Tryz.zeroValue392
 g17 := by kernel_rfl
 g18 := by kernel_rfl
 g19 := by kernel_rfl
 i0 := by kernel_rfl
 i2 := by kernel_rfl
 i3 := by kernel_rfl
 i4 := by kernel_rfl
 i5 := by kernel_rfl
 i9 := by kernel_rfl
 i20 := by kernel_rfl
 i37 := by kernel_rfl
 i46 := by kernel_rfl
 i51 := by kernel_rfl
 i53 := by kernel_rfl
 i171 := by kernel_rfl
 i173 := by kernel_rfl
 i212 := by kernel_rfl
 i232 := by kernel_rfl
 i233 := by kernel_rfl
 m17 := by kernel_rfl
 m18 := by kernel_rfl
 m19 := by kernel_rfl }
def Tryz.laysAtoi_ren : Go.Shelf.Ren := ⟨fun | 172 => 117 | 244 => 164 | 245 => 165 | 247 => 212 | 279 => 213 | 280 => 214 | 281 => 215 | 282 => 216 | 287 => 166 | 316 => 274 | 171 => 80 | 205 => 275 | 321 => 217 | 322 => 218 | 243 => 115 | 246 => 162 | 283 => 208 | 284 => 209 | 285 => 210 | 286 => 211 | 129 => 158 | 317 => 270 | 318 => 271 | 319 => 272 | 320 => 273 | 337 => 303 | 338 => 304 | n => n,fun | 9 => 9 | 3 => 3 | 75 => 189 | 76 => 190 | 4 => 4 | 5 => 5 | 167 => 292 | 37 => 161 | 0 => 0 | 85 => 293 | 2 => 2 | 168 => 295 | 53 => 187 | 175 => 192 | 46 => 181 | 210 => 339 | 127 => 247 | 145 => 375 | 143 => 373 | 21 => 21 | 171 => 288 | 173 => 290 | 212 => 335 | 51 => 241 | 20 => 20 | 213 => 336 | 232 => 391 | 233 => 392 | 80 => 203 | n => n,fun | 15 => 2 | 16 => 3 | 17 => 1 | 18 => 4 | 19 => 5 | n => n⟩
theorem Tryz.laysAtoi : Go.Proofs.Lays.n172 Tryz.prog Tryz.laysAtoi_ren := {
 mixed := by kernel_rfl
 f129 := Tryz.func158.trans (congrArg some (by kernel_rfl))
 f171 := Tryz.func80.trans (congrArg some (by kernel_rfl))
 f172 := Tryz.func117.trans (congrArg some (by kernel_rfl))
 f205 := Tryz.func275.trans (congrArg some (by kernel_rfl))
 f243 := Tryz.func115.trans (congrArg some (by kernel_rfl))
 f244 := Tryz.func164.trans (congrArg some (by kernel_rfl))
 f245 := Tryz.func165.trans (congrArg some (by kernel_rfl))
 f246 := Tryz.func162.trans (congrArg some (by kernel_rfl))
 f247 := Tryz.func212.trans (congrArg some (by kernel_rfl))
 f279 := Tryz.func213.trans (congrArg some (by kernel_rfl))
 f280 := Tryz.func214.trans (congrArg some (by kernel_rfl))
 f281 := Tryz.func215.trans (congrArg some (by kernel_rfl))
 f282 := Tryz.func216.trans (congrArg some (by kernel_rfl))
 f283 := Tryz.func208.trans (congrArg some (by kernel_rfl))
 f284 := Tryz.func209.trans (congrArg some (by kernel_rfl))
 f285 := Tryz.func210.trans (congrArg some (by kernel_rfl))
 f286 := Tryz.func211.trans (congrArg some (by kernel_rfl))
 f287 := Tryz.func166.trans (congrArg some (by kernel_rfl))
 f316 := Tryz.func274.trans (congrArg some (by kernel_rfl))
 f317 := Tryz.func270.trans (congrArg some (by kernel_rfl))
 f318 := Tryz.func271.trans (congrArg some (by kernel_rfl))
 f319 := Tryz.func272.trans (congrArg some (by kernel_rfl))
 f320 := Tryz.func273.trans (congrArg some (by kernel_rfl))
 f321 := Tryz.func217.trans (congrArg some (by kernel_rfl))
 f322 := Tryz.func218.trans (congrArg some (by kernel_rfl))
 f337 := Tryz.func303.trans (congrArg some (by kernel_rfl))
 f338 := Tryz.func304.trans (congrArg some (by kernel_rfl))
 t0 := Tryz.underlying0
 a0 := Tryz.isAgg0
 z0 := Tryz.sizeOf0
 v0 := Tryz.zeroValue0
 t2 := Tryz.underlying2
 a2 := Tryz.isAgg2
 z2 := Tryz.sizeOf2
 v2 := Tryz.zeroValue2
 t3 := Tryz.underlying3
 a3 := Tryz.isAgg3
 z3 := Tryz.sizeOf3
 v3 := Tryz.zeroValue3
 t4 := Tryz.underlying4
 a4 := Tryz.isAgg4
 z4 := Tryz.sizeOf4
 v4 := Tryz.zeroValue4
 t5 := Tryz.underlying5
 a5 := Tryz.isAgg5
 z5 := Tryz.sizeOf5
 v5 := Tryz.zeroValue5
 t9 := Tryz.underlying9
 a9 := Tryz.isAgg9
 z9 := Tryz.sizeOf9
 v9 := Tryz.zeroValue9
 t20 := Tryz.underlying20
 a20 := Tryz.isAgg20
 z20 := Tryz.sizeOf20
 v20 := Tryz.zeroValue20
 t21 := Tryz.underlying21
 a21 := Tryz.isAgg21
 z21 := Tryz.sizeOf21
 v21 := Tryz.zeroValue21
 t37 := Tryz.underlying161
 a37 := Tryz.isAgg161
 z37 := Tryz.sizeOf161
 v37 := Tryz.zeroValue161
 t46 := Tryz.underlying181
 a46 := Tryz.isAgg181
 z46 := Tryz.sizeOf181
 v46 := Tryz.zeroValue181
 t51 := Tryz.underlying241
 a51 := Tryz.isAgg241
 z51 := Tryz.sizeOf241
 v51 := Tryz.zeroValue241
 t53 := Tryz.underlying187
 a53 := Tryz.isAgg187
 z53 := Tryz.sizeOf187
 v53 := Tryz.zeroValue187
 t75 := Tryz.underlying189
 a75 := Tryz.isAgg189
 z75 := Tryz.sizeOf189
 v75 := Tryz.zeroValue189
 t76 := Tryz.underlying190
 a76 := Tryz.isAgg190
 z76 := Tryz.sizeOf190
 v76 := Tryz.zeroValue190
 t85 := Tryz.underlying293
 a85 := Tryz.isAgg293
 z85 := Tryz.sizeOf293
 v85 := Tryz.zeroValue293
 t127 := Tryz.underlying247
 a127 := Tryz.isAgg247
 z127 := Tryz.sizeOf247
 v127 := Tryz.zeroValue247
 t143 := Tryz.underlying373
 a143 := Tryz.isAgg373
 z143 := Tryz.sizeOf373
 v143 := Tryz.zeroValue373
 t145 := Tryz.underlying375
 a145 := Tryz.isAgg375
 z145 := Tryz.sizeOf375
 v145 := Tryz.zeroValue375
 t167 := Tryz.underlying292
 a167 := Tryz.isAgg292
 z167 := Tryz.sizeOf292
 v167 := Tryz.zeroValue292
 t168 := Tryz.underlying295
 a168 := Tryz.isAgg295
 z168 := Tryz.sizeOf295
 v168 := Tryz.zeroValue295
 t171 := Tryz.underlying288
 a171 := Tryz.isAgg288
 z171 := Tryz.sizeOf288
 v171 := Tryz.zeroValue288
 t173 := Tryz.underlying290
 a173 := Tryz.isAgg290
 z173 := Tryz.sizeOf290
 v173 := Tryz.zeroValue290
 t175 := Tryz.underlying192
 a175 := Tryz.isAgg192
 z175 := Tryz.sizeOf192
 v175 := Tryz.zeroValue192
 t210 := Tryz.underlying339
 a210 := Tryz.isAgg339
 z210 := Tryz.sizeOf339
 v210 := Tryz.zeroValue339
 t212 := Tryz.underlying335
 a212 := Tryz.isAgg335
 z212 := Tryz.sizeOf335
 v212 := Tryz.zeroValue335
 t213 := Tryz.underlying336
 a213 := Tryz.isAgg336
 z213 := Tryz.sizeOf336
 t232 := Tryz.underlying391
 a232 := Tryz.isAgg391
 z232 := Tryz.sizeOf391
 v232 := Tryz.zeroValue391
 t233 := Tryz.underlying392
 a233 := Tryz.isAgg392
 z233 := Tryz.sizeOf392
 v233 := Tryz.zeroValue392
 g15 := by kernel_rfl
 g16 := by kernel_rfl
 g17 := by kernel_rfl
 g18 := by kernel_rfl
 g19 := by kernel_rfl }
theorem Tryz.gentle_bytes (w : World) (e : TypeId) (s : ByteArray) : Gentle w (Lib.bytesWorld w e s) :=
 ⟨by rw [Lib.bytesWorld_size]; omega,fun k hk => Lib.bytesWorld_at_old w e s k hk,rfl,rfl,rfl,by first | exact Nat.le_refl _ | exact Nat.le_add_right _ _ | exact Nat.le_succ _⟩
theorem Tryz.aItoa (n : Int) (h0 : -9223372036854775808 ≤ n) (h1 : n ≤ 9223372036854775807) (mem : Mem) : ACallsTo Tryz.prog 80 [.int .i64 n] mem (.str (intS n)) mem :=
 ACallsTo.of_calls (Tryz.funOk _ Tryz.func80 (by kernel_rfl) (by kernel_rfl)) (Vs := [.int .i64 n]) (fun μ n Us h => by simpa [VRels,VRel] using h) (V := .string ⟨(intS n).toArray⟩) (fun μ n => by simp [VRel])
  (fun base w hG => (Any.strconv_Itoa Tryz.laysItoa n h0 h1 w (hG.tabOf (by kernel_rfl))).mono fun e w' ⟨h1,k,os,h2⟩ => ⟨by rw [h1,intS_eq],h2 ▸ Gentle.grow w k os⟩) mem
theorem Tryz.aAtoi (s : List UInt8) (n : Int) (hl : s.length ≤ 18) (h : Lib.atoi s = some n) (mem : Mem) : ACallsTo Tryz.prog 117 [.str s] mem (.tuple [.int .i64 n,.nilIface]) mem :=
 ACallsTo.of_calls (Tryz.funOk _ Tryz.func117 (by kernel_rfl) (by kernel_rfl)) (Vs := [.string ⟨s.toArray⟩]) (fun μ n Us h => by simpa [VRels,VRel] using h) (V := .tuple #[.int .i64 n,.nilIface]) (fun μ n => by simp only [VRel,VRels]; exact ⟨_,rfl,_,_,rfl,rfl,_,_,rfl,rfl,rfl⟩)
  (fun base w hG => (Any.strconv_Atoi Tryz.laysAtoi ⟨s.toArray⟩ n (by simpa [ByteArray.size] using hl) (by simpa using h) w).mono fun e w' ⟨h1,t,h2⟩ => ⟨h1,by rw [h2]; exact Tryz.gentle_bytes _ _ _⟩) mem
end Go.Proofs
namespace Go.Proofs
open Go.Eng
noncomputable def Tryz.baseF3 (f : FuncId) (args : List AV) : Option AV :=
 match f,args with
 | 160,[.str s,.str p] => some (.tuple [.str (Lib.trimPrefix s p),.bool (Lib.hasPrefix s p)])
 | 132,[.str s,.str p] => some (.str (Lib.trimPrefix s p))
 | _,_ => none
theorem Tryz.base3_ok : OracleOk Tryz.prog (pureO Tryz.baseF3) := pureO_ok fun f args v h mem => by
 unfold Tryz.baseF3 at h
 split at h
 ·cases h; exact Tryz.aCutPrefix0 _ _ mem
 ·cases h; exact Tryz.aTrimPrefix0 _ _ mem
 ·cases h
theorem Tryz.aCutPrefix (s p : List UInt8) (mem : Mem) : ACallsTo Tryz.prog 113 [.str s,.str p] mem (.tuple [.str (Lib.trimPrefix s p),.bool (Lib.hasPrefix s p)]) mem := by
 have hG : fnOf Tryz.prog 113 = some Tryz.f113 := by kernel_rfl
 refine Tryz.run Tryz.base3_ok (lv := fun _ => []) (K := 1) rfl rfl ?_ mem
 simp [callFn,hG,Tryz.f113,pureO,Tryz.baseF3]
theorem Tryz.aTrimPrefix (s p : List UInt8) (mem : Mem) : ACallsTo Tryz.prog 97 [.str s,.str p] mem (.str (Lib.trimPrefix s p)) mem := by
 have hG : fnOf Tryz.prog 97 = some Tryz.f97 := by kernel_rfl
 refine Tryz.run Tryz.base3_ok (lv := fun _ => []) (K := 1) rfl rfl ?_ mem
 simp [callFn,hG,Tryz.f97,pureO,Tryz.baseF3]
def fitsI (n : Int) : Bool := decide (-9223372036854775808 ≤ n) && decide (n ≤ 9223372036854775807)
noncomputable def Tryz.strF (f : FuncId) (args : List AV) : Option AV :=
 match f,args with
 | 116,[.str s,.str p] => some (.bool (Lib.hasPrefix s p))
 | 98,[.str s,.str p] => some (.int .i64 (Lib.compareBytes s p))
 | 94,[.str s,.int .u8 c] => if 0 ≤ c then some (.int .i64 (Lib.indexByte s c.toNat.toUInt8)) else none
 | 77,[.str s,.str [c]] => if s.length ≤ 1000000000 then some (if 0 ≤ Lib.indexByte s c then .tuple [.str (s.take (Lib.indexByte s c).toNat),.str (s.drop ((Lib.indexByte s c).toNat + 1)),.bool true] else .tuple [.str s,.str [],.bool false]) else none
 | 113,[.str s,.str p] => some (.tuple [.str (Lib.trimPrefix s p),.bool (Lib.hasPrefix s p)])
 | 97,[.str s,.str p] => some (.str (Lib.trimPrefix s p))
 | 80,[.int .i64 n] => if fitsI n then some (.str (intS n)) else none
 | 117,[.str s] => if s.length ≤ 18 then match Lib.atoi s with
  | some n => some (.tuple [.int .i64 n,.nilIface])
  | none => none
  else none
 | _,_ => none
theorem Tryz.str_ok : OracleOk Tryz.prog (pureO Tryz.strF) := pureO_ok fun f args v h mem => by
 unfold Tryz.strF at h
 split at h
 ·cases h; exact Tryz.aHasPrefix _ _ mem
 ·cases h; exact Tryz.aCompare _ _ mem
 ·split at h
  ·rename_i hc; cases h; exact Tryz.aIndexByteS _ _ hc mem
  ·cases h
 ·split at h
  ·rename_i hl; cases h; exact Tryz.aCut _ _ mem hl
  ·cases h
 ·cases h; exact Tryz.aCutPrefix _ _ mem
 ·cases h; exact Tryz.aTrimPrefix _ _ mem
 ·split at h
  ·rename_i hn
   cases h
   simp only [fitsI,Bool.and_eq_true,decide_eq_true_eq] at hn
   exact Tryz.aItoa _ hn.1 hn.2 mem
  ·cases h
 ·split at h
  ·rename_i hl
   split at h
   ·rename_i n hn; cases h; exact Tryz.aAtoi _ _ hl hn mem
   ·cases h
  ·cases h
 ·cases h
end Go.Proofs
