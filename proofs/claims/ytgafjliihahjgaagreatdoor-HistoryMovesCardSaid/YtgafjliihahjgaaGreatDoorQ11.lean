/- See Q54. -/
import Derived.Test.YtgafjliihahjgaaGreatDoorQ10
import Derived.Test.YtgafjliihahjgaaGreatDoorQ09
import Derived.Shelf.Strconv.Itoa3
import Derived.Shelf.Strconv.Atoi
import Derived.Ground.NamesProg
set_option linter.all false
namespace Go.Proofs
open Go.Eng Go.Shelf
def tX:Go.Shelf.Ren:=⟨fun | 171=>104 | 243=>158 | 246=>236 | 283=>273 | 284=>274 | 285=>275 | 286=>276 | 129=>293 | 317=>292 | 318=>294 | 319=>295 | 320=>296 | 337=>299 | 338=>300 | n=>n,fun | 3=>3 | 9=>9 | 2=>2 | 4=>4 | 171=>331 | 0=>0 | 53=>280 | 37=>198 | 5=>5 | 173=>334 | 212=>354 | 51=>343 | 20=>20 | 213=>355 | 46=>322 | 232=>367 | 233=>368 | n=>n,fun | 17=>3 | 18=>4 | 19=>5 | n=>n⟩
theorem CA:Go.Proofs.LaysM.n171 Tryz.prog tX:={
 mixed:=by kernel_rfl
 f129:=Tryz.func293.trans (congrArg some (by kernel_rfl))
 f171:=Tryz.func104.trans (congrArg some (by kernel_rfl))
 f243:=Tryz.func158.trans (congrArg some (by kernel_rfl))
 f246:=Tryz.func236.trans (congrArg some (by kernel_rfl))
 f283:=Tryz.func273.trans (congrArg some (by kernel_rfl))
 f284:=Tryz.func274.trans (congrArg some (by kernel_rfl))
 f285:=Tryz.func275.trans (congrArg some (by kernel_rfl))
 f286:=Tryz.func276.trans (congrArg some (by kernel_rfl))
 f317:=Tryz.func292.trans (congrArg some (by kernel_rfl))
 f318:=Tryz.func294.trans (congrArg some (by kernel_rfl))
 f319:=Tryz.func295.trans (congrArg some (by kernel_rfl))
 f320:=Tryz.func296.trans (congrArg some (by kernel_rfl))
 f337:=Tryz.func299.trans (congrArg some (by kernel_rfl))
 f338:=Tryz.func300.trans (congrArg some (by kernel_rfl))
 t0:=Tryz.underlying0
 a0:=Tryz.isAgg0
 z0:=Tryz.sizeOf0
 v0:=Tryz.zeroValue0
 t2:=Tryz.underlying2
 a2:=Tryz.isAgg2
 z2:=Tryz.sizeOf2
 v2:=Tryz.zeroValue2
 t3:=Tryz.underlying3
 a3:=Tryz.isAgg3
 z3:=Tryz.sizeOf3
 v3:=Tryz.zeroValue3
 t4:=Tryz.underlying4
 a4:=Tryz.isAgg4
 z4:=Tryz.sizeOf4
 v4:=Tryz.zeroValue4
 t5:=Tryz.underlying5
 a5:=Tryz.isAgg5
 z5:=Tryz.sizeOf5
 v5:=Tryz.zeroValue5
 t9:=Tryz.underlying9
 a9:=Tryz.isAgg9
 z9:=Tryz.sizeOf9
 v9:=Tryz.zeroValue9
 t20:=Tryz.underlying20
 a20:=Tryz.isAgg20
 z20:=Tryz.sizeOf20
 v20:=Tryz.zeroValue20
 t37:=Tryz.underlying198
 a37:=Tryz.isAgg198
 z37:=Tryz.sizeOf198
 v37:=Tryz.zeroValue198
 t46:=Tryz.underlying322
 a46:=Tryz.isAgg322
 z46:=Tryz.sizeOf322
 v46:=Tryz.zeroValue322
 t51:=Tryz.underlying343
 a51:=Tryz.isAgg343
 z51:=Tryz.sizeOf343
 v51:=Tryz.zeroValue343
 t53:=Tryz.underlying280
 a53:=Tryz.isAgg280
 z53:=Tryz.sizeOf280
 v53:=Tryz.zeroValue280
 t171:=Tryz.underlying331
 a171:=Tryz.isAgg331
 z171:=Tryz.sizeOf331
 v171:=Tryz.zeroValue331
 t173:=Tryz.underlying334
 a173:=Tryz.isAgg334
 z173:=Tryz.sizeOf334
 v173:=Tryz.zeroValue334
 t212:=Tryz.underlying354
 a212:=Tryz.isAgg354
 z212:=Tryz.sizeOf354
 v212:=Tryz.zeroValue354
 t213:=Tryz.underlying355
 a213:=Tryz.isAgg355
 z213:=Tryz.sizeOf355
 t232:=Tryz.underlying367
 a232:=Tryz.isAgg367
 z232:=Tryz.sizeOf367
 v232:=Tryz.zeroValue367
 t233:=Tryz.underlying368
 a233:=Tryz.isAgg368
 z233:=Tryz.sizeOf368
 v233:=Tryz.zeroValue368
 g17:=by kernel_rfl
 g18:=by kernel_rfl
 g19:=by kernel_rfl
 i0:=by kernel_rfl
 i2:=by kernel_rfl
 i3:=by kernel_rfl
 i4:=by kernel_rfl
 i5:=by kernel_rfl
 i9:=by kernel_rfl
 i20:=by kernel_rfl
 i37:=by kernel_rfl
 i46:=by kernel_rfl
 i51:=by kernel_rfl
 i53:=by kernel_rfl
 i171:=by kernel_rfl
 i173:=by kernel_rfl
 i212:=by kernel_rfl
 i232:=by kernel_rfl
 i233:=by kernel_rfl
 m17:=by kernel_rfl
 m18:=by kernel_rfl
 m19:=by kernel_rfl }
def tW:Go.Shelf.Ren:=⟨fun | 172=>150 | 244=>231 | 245=>232 | 247=>268 | 279=>269 | 280=>270 | 281=>271 | 282=>272 | 287=>264 | 316=>290 | 171=>104 | 205=>291 | 321=>287 | 322=>288 | 243=>158 | 246=>236 | 283=>273 | 284=>274 | 285=>275 | 286=>276 | 129=>293 | 317=>292 | 318=>294 | 319=>295 | 320=>296 | 337=>299 | 338=>300 | n=>n,fun | 9=>9 | 3=>3 | 75=>240 | 76=>241 | 4=>4 | 5=>5 | 167=>325 | 37=>198 | 0=>0 | 85=>326 | 2=>2 | 168=>328 | 53=>280 | 175=>281 | 46=>322 | 210=>351 | 127=>324 | 145=>361 | 143=>359 | 21=>21 | 171=>331 | 173=>334 | 212=>354 | 51=>343 | 20=>20 | 213=>355 | 232=>367 | 233=>368 | 80=>294 | n=>n,fun | 15=>1 | 16=>2 | 17=>3 | 18=>4 | 19=>5 | n=>n⟩
theorem Cz:Go.Proofs.Lays.n172 Tryz.prog tW:={
 mixed:=by kernel_rfl
 f129:=Tryz.func293.trans (congrArg some (by kernel_rfl))
 f171:=Tryz.func104.trans (congrArg some (by kernel_rfl))
 f172:=Tryz.func150.trans (congrArg some (by kernel_rfl))
 f205:=Tryz.func291.trans (congrArg some (by kernel_rfl))
 f243:=Tryz.func158.trans (congrArg some (by kernel_rfl))
 f244:=Tryz.func231.trans (congrArg some (by kernel_rfl))
 f245:=Tryz.func232.trans (congrArg some (by kernel_rfl))
 f246:=Tryz.func236.trans (congrArg some (by kernel_rfl))
 f247:=Tryz.func268.trans (congrArg some (by kernel_rfl))
 f279:=Tryz.func269.trans (congrArg some (by kernel_rfl))
 f280:=Tryz.func270.trans (congrArg some (by kernel_rfl))
 f281:=Tryz.func271.trans (congrArg some (by kernel_rfl))
 f282:=Tryz.func272.trans (congrArg some (by kernel_rfl))
 f283:=Tryz.func273.trans (congrArg some (by kernel_rfl))
 f284:=Tryz.func274.trans (congrArg some (by kernel_rfl))
 f285:=Tryz.func275.trans (congrArg some (by kernel_rfl))
 f286:=Tryz.func276.trans (congrArg some (by kernel_rfl))
 f287:=Tryz.func264.trans (congrArg some (by kernel_rfl))
 f316:=Tryz.func290.trans (congrArg some (by kernel_rfl))
 f317:=Tryz.func292.trans (congrArg some (by kernel_rfl))
 f318:=Tryz.func294.trans (congrArg some (by kernel_rfl))
 f319:=Tryz.func295.trans (congrArg some (by kernel_rfl))
 f320:=Tryz.func296.trans (congrArg some (by kernel_rfl))
 f321:=Tryz.func287.trans (congrArg some (by kernel_rfl))
 f322:=Tryz.func288.trans (congrArg some (by kernel_rfl))
 f337:=Tryz.func299.trans (congrArg some (by kernel_rfl))
 f338:=Tryz.func300.trans (congrArg some (by kernel_rfl))
 t0:=Tryz.underlying0
 a0:=Tryz.isAgg0
 z0:=Tryz.sizeOf0
 v0:=Tryz.zeroValue0
 t2:=Tryz.underlying2
 a2:=Tryz.isAgg2
 z2:=Tryz.sizeOf2
 v2:=Tryz.zeroValue2
 t3:=Tryz.underlying3
 a3:=Tryz.isAgg3
 z3:=Tryz.sizeOf3
 v3:=Tryz.zeroValue3
 t4:=Tryz.underlying4
 a4:=Tryz.isAgg4
 z4:=Tryz.sizeOf4
 v4:=Tryz.zeroValue4
 t5:=Tryz.underlying5
 a5:=Tryz.isAgg5
 z5:=Tryz.sizeOf5
 v5:=Tryz.zeroValue5
 t9:=Tryz.underlying9
 a9:=Tryz.isAgg9
 z9:=Tryz.sizeOf9
 v9:=Tryz.zeroValue9
 t20:=Tryz.underlying20
 a20:=Tryz.isAgg20
 z20:=Tryz.sizeOf20
 v20:=Tryz.zeroValue20
 t21:=Tryz.underlying21
 a21:=Tryz.isAgg21
 z21:=Tryz.sizeOf21
 v21:=Tryz.zeroValue21
 t37:=Tryz.underlying198
 a37:=Tryz.isAgg198
 z37:=Tryz.sizeOf198
 v37:=Tryz.zeroValue198
 t46:=Tryz.underlying322
 a46:=Tryz.isAgg322
 z46:=Tryz.sizeOf322
 v46:=Tryz.zeroValue322
 t51:=Tryz.underlying343
 a51:=Tryz.isAgg343
 z51:=Tryz.sizeOf343
 v51:=Tryz.zeroValue343
 t53:=Tryz.underlying280
 a53:=Tryz.isAgg280
 z53:=Tryz.sizeOf280
 v53:=Tryz.zeroValue280
 t75:=Tryz.underlying240
 a75:=Tryz.isAgg240
 z75:=Tryz.sizeOf240
 v75:=Tryz.zeroValue240
 t76:=Tryz.underlying241
 a76:=Tryz.isAgg241
 z76:=Tryz.sizeOf241
 v76:=Tryz.zeroValue241
 t85:=Tryz.underlying326
 a85:=Tryz.isAgg326
 z85:=Tryz.sizeOf326
 v85:=Tryz.zeroValue326
 t127:=Tryz.underlying324
 a127:=Tryz.isAgg324
 z127:=Tryz.sizeOf324
 v127:=Tryz.zeroValue324
 t143:=Tryz.underlying359
 a143:=Tryz.isAgg359
 z143:=Tryz.sizeOf359
 v143:=Tryz.zeroValue359
 t145:=Tryz.underlying361
 a145:=Tryz.isAgg361
 z145:=Tryz.sizeOf361
 v145:=Tryz.zeroValue361
 t167:=Tryz.underlying325
 a167:=Tryz.isAgg325
 z167:=Tryz.sizeOf325
 v167:=Tryz.zeroValue325
 t168:=Tryz.underlying328
 a168:=Tryz.isAgg328
 z168:=Tryz.sizeOf328
 v168:=Tryz.zeroValue328
 t171:=Tryz.underlying331
 a171:=Tryz.isAgg331
 z171:=Tryz.sizeOf331
 v171:=Tryz.zeroValue331
 t173:=Tryz.underlying334
 a173:=Tryz.isAgg334
 z173:=Tryz.sizeOf334
 v173:=Tryz.zeroValue334
 t175:=Tryz.underlying281
 a175:=Tryz.isAgg281
 z175:=Tryz.sizeOf281
 v175:=Tryz.zeroValue281
 t210:=Tryz.underlying351
 a210:=Tryz.isAgg351
 z210:=Tryz.sizeOf351
 v210:=Tryz.zeroValue351
 t212:=Tryz.underlying354
 a212:=Tryz.isAgg354
 z212:=Tryz.sizeOf354
 v212:=Tryz.zeroValue354
 t213:=Tryz.underlying355
 a213:=Tryz.isAgg355
 z213:=Tryz.sizeOf355
 t232:=Tryz.underlying367
 a232:=Tryz.isAgg367
 z232:=Tryz.sizeOf367
 v232:=Tryz.zeroValue367
 t233:=Tryz.underlying368
 a233:=Tryz.isAgg368
 z233:=Tryz.sizeOf368
 v233:=Tryz.zeroValue368
 g15:=by kernel_rfl
 g16:=by kernel_rfl
 g17:=by kernel_rfl
 g18:=by kernel_rfl
 g19:=by kernel_rfl }
theorem lr(w:World) (e:TypeId) (s:ByteArray):Gentle w (Lib.bytesWorld w e s):=
 ⟨by rw[Lib.bytesWorld_size];omega,fun k hk=>Lib.bytesWorld_at_old w e s k hk,rfl,rfl,rfl,by first | exact Nat.le_refl _ | exact Nat.le_add_right _ _ | exact Nat.le_succ _⟩
theorem Ly(n:Int) (h0: -9223372036854775808≤n) (h1:n≤9223372036854775807) (mem:Mem):ACallsTo Tryz.prog 104 [.int .i64 n] mem (.str (bT n)) mem:=
 ACallsTo.of_calls (fO _ Tryz.func104 (by kernel_rfl) (by kernel_rfl)) (Vs:=[.int .i64 n]) (fun μ n Us h=>by simpa [VRels,VRel] using h) (V:=.string ⟨(bT n).toArray⟩) (fun μ n=>by simp[VRel])
  (fun base w hG=>(Any.strconv_Itoa CA n h0 h1 w (hG.tabOf (by kernel_rfl))).mono fun e w' ⟨h1,k,os,h2⟩=>⟨by rw[h1,Pe],h2▸Gentle.grow w k os⟩) mem
theorem Lj(s:List UInt8) (n:Int) (hl:s.length≤18) (h:Lib.atoi s=some n) (mem:Mem):ACallsTo Tryz.prog 150 [.str s] mem (.tuple [.int .i64 n,.nilIface]) mem:=
 ACallsTo.of_calls (fO _ Tryz.func150 (by kernel_rfl) (by kernel_rfl)) (Vs:=[.string ⟨s.toArray⟩]) (fun μ n Us h=>by simpa [VRels,VRel] using h) (V:=.tuple #[.int .i64 n,.nilIface]) (fun μ n=>by simp only[VRel,VRels];exact⟨_,rfl,_,_,rfl,rfl,_,_,rfl,rfl,rfl⟩)
  (fun base w hG=>(Any.strconv_Atoi Cz ⟨s.toArray⟩ n (by simpa [ByteArray.size] using hl) (by simpa using h) w).mono fun e w' ⟨h1,t,h2⟩=>⟨h1,by rw[h2];exact lr _ _ _⟩) mem
end Go.Proofs
namespace Go.Proofs
open Go.Eng
noncomputable def lU(f:FuncId) (args:List AV):Option AV:=
 match f,args with
 |217,[.str s,.str p]=>some (.tuple [.str (Lib.trimPrefix s p),.bool (Lib.hasPrefix s p)])
 |219,[.str s,.str p]=>some (.str (Lib.trimPrefix s p))
 |_,_=>none
theorem rP:OracleOk Tryz.prog (af lU):=bq fun f args v h mem=>by
 unfold lU at h;split at h
 ·cases h;exact vM _ _ mem
 ·cases h;exact tN _ _ mem
 ·cases h
theorem xr(s p:List UInt8) (mem:Mem):ACallsTo Tryz.prog 142 [.str s,.str p] mem (.tuple [.str (Lib.trimPrefix s p),.bool (Lib.hasPrefix s p)]) mem:=by
 have hG:aL Tryz.prog 142=some Tryz.f142:=by kernel_rfl
 refine aq rP (lv:=fun _=>[]) (K:=1) rfl rfl ?_ mem;simp[aa,hG,Tryz.f142,af,lU]
theorem vZ(s p:List UInt8) (mem:Mem):ACallsTo Tryz.prog 144 [.str s,.str p] mem (.str (Lib.trimPrefix s p)) mem:=by
 have hG:aL Tryz.prog 144=some Tryz.f144:=by kernel_rfl
 refine aq rP (lv:=fun _=>[]) (K:=1) rfl rfl ?_ mem;simp[aa,hG,Tryz.f144,af,lU]
def de(n:Int):Bool:=decide (-9223372036854775808≤n)&&decide (n≤9223372036854775807)
noncomputable def aO(f:FuncId) (args:List AV):Option AV:=
 match f,args with
 |218,[.str s,.str p]=>some (.bool (Lib.hasPrefix s p))
 |145,[.str s,.str p]=>some (.int .i64 (Lib.compareBytes s p))
 |209,[.str s,.int .u8 c]=>if 0≤c then some (.int .i64 (Lib.indexByte s c.toNat.toUInt8)) else none
 |93,[.str s,.str [c]]=>if s.length≤1000000000 then some (if 0≤Lib.indexByte s c then .tuple [.str (s.take (Lib.indexByte s c).toNat),.str (s.drop ((Lib.indexByte s c).toNat+1)),.bool true] else .tuple [.str s,.str [],.bool false]) else none
 |142,[.str s,.str p]=>some (.tuple [.str (Lib.trimPrefix s p),.bool (Lib.hasPrefix s p)])
 |144,[.str s,.str p]=>some (.str (Lib.trimPrefix s p))
 |104,[.int .i64 n]=>if de n then some (.str (bT n)) else none
 |150,[.str s]=>if s.length≤18 then match Lib.atoi s with
  |some n=>some (.tuple [.int .i64 n,.nilIface])
  |none=>none
  else none
 |_,_=>none
theorem dq:OracleOk Tryz.prog (af aO):=bq fun f args v h mem=>by
 unfold aO at h;split at h
 ·cases h;exact xJ _ _ mem
 ·cases h;exact BQ _ _ mem
 ·split at h
  ·rename_i hc;cases h;exact vV _ _ hc mem
  ·cases h
 ·split at h
  ·rename_i hl;cases h;exact NA _ _ mem hl
  ·cases h
 ·cases h;exact xr _ _ mem
 ·cases h;exact vZ _ _ mem
 ·split at h
  ·rename_i hn
   cases h;simp only[de,Bool.and_eq_true,decide_eq_true_eq] at hn;exact Ly _ hn.1 hn.2 mem
  ·cases h
 ·split at h
  ·rename_i hl
   split at h
   ·rename_i n hn;cases h;exact Lj _ _ hl hn mem
   ·cases h
  ·cases h
 ·cases h
end Go.Proofs
