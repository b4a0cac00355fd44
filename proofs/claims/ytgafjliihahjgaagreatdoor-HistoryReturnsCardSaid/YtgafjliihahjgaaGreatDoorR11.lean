/- See R54. -/
import Derived.Test.YtgafjliihahjgaaGreatDoorR10
import Derived.Test.YtgafjliihahjgaaGreatDoorR09
import Derived.Shelf.Strconv.Itoa3
import Derived.Shelf.Strconv.Atoi
import Derived.Ground.NamesProg
set_option linter.all false
namespace Go.Proofs
open Go.Eng Go.Shelf
open Tryz
def vX:Go.Shelf.Ren:=⟨fun | 171=>104 | 243=>158 | 246=>236 | 283=>273 | 284=>274 | 285=>275 | 286=>276 | 129=>293 | 317=>292 | 318=>294 | 319=>295 | 320=>296 | 337=>299 | 338=>300 | n=>n,fun | 3=>3 | 9=>9 | 2=>2 | 4=>4 | 171=>331 | 0=>0 | 53=>280 | 37=>198 | 5=>5 | 173=>334 | 212=>354 | 51=>343 | 20=>20 | 213=>355 | 46=>322 | 232=>367 | 233=>368 | n=>n,fun | 17=>3 | 18=>4 | 19=>5 | n=>n⟩
theorem EC:Go.Proofs.LaysM.n171 prog vX:={
 mixed:=by kernel_rfl
 f129:=func293.trans (congrArg some (by kernel_rfl))
 f171:=func104.trans (congrArg some (by kernel_rfl))
 f243:=func158.trans (congrArg some (by kernel_rfl))
 f246:=func236.trans (congrArg some (by kernel_rfl))
 f283:=func273.trans (congrArg some (by kernel_rfl))
 f284:=func274.trans (congrArg some (by kernel_rfl))
 f285:=func275.trans (congrArg some (by kernel_rfl))
 f286:=func276.trans (congrArg some (by kernel_rfl))
 f317:=func292.trans (congrArg some (by kernel_rfl))
 f318:=func294.trans (congrArg some (by kernel_rfl))
 f319:=func295.trans (congrArg some (by kernel_rfl))
 f320:=func296.trans (congrArg some (by kernel_rfl))
 f337:=func299.trans (congrArg some (by kernel_rfl))
 f338:=func300.trans (congrArg some (by kernel_rfl))
 t0:=underlying0
 a0:=isAgg0
 z0:=sizeOf0
 v0:=zeroValue0
 t2:=underlying2
 a2:=isAgg2
 z2:=sizeOf2
 v2:=zeroValue2
 t3:=underlying3
 a3:=isAgg3
 z3:=sizeOf3
 v3:=zeroValue3
 t4:=underlying4
 a4:=isAgg4
 z4:=sizeOf4
 v4:=zeroValue4
 t5:=underlying5
 a5:=isAgg5
 z5:=sizeOf5
 v5:=zeroValue5
 t9:=underlying9
 a9:=isAgg9
 z9:=sizeOf9
 v9:=zeroValue9
 t20:=underlying20
 a20:=isAgg20
 z20:=sizeOf20
 v20:=zeroValue20
 t37:=underlying198
 a37:=isAgg198
 z37:=sizeOf198
 v37:=zeroValue198
 t46:=underlying322
 a46:=isAgg322
 z46:=sizeOf322
 v46:=zeroValue322
 t51:=underlying343
 a51:=isAgg343
 z51:=sizeOf343
 v51:=zeroValue343
 t53:=underlying280
 a53:=isAgg280
 z53:=sizeOf280
 v53:=zeroValue280
 t171:=underlying331
 a171:=isAgg331
 z171:=sizeOf331
 v171:=zeroValue331
 t173:=underlying334
 a173:=isAgg334
 z173:=sizeOf334
 v173:=zeroValue334
 t212:=underlying354
 a212:=isAgg354
 z212:=sizeOf354
 v212:=zeroValue354
 t213:=underlying355
 a213:=isAgg355
 z213:=sizeOf355
 t232:=underlying367
 a232:=isAgg367
 z232:=sizeOf367
 v232:=zeroValue367
 t233:=underlying368
 a233:=isAgg368
 z233:=sizeOf368
 v233:=zeroValue368
 g17:=by kernel_rfl
 g18:=by kernel_rfl
 g19:=by kernel_rfl
 i0:=by kernel_rfl
 i2:=by kernel_rfl
 i3:=by kernel_rfl
 i4:=by kernel_rfl
 i5:=by kernel_rfl
 i9:=by kernel_rfl
 i20:=by kernel_rfl
 i37:=by kernel_rfl
 i46:=by kernel_rfl
 i51:=by kernel_rfl
 i53:=by kernel_rfl
 i171:=by kernel_rfl
 i173:=by kernel_rfl
 i212:=by kernel_rfl
 i232:=by kernel_rfl
 i233:=by kernel_rfl
 m17:=by kernel_rfl
 m18:=by kernel_rfl
 m19:=by kernel_rfl }
def vW:Go.Shelf.Ren:=⟨fun | 172=>150 | 244=>231 | 245=>232 | 247=>268 | 279=>269 | 280=>270 | 281=>271 | 282=>272 | 287=>264 | 316=>290 | 171=>104 | 205=>291 | 321=>287 | 322=>288 | 243=>158 | 246=>236 | 283=>273 | 284=>274 | 285=>275 | 286=>276 | 129=>293 | 317=>292 | 318=>294 | 319=>295 | 320=>296 | 337=>299 | 338=>300 | n=>n,fun | 9=>9 | 3=>3 | 75=>240 | 76=>241 | 4=>4 | 5=>5 | 167=>325 | 37=>198 | 0=>0 | 85=>326 | 2=>2 | 168=>328 | 53=>280 | 175=>281 | 46=>322 | 210=>351 | 127=>324 | 145=>361 | 143=>359 | 21=>21 | 171=>331 | 173=>334 | 212=>354 | 51=>343 | 20=>20 | 213=>355 | 232=>367 | 233=>368 | 80=>294 | n=>n,fun | 15=>1 | 16=>2 | 17=>3 | 18=>4 | 19=>5 | n=>n⟩
theorem EB:Go.Proofs.Lays.n172 prog vW:={
 mixed:=by kernel_rfl
 f129:=func293.trans (congrArg some (by kernel_rfl))
 f171:=func104.trans (congrArg some (by kernel_rfl))
 f172:=func150.trans (congrArg some (by kernel_rfl))
 f205:=func291.trans (congrArg some (by kernel_rfl))
 f243:=func158.trans (congrArg some (by kernel_rfl))
 f244:=func231.trans (congrArg some (by kernel_rfl))
 f245:=func232.trans (congrArg some (by kernel_rfl))
 f246:=func236.trans (congrArg some (by kernel_rfl))
 f247:=func268.trans (congrArg some (by kernel_rfl))
 f279:=func269.trans (congrArg some (by kernel_rfl))
 f280:=func270.trans (congrArg some (by kernel_rfl))
 f281:=func271.trans (congrArg some (by kernel_rfl))
 f282:=func272.trans (congrArg some (by kernel_rfl))
 f283:=func273.trans (congrArg some (by kernel_rfl))
 f284:=func274.trans (congrArg some (by kernel_rfl))
 f285:=func275.trans (congrArg some (by kernel_rfl))
 f286:=func276.trans (congrArg some (by kernel_rfl))
 f287:=func264.trans (congrArg some (by kernel_rfl))
 f316:=func290.trans (congrArg some (by kernel_rfl))
 f317:=func292.trans (congrArg some (by kernel_rfl))
 f318:=func294.trans (congrArg some (by kernel_rfl))
 f319:=func295.trans (congrArg some (by kernel_rfl))
 f320:=func296.trans (congrArg some (by kernel_rfl))
 f321:=func287.trans (congrArg some (by kernel_rfl))
 f322:=func288.trans (congrArg some (by kernel_rfl))
 f337:=func299.trans (congrArg some (by kernel_rfl))
 f338:=func300.trans (congrArg some (by kernel_rfl))
 t0:=underlying0
 a0:=isAgg0
 z0:=sizeOf0
 v0:=zeroValue0
 t2:=underlying2
 a2:=isAgg2
 z2:=sizeOf2
 v2:=zeroValue2
 t3:=underlying3
 a3:=isAgg3
 z3:=sizeOf3
 v3:=zeroValue3
 t4:=underlying4
 a4:=isAgg4
 z4:=sizeOf4
 v4:=zeroValue4
 t5:=underlying5
 a5:=isAgg5
 z5:=sizeOf5
 v5:=zeroValue5
 t9:=underlying9
 a9:=isAgg9
 z9:=sizeOf9
 v9:=zeroValue9
 t20:=underlying20
 a20:=isAgg20
 z20:=sizeOf20
 v20:=zeroValue20
 t21:=underlying21
 a21:=isAgg21
 z21:=sizeOf21
 v21:=zeroValue21
 t37:=underlying198
 a37:=isAgg198
 z37:=sizeOf198
 v37:=zeroValue198
 t46:=underlying322
 a46:=isAgg322
 z46:=sizeOf322
 v46:=zeroValue322
 t51:=underlying343
 a51:=isAgg343
 z51:=sizeOf343
 v51:=zeroValue343
 t53:=underlying280
 a53:=isAgg280
 z53:=sizeOf280
 v53:=zeroValue280
 t75:=underlying240
 a75:=isAgg240
 z75:=sizeOf240
 v75:=zeroValue240
 t76:=underlying241
 a76:=isAgg241
 z76:=sizeOf241
 v76:=zeroValue241
 t85:=underlying326
 a85:=isAgg326
 z85:=sizeOf326
 v85:=zeroValue326
 t127:=underlying324
 a127:=isAgg324
 z127:=sizeOf324
 v127:=zeroValue324
 t143:=underlying359
 a143:=isAgg359
 z143:=sizeOf359
 v143:=zeroValue359
 t145:=underlying361
 a145:=isAgg361
 z145:=sizeOf361
 v145:=zeroValue361
 t167:=underlying325
 a167:=isAgg325
 z167:=sizeOf325
 v167:=zeroValue325
 t168:=underlying328
 a168:=isAgg328
 z168:=sizeOf328
 v168:=zeroValue328
 t171:=underlying331
 a171:=isAgg331
 z171:=sizeOf331
 v171:=zeroValue331
 t173:=underlying334
 a173:=isAgg334
 z173:=sizeOf334
 v173:=zeroValue334
 t175:=underlying281
 a175:=isAgg281
 z175:=sizeOf281
 v175:=zeroValue281
 t210:=underlying351
 a210:=isAgg351
 z210:=sizeOf351
 v210:=zeroValue351
 t212:=underlying354
 a212:=isAgg354
 z212:=sizeOf354
 v212:=zeroValue354
 t213:=underlying355
 a213:=isAgg355
 z213:=sizeOf355
 t232:=underlying367
 a232:=isAgg367
 z232:=sizeOf367
 v232:=zeroValue367
 t233:=underlying368
 a233:=isAgg368
 z233:=sizeOf368
 v233:=zeroValue368
 g15:=by kernel_rfl
 g16:=by kernel_rfl
 g17:=by kernel_rfl
 g18:=by kernel_rfl
 g19:=by kernel_rfl }
theorem mW(w:World)(e:TypeId)(s:ByteArray):ae4 w (Lib.bytesWorld w e s):=
 ⟨by rw[Lib.bytesWorld_size];omega,fun k hk=>Lib.bytesWorld_at_old w e s k hk,rfl,rfl,rfl,by first | exact Nat.le_refl _ | exact Nat.le_add_right _ _ | exact Nat.le_succ _⟩
theorem Oi(n:Int)(h0: -9223372036854775808≤n)(h1:n≤9223372036854775807)(mem:Mem):kF prog 104 [.int .i64 n] mem (.str (cf n)) mem:=
 kF.afc (gG _ func104 (by kernel_rfl) (by kernel_rfl)) (Vs:=[.int .i64 n]) (fun μ n Us h=>by simpa [aeC,aeA] using h) (V:=.string ⟨(cf n).toArray⟩) (fun μ n=>by simp[aeA])
  (fun base w hG=>(Any.strconv_Itoa EC n h0 h1 w (hG.agP (by kernel_rfl))).mono fun e w' ⟨h1,k,os,h2⟩=>⟨by rw[h1,Sc],h2▸ae4.grow w k os⟩) mem
theorem NX(s:List UInt8)(n:Int)(hl:s.length≤18)(h:Lib.atoi s=some n)(mem:Mem):kF prog 150 [.str s] mem (.tuple [.int .i64 n,.nilIface]) mem:=
 kF.afc (gG _ func150 (by kernel_rfl) (by kernel_rfl)) (Vs:=[.string ⟨s.toArray⟩]) (fun μ n Us h=>by simpa [aeC,aeA] using h) (V:=.tuple #[.int .i64 n,.nilIface]) (fun μ n=>by simp only[aeA,aeC];exact⟨_,rfl,_,_,rfl,rfl,_,_,rfl,rfl,rfl⟩)
  (fun base w hG=>(Any.strconv_Atoi EB ⟨s.toArray⟩ n (by simpa [ByteArray.size] using hl) (by simpa using h) w).mono fun e w' ⟨h1,t,h2⟩=>⟨h1,by rw[h2];exact mW _ _ _⟩) mem
end Go.Proofs
namespace Go.Proofs
open Go.Eng
open Tryz
noncomputable def nE(f:FuncId) (args:List AV):Option AV:=
 match f,args with
 |217,[.str s,.str p]=>some (.tuple [.str (Lib.trimPrefix s p),.bool (Lib.hasPrefix s p)])
 |219,[.str s,.str p]=>some (.str (Lib.trimPrefix s p))
 |_,_=>none
theorem uj:kP prog (ag nE):=bK fun f args v h mem=>by
 unfold nE at h;split at h
 ·cases h;exact xV _ _ mem
 ·cases h;exact vN _ _ mem
 ·cases h
theorem zg(s p:List UInt8)(mem:Mem):kF prog 142 [.str s,.str p] mem (.tuple [.str (Lib.trimPrefix s p),.bool (Lib.hasPrefix s p)]) mem:=by
 have hG:aT prog 142=some f142:=by kernel_rfl
 refine az uj (lv:=fun _=>[]) (K:=1) rfl rfl ?_ mem;simp[ad,hG,f142,ag,nE]
theorem yg(s p:List UInt8)(mem:Mem):kF prog 144 [.str s,.str p] mem (.str (Lib.trimPrefix s p)) mem:=by
 have hG:aT prog 144=some f144:=by kernel_rfl
 refine az uj (lv:=fun _=>[]) (K:=1) rfl rfl ?_ mem;simp[ad,hG,f144,ag,nE]
def dH(n:Int):Bool:=decide (-9223372036854775808≤n)&&decide (n≤9223372036854775807)
noncomputable def aV(f:FuncId) (args:List AV):Option AV:=
 match f,args with
 |218,[.str s,.str p]=>some (.bool (Lib.hasPrefix s p))
 |145,[.str s,.str p]=>some (.int .i64 (Lib.compareBytes s p))
 |209,[.str s,.int .u8 c]=>if 0≤c then some (.int .i64 (Lib.indexByte s c.toNat.toUInt8)) else none
 |93,[.str s,.str [c]]=>if s.length≤1000000000 then some (if 0≤Lib.indexByte s c then .tuple [.str (s.take (Lib.indexByte s c).toNat),.str (s.drop ((Lib.indexByte s c).toNat+1)),.bool true] else .tuple [.str s,.str [],.bool false]) else none
 |142,[.str s,.str p]=>some (.tuple [.str (Lib.trimPrefix s p),.bool (Lib.hasPrefix s p)])
 |144,[.str s,.str p]=>some (.str (Lib.trimPrefix s p))
 |104,[.int .i64 n]=>if dH n then some (.str (cf n)) else none
 |150,[.str s]=>if s.length≤18 then match Lib.atoi s with
  |some n=>some (.tuple [.int .i64 n,.nilIface])
  |none=>none
  else none
 |_,_=>none
theorem dP:kP prog (ag aV):=bK fun f args v h mem=>by
 unfold aV at h;split at h
 ·cases h;exact zz _ _ mem
 ·cases h;exact DT _ _ mem
 ·split at h
  ·rename_i hc;cases h;exact yc _ _ hc mem
  ·cases h
 ·split at h
  ·rename_i hl;cases h;exact Qi _ _ mem hl
  ·cases h
 ·cases h;exact zg _ _ mem
 ·cases h;exact yg _ _ mem
 ·split at h
  ·rename_i hn
   cases h;simp only[dH,Bool.and_eq_true,decide_eq_true_eq] at hn;exact Oi _ hn.1 hn.2 mem
  ·cases h
 ·split at h
  ·rename_i hl
   split at h
   ·rename_i n hn;cases h;exact NX _ _ hl hn mem
   ·cases h
  ·cases h
 ·cases h
end Go.Proofs
