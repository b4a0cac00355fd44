/- See P53. -/
import Derived.Test.YtmhkeaphiadacaaGreatDoorP10
import Derived.Test.YtmhkeaphiadacaaGreatDoorP09
import Derived.Shelf.Strconv.Itoa3
import Derived.Shelf.Strconv.Atoi
import Derived.Ground.NamesProg
set_option linter.all false
namespace Go.Proofs
open Go.Eng Go.Shelf
open Tryz
def wg:Go.Shelf.Ren:=⟨fun | 171=>103 | 243=>142 | 246=>199 | 283=>232 | 284=>233 | 285=>234 | 286=>235 | 129=>262 | 317=>261 | 318=>263 | 319=>264 | 320=>265 | 337=>277 | 338=>278 | n=>n,fun | 3=>3 | 9=>9 | 2=>2 | 4=>4 | 171=>297 | 0=>0 | 53=>298 | 37=>175 | 5=>5 | 173=>301 | 212=>329 | 51=>330 | 20=>20 | 213=>331 | 46=>322 | 232=>350 | 233=>351 | n=>n,fun | 17=>3 | 18=>4 | 19=>5 | n=>n⟩
theorem ER:Go.Proofs.LaysM.n171 prog wg:={
 mixed:=by kernel_rfl
 f129:=func262.trans (congrArg some (by kernel_rfl))
 f171:=func103.trans (congrArg some (by kernel_rfl))
 f243:=func142.trans (congrArg some (by kernel_rfl))
 f246:=func199.trans (congrArg some (by kernel_rfl))
 f283:=func232.trans (congrArg some (by kernel_rfl))
 f284:=func233.trans (congrArg some (by kernel_rfl))
 f285:=func234.trans (congrArg some (by kernel_rfl))
 f286:=func235.trans (congrArg some (by kernel_rfl))
 f317:=func261.trans (congrArg some (by kernel_rfl))
 f318:=func263.trans (congrArg some (by kernel_rfl))
 f319:=func264.trans (congrArg some (by kernel_rfl))
 f320:=func265.trans (congrArg some (by kernel_rfl))
 f337:=func277.trans (congrArg some (by kernel_rfl))
 f338:=func278.trans (congrArg some (by kernel_rfl))
 t0:=underlying0
 a0:=isAgg0
 z0:=sizeOf0
 v0:=zeroValue0
 t2:=underlying2
 a2:=isAgg2
 z2:=sizeOf2
 v2:=zeroValue2
 t3:=underlying3
 a3:=isAgg3
 z3:=sizeOf3
 v3:=zeroValue3
 t4:=underlying4
 a4:=isAgg4
 z4:=sizeOf4
 v4:=zeroValue4
 t5:=underlying5
 a5:=isAgg5
 z5:=sizeOf5
 v5:=zeroValue5
 t9:=underlying9
 a9:=isAgg9
 z9:=sizeOf9
 v9:=zeroValue9
 t20:=underlying20
 a20:=isAgg20
 z20:=sizeOf20
 v20:=zeroValue20
 t37:=underlying175
 a37:=isAgg175
 z37:=sizeOf175
 v37:=zeroValue175
 t46:=underlying322
 a46:=isAgg322
 z46:=sizeOf322
 v46:=zeroValue322
 t51:=underlying330
 a51:=isAgg330
 z51:=sizeOf330
 v51:=zeroValue330
 t53:=underlying298
 a53:=isAgg298
 z53:=sizeOf298
 v53:=zeroValue298
 t171:=underlying297
 a171:=isAgg297
 z171:=sizeOf297
 v171:=zeroValue297
 t173:=underlying301
 a173:=isAgg301
 z173:=sizeOf301
 v173:=zeroValue301
 t212:=underlying329
 a212:=isAgg329
 z212:=sizeOf329
 v212:=zeroValue329
 t213:=underlying331
 a213:=isAgg331
 z213:=sizeOf331
 t232:=underlying350
 a232:=isAgg350
 z232:=sizeOf350
 v232:=zeroValue350
 t233:=underlying351
 a233:=isAgg351
 z233:=sizeOf351
 v233:=zeroValue351
 g17:=by kernel_rfl
 g18:=by kernel_rfl
 g19:=by kernel_rfl
 i0:=by kernel_rfl
 i2:=by kernel_rfl
 i3:=by kernel_rfl
 i4:=by kernel_rfl
 i5:=by kernel_rfl
 i9:=by kernel_rfl
 i20:=by kernel_rfl
 i37:=by kernel_rfl
 i46:=by kernel_rfl
 i51:=by kernel_rfl
 i53:=by kernel_rfl
 i171:=by kernel_rfl
 i173:=by kernel_rfl
 i212:=by kernel_rfl
 i232:=by kernel_rfl
 i233:=by kernel_rfl
 m17:=by kernel_rfl
 m18:=by kernel_rfl
 m19:=by kernel_rfl }
def we:Go.Shelf.Ren:=⟨fun | 172=>139 | 244=>197 | 245=>198 | 247=>227 | 279=>228 | 280=>229 | 281=>230 | 282=>231 | 287=>258 | 316=>259 | 171=>103 | 205=>260 | 321=>275 | 322=>276 | 243=>142 | 246=>199 | 283=>232 | 284=>233 | 285=>234 | 286=>235 | 129=>262 | 317=>261 | 318=>263 | 319=>264 | 320=>265 | 337=>277 | 338=>278 | n=>n,fun | 9=>9 | 3=>3 | 75=>234 | 76=>235 | 4=>4 | 5=>5 | 167=>291 | 37=>175 | 0=>0 | 85=>292 | 2=>2 | 168=>294 | 53=>298 | 175=>309 | 46=>322 | 210=>325 | 127=>336 | 145=>340 | 143=>338 | 21=>21 | 171=>297 | 173=>301 | 212=>329 | 51=>330 | 20=>20 | 213=>331 | 232=>350 | 233=>351 | 80=>320 | n=>n,fun | 15=>1 | 16=>2 | 17=>3 | 18=>4 | 19=>5 | n=>n⟩
theorem EP:Go.Proofs.Lays.n172 prog we:={
 mixed:=by kernel_rfl
 f129:=func262.trans (congrArg some (by kernel_rfl))
 f171:=func103.trans (congrArg some (by kernel_rfl))
 f172:=func139.trans (congrArg some (by kernel_rfl))
 f205:=func260.trans (congrArg some (by kernel_rfl))
 f243:=func142.trans (congrArg some (by kernel_rfl))
 f244:=func197.trans (congrArg some (by kernel_rfl))
 f245:=func198.trans (congrArg some (by kernel_rfl))
 f246:=func199.trans (congrArg some (by kernel_rfl))
 f247:=func227.trans (congrArg some (by kernel_rfl))
 f279:=func228.trans (congrArg some (by kernel_rfl))
 f280:=func229.trans (congrArg some (by kernel_rfl))
 f281:=func230.trans (congrArg some (by kernel_rfl))
 f282:=func231.trans (congrArg some (by kernel_rfl))
 f283:=func232.trans (congrArg some (by kernel_rfl))
 f284:=func233.trans (congrArg some (by kernel_rfl))
 f285:=func234.trans (congrArg some (by kernel_rfl))
 f286:=func235.trans (congrArg some (by kernel_rfl))
 f287:=func258.trans (congrArg some (by kernel_rfl))
 f316:=func259.trans (congrArg some (by kernel_rfl))
 f317:=func261.trans (congrArg some (by kernel_rfl))
 f318:=func263.trans (congrArg some (by kernel_rfl))
 f319:=func264.trans (congrArg some (by kernel_rfl))
 f320:=func265.trans (congrArg some (by kernel_rfl))
 f321:=func275.trans (congrArg some (by kernel_rfl))
 f322:=func276.trans (congrArg some (by kernel_rfl))
 f337:=func277.trans (congrArg some (by kernel_rfl))
 f338:=func278.trans (congrArg some (by kernel_rfl))
 t0:=underlying0
 a0:=isAgg0
 z0:=sizeOf0
 v0:=zeroValue0
 t2:=underlying2
 a2:=isAgg2
 z2:=sizeOf2
 v2:=zeroValue2
 t3:=underlying3
 a3:=isAgg3
 z3:=sizeOf3
 v3:=zeroValue3
 t4:=underlying4
 a4:=isAgg4
 z4:=sizeOf4
 v4:=zeroValue4
 t5:=underlying5
 a5:=isAgg5
 z5:=sizeOf5
 v5:=zeroValue5
 t9:=underlying9
 a9:=isAgg9
 z9:=sizeOf9
 v9:=zeroValue9
 t20:=underlying20
 a20:=isAgg20
 z20:=sizeOf20
 v20:=zeroValue20
 t21:=underlying21
 a21:=isAgg21
 z21:=sizeOf21
 v21:=zeroValue21
 t37:=underlying175
 a37:=isAgg175
 z37:=sizeOf175
 v37:=zeroValue175
 t46:=underlying322
 a46:=isAgg322
 z46:=sizeOf322
 v46:=zeroValue322
 t51:=underlying330
 a51:=isAgg330
 z51:=sizeOf330
 v51:=zeroValue330
 t53:=underlying298
 a53:=isAgg298
 z53:=sizeOf298
 v53:=zeroValue298
 t75:=underlying234
 a75:=isAgg234
 z75:=sizeOf234
 v75:=zeroValue234
 t76:=underlying235
 a76:=isAgg235
 z76:=sizeOf235
 v76:=zeroValue235
 t85:=underlying292
 a85:=isAgg292
 z85:=sizeOf292
 v85:=zeroValue292
 t127:=underlying336
 a127:=isAgg336
 z127:=sizeOf336
 v127:=zeroValue336
 t143:=underlying338
 a143:=isAgg338
 z143:=sizeOf338
 v143:=zeroValue338
 t145:=underlying340
 a145:=isAgg340
 z145:=sizeOf340
 v145:=zeroValue340
 t167:=underlying291
 a167:=isAgg291
 z167:=sizeOf291
 v167:=zeroValue291
 t168:=underlying294
 a168:=isAgg294
 z168:=sizeOf294
 v168:=zeroValue294
 t171:=underlying297
 a171:=isAgg297
 z171:=sizeOf297
 v171:=zeroValue297
 t173:=underlying301
 a173:=isAgg301
 z173:=sizeOf301
 v173:=zeroValue301
 t175:=underlying309
 a175:=isAgg309
 z175:=sizeOf309
 v175:=zeroValue309
 t210:=underlying325
 a210:=isAgg325
 z210:=sizeOf325
 v210:=zeroValue325
 t212:=underlying329
 a212:=isAgg329
 z212:=sizeOf329
 v212:=zeroValue329
 t213:=underlying331
 a213:=isAgg331
 z213:=sizeOf331
 t232:=underlying350
 a232:=isAgg350
 z232:=sizeOf350
 v232:=zeroValue350
 t233:=underlying351
 a233:=isAgg351
 z233:=sizeOf351
 v233:=zeroValue351
 g15:=by kernel_rfl
 g16:=by kernel_rfl
 g17:=by kernel_rfl
 g18:=by kernel_rfl
 g19:=by kernel_rfl }
theorem mL(w:World)(e:TypeId)(s:ByteArray):aaC w (Lib.bytesWorld w e s):=
 ⟨by rw[Lib.bytesWorld_size];omega,fun k hk=>Lib.bytesWorld_at_old w e s k hk,rfl,rfl,rfl,by first | exact Nat.le_refl _ | exact Nat.le_add_right _ _ | exact Nat.le_succ _⟩
theorem Ou(n:Int)(h0: -9223372036854775808≤n)(h1:n≤9223372036854775807)(mem:Mem):mB prog 103 [.int .i64 n] mem (.str (cN n)) mem:=
 mB.aaR (gC _ func103 (by kernel_rfl) (by kernel_rfl)) (Vs:=[.int .i64 n]) (fun μ n Us h=>by simpa [aad,aab] using h) (V:=.string ⟨(cN n).toArray⟩) (fun μ n=>by simp[aab])
  (fun base w hG=>(Any.strconv_Itoa ER n h0 h1 w (hG.acw (by kernel_rfl))).mono fun e w' ⟨h1,k,os,h2⟩=>⟨by rw[h1,RH],h2▸aaC.grow w k os⟩) mem
theorem Og(s:List UInt8)(n:Int)(hl:s.length≤18)(h:Lib.atoi s=some n)(mem:Mem):mB prog 139 [.str s] mem (.tuple [.int .i64 n,.nilIface]) mem:=
 mB.aaR (gC _ func139 (by kernel_rfl) (by kernel_rfl)) (Vs:=[.string ⟨s.toArray⟩]) (fun μ n Us h=>by simpa [aad,aab] using h) (V:=.tuple #[.int .i64 n,.nilIface]) (fun μ n=>by simp only[aab,aad];exact⟨_,rfl,_,_,rfl,rfl,_,_,rfl,rfl,rfl⟩)
  (fun base w hG=>(Any.strconv_Atoi EP ⟨s.toArray⟩ n (by simpa [ByteArray.size] using hl) (by simpa using h) w).mono fun e w' ⟨h1,t,h2⟩=>⟨h1,by rw[h2];exact mL _ _ _⟩) mem
end Go.Proofs
namespace Go.Proofs
open Go.Eng
open Tryz
noncomputable def nB(f:FuncId) (args:List AV):Option AV:=
 match f,args with
 |255,[.str s,.str p]=>some (.tuple [.str (Lib.trimPrefix s p),.bool (Lib.hasPrefix s p)])
 |245,[.str s,.str p]=>some (.str (Lib.trimPrefix s p))
 |_,_=>none
theorem uz:qS prog (ar nB):=bZ fun f args v h mem=>by
 unfold nB at h;split at h
 ·cases h;exact yh _ _ mem
 ·cases h;exact vU _ _ mem
 ·cases h
theorem zx(s p:List UInt8)(mem:Mem):mB prog 223 [.str s,.str p] mem (.tuple [.str (Lib.trimPrefix s p),.bool (Lib.hasPrefix s p)]) mem:=by
 have hG:aO prog 223=some f223:=by kernel_rfl
 refine aB uz (lv:=fun _=>[]) (K:=1) rfl rfl ?_ mem;simp[ad,hG,f223,ar,nB]
theorem yr(s p:List UInt8)(mem:Mem):mB prog 214 [.str s,.str p] mem (.str (Lib.trimPrefix s p)) mem:=by
 have hG:aO prog 214=some f214:=by kernel_rfl
 refine aB uz (lv:=fun _=>[]) (K:=1) rfl rfl ?_ mem;simp[ad,hG,f214,ar,nB]
def jC(n:Int):Bool:=decide (-9223372036854775808≤n)&&decide (n≤9223372036854775807)
noncomputable def aT(f:FuncId) (args:List AV):Option AV:=
 match f,args with
 |225,[.str s,.str p]=>some (.bool (Lib.hasPrefix s p))
 |215,[.str s,.str p]=>some (.int .i64 (Lib.compareBytes s p))
 |128,[.str s,.int .u8 c]=>if 0≤c then some (.int .i64 (Lib.indexByte s c.toNat.toUInt8)) else none
 |188,[.str s,.str [c]]=>if s.length≤1000000000 then some (if 0≤Lib.indexByte s c then .tuple [.str (s.take (Lib.indexByte s c).toNat),.str (s.drop ((Lib.indexByte s c).toNat+1)),.bool true] else .tuple [.str s,.str [],.bool false]) else none
 |223,[.str s,.str p]=>some (.tuple [.str (Lib.trimPrefix s p),.bool (Lib.hasPrefix s p)])
 |214,[.str s,.str p]=>some (.str (Lib.trimPrefix s p))
 |103,[.int .i64 n]=>if jC n then some (.str (cN n)) else none
 |139,[.str s]=>if s.length≤18 then match Lib.atoi s with
  |some n=>some (.tuple [.int .i64 n,.nilIface])
  |none=>none
  else none
 |_,_=>none
theorem dM:qS prog (ar aT):=bZ fun f args v h mem=>by
 unfold aT at h;split at h
 ·cases h;exact zQ _ _ mem
 ·cases h;exact DS _ _ mem
 ·split at h
  ·rename_i hc;cases h;exact ym _ _ hc mem
  ·cases h
 ·split at h
  ·rename_i hl;cases h;exact Qt _ _ mem hl
  ·cases h
 ·cases h;exact zx _ _ mem
 ·cases h;exact yr _ _ mem
 ·split at h
  ·rename_i hn
   cases h;simp only[jC,Bool.and_eq_true,decide_eq_true_eq] at hn;exact Ou _ hn.1 hn.2 mem
  ·cases h
 ·split at h
  ·rename_i hl
   split at h
   ·rename_i n hn;cases h;exact Og _ _ hl hn mem
   ·cases h
  ·cases h
 ·cases h
end Go.Proofs
