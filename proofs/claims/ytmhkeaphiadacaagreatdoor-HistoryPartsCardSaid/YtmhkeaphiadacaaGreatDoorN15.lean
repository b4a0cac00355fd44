/- See N58. -/
import Derived.Test.YtmhkeaphiadacaaGreatDoorN13
import Derived.Test.YtmhkeaphiadacaaGreatDoorN10
import Derived.Test.YtmhkeaphiadacaaGreatDoorN14
import Derived.Shelf.Strconv.Itoa3
import Derived.Shelf.Strconv.Atoi
import Derived.Ground.NamesProg
import Derived.Test.YtmhkeaphiadacaaGreatDoorProg
set_option linter.all false
namespace Go.Proofs
open Go.Eng Go.Shelf
def tI:Go.Shelf.Ren:=⟨fun | 171=>103 | 243=>142 | 246=>199 | 283=>232 | 284=>233 | 285=>234 | 286=>235 | 129=>262 | 317=>261 | 318=>263 | 319=>264 | 320=>265 | 337=>277 | 338=>278 | n=>n,fun | 3=>3 | 9=>9 | 2=>2 | 4=>4 | 171=>297 | 0=>0 | 53=>298 | 37=>175 | 5=>5 | 173=>301 | 212=>329 | 51=>330 | 20=>20 | 213=>331 | 46=>322 | 232=>350 | 233=>351 | n=>n,fun | 17=>3 | 18=>4 | 19=>5 | n=>n⟩
theorem BX:Go.Proofs.LaysM.n171 Tryz.prog tI:={
 mixed:=by kernel_rfl
 f129:=Tryz.func262.trans (congrArg some (by kernel_rfl))
 f171:=Tryz.func103.trans (congrArg some (by kernel_rfl))
 f243:=Tryz.func142.trans (congrArg some (by kernel_rfl))
 f246:=Tryz.func199.trans (congrArg some (by kernel_rfl))
 f283:=Tryz.func232.trans (congrArg some (by kernel_rfl))
 f284:=Tryz.func233.trans (congrArg some (by kernel_rfl))
 f285:=Tryz.func234.trans (congrArg some (by kernel_rfl))
 f286:=Tryz.func235.trans (congrArg some (by kernel_rfl))
 f317:=Tryz.func261.trans (congrArg some (by kernel_rfl))
 f318:=Tryz.func263.trans (congrArg some (by kernel_rfl))
 f319:=Tryz.func264.trans (congrArg some (by kernel_rfl))
 f320:=Tryz.func265.trans (congrArg some (by kernel_rfl))
 f337:=Tryz.func277.trans (congrArg some (by kernel_rfl))
 f338:=Tryz.func278.trans (congrArg some (by kernel_rfl))
 t0:=Tryz.underlying0
 a0:=Tryz.isAgg0
 z0:=Tryz.sizeOf0
 v0:=Tryz.zeroValue0
 t2:=Tryz.underlying2
 a2:=Tryz.isAgg2
 z2:=Tryz.sizeOf2
 v2:=Tryz.zeroValue2
 t3:=Tryz.underlying3
 a3:=Tryz.isAgg3
 z3:=Tryz.sizeOf3
 v3:=Tryz.zeroValue3
 t4:=Tryz.underlying4
 a4:=Tryz.isAgg4
 z4:=Tryz.sizeOf4
 v4:=Tryz.zeroValue4
 t5:=Tryz.underlying5
 a5:=Tryz.isAgg5
 z5:=Tryz.sizeOf5
 v5:=Tryz.zeroValue5
 t9:=Tryz.underlying9
 a9:=Tryz.isAgg9
 z9:=Tryz.sizeOf9
 v9:=Tryz.zeroValue9
 t20:=Tryz.underlying20
 a20:=Tryz.isAgg20
 z20:=Tryz.sizeOf20
 v20:=Tryz.zeroValue20
 t37:=Tryz.underlying175
 a37:=Tryz.isAgg175
 z37:=Tryz.sizeOf175
 v37:=Tryz.zeroValue175
 t46:=Tryz.underlying322
 a46:=Tryz.isAgg322
 z46:=Tryz.sizeOf322
 v46:=Tryz.zeroValue322
 t51:=Tryz.underlying330
 a51:=Tryz.isAgg330
 z51:=Tryz.sizeOf330
 v51:=Tryz.zeroValue330
 t53:=Tryz.underlying298
 a53:=Tryz.isAgg298
 z53:=Tryz.sizeOf298
 v53:=Tryz.zeroValue298
 t171:=Tryz.underlying297
 a171:=Tryz.isAgg297
 z171:=Tryz.sizeOf297
 v171:=Tryz.zeroValue297
 t173:=Tryz.underlying301
 a173:=Tryz.isAgg301
 z173:=Tryz.sizeOf301
 v173:=Tryz.zeroValue301
 t212:=Tryz.underlying329
 a212:=Tryz.isAgg329
 z212:=Tryz.sizeOf329
 v212:=Tryz.zeroValue329
 t213:=Tryz.underlying331
 a213:=Tryz.isAgg331
 z213:=Tryz.sizeOf331
 t232:=Tryz.underlying350
 a232:=Tryz.isAgg350
 z232:=Tryz.sizeOf350
 v232:=Tryz.zeroValue350
 t233:=Tryz.underlying351
 a233:=Tryz.isAgg351
 z233:=Tryz.sizeOf351
 v233:=Tryz.zeroValue351
 g17:=by kernel_rfl
 g18:=by kernel_rfl
 g19:=by kernel_rfl
 i0:=by kernel_rfl
 i2:=by kernel_rfl
 i3:=by kernel_rfl
 i4:=by kernel_rfl
 i5:=by kernel_rfl
 i9:=by kernel_rfl
 i20:=by kernel_rfl
 i37:=by kernel_rfl
 i46:=by kernel_rfl
 i51:=by kernel_rfl
 i53:=by kernel_rfl
 i171:=by kernel_rfl
 i173:=by kernel_rfl
 i212:=by kernel_rfl
 i232:=by kernel_rfl
 i233:=by kernel_rfl
 m17:=by kernel_rfl
 m18:=by kernel_rfl
 m19:=by kernel_rfl }
def tH:Go.Shelf.Ren:=⟨fun | 172=>139 | 244=>197 | 245=>198 | 247=>227 | 279=>228 | 280=>229 | 281=>230 | 282=>231 | 287=>258 | 316=>259 | 171=>103 | 205=>260 | 321=>275 | 322=>276 | 243=>142 | 246=>199 | 283=>232 | 284=>233 | 285=>234 | 286=>235 | 129=>262 | 317=>261 | 318=>263 | 319=>264 | 320=>265 | 337=>277 | 338=>278 | n=>n,fun | 9=>9 | 3=>3 | 75=>234 | 76=>235 | 4=>4 | 5=>5 | 167=>291 | 37=>175 | 0=>0 | 85=>292 | 2=>2 | 168=>294 | 53=>298 | 175=>309 | 46=>322 | 210=>325 | 127=>336 | 145=>340 | 143=>338 | 21=>21 | 171=>297 | 173=>301 | 212=>329 | 51=>330 | 20=>20 | 213=>331 | 232=>350 | 233=>351 | 80=>320 | n=>n,fun | 15=>1 | 16=>2 | 17=>3 | 18=>4 | 19=>5 | n=>n⟩
theorem BW:Go.Proofs.Lays.n172 Tryz.prog tH:={
 mixed:=by kernel_rfl
 f129:=Tryz.func262.trans (congrArg some (by kernel_rfl))
 f171:=Tryz.func103.trans (congrArg some (by kernel_rfl))
 f172:=Tryz.func139.trans (congrArg some (by kernel_rfl))
 f205:=Tryz.func260.trans (congrArg some (by kernel_rfl))
 f243:=Tryz.func142.trans (congrArg some (by kernel_rfl))
 f244:=Tryz.func197.trans (congrArg some (by kernel_rfl))
 f245:=Tryz.func198.trans (congrArg some (by kernel_rfl))
 f246:=Tryz.func199.trans (congrArg some (by kernel_rfl))
 f247:=Tryz.func227.trans (congrArg some (by kernel_rfl))
 f279:=Tryz.func228.trans (congrArg some (by kernel_rfl))
 f280:=Tryz.func229.trans (congrArg some (by kernel_rfl))
 f281:=Tryz.func230.trans (congrArg some (by kernel_rfl))
 f282:=Tryz.func231.trans (congrArg some (by kernel_rfl))
 f283:=Tryz.func232.trans (congrArg some (by kernel_rfl))
 f284:=Tryz.func233.trans (congrArg some (by kernel_rfl))
 f285:=Tryz.func234.trans (congrArg some (by kernel_rfl))
 f286:=Tryz.func235.trans (congrArg some (by kernel_rfl))
 f287:=Tryz.func258.trans (congrArg some (by kernel_rfl))
 f316:=Tryz.func259.trans (congrArg some (by kernel_rfl))
 f317:=Tryz.func261.trans (congrArg some (by kernel_rfl))
 f318:=Tryz.func263.trans (congrArg some (by kernel_rfl))
 f319:=Tryz.func264.trans (congrArg some (by kernel_rfl))
 f320:=Tryz.func265.trans (congrArg some (by kernel_rfl))
 f321:=Tryz.func275.trans (congrArg some (by kernel_rfl))
 f322:=Tryz.func276.trans (congrArg some (by kernel_rfl))
 f337:=Tryz.func277.trans (congrArg some (by kernel_rfl))
 f338:=Tryz.func278.trans (congrArg some (by kernel_rfl))
 t0:=Tryz.underlying0
 a0:=Tryz.isAgg0
 z0:=Tryz.sizeOf0
 v0:=Tryz.zeroValue0
 t2:=Tryz.underlying2
 a2:=Tryz.isAgg2
 z2:=Tryz.sizeOf2
 v2:=Tryz.zeroValue2
 t3:=Tryz.underlying3
 a3:=Tryz.isAgg3
 z3:=Tryz.sizeOf3
 v3:=Tryz.zeroValue3
 t4:=Tryz.underlying4
 a4:=Tryz.isAgg4
 z4:=Tryz.sizeOf4
 v4:=Tryz.zeroValue4
 t5:=Tryz.underlying5
 a5:=Tryz.isAgg5
 z5:=Tryz.sizeOf5
 v5:=Tryz.zeroValue5
 t9:=Tryz.underlying9
 a9:=Tryz.isAgg9
 z9:=Tryz.sizeOf9
 v9:=Tryz.zeroValue9
 t20:=Tryz.underlying20
 a20:=Tryz.isAgg20
 z20:=Tryz.sizeOf20
 v20:=Tryz.zeroValue20
 t21:=Tryz.underlying21
 a21:=Tryz.isAgg21
 z21:=Tryz.sizeOf21
 v21:=Tryz.zeroValue21
 t37:=Tryz.underlying175
 a37:=Tryz.isAgg175
 z37:=Tryz.sizeOf175
 v37:=Tryz.zeroValue175
 t46:=Tryz.underlying322
 a46:=Tryz.isAgg322
 z46:=Tryz.sizeOf322
 v46:=Tryz.zeroValue322
 t51:=Tryz.underlying330
 a51:=Tryz.isAgg330
 z51:=Tryz.sizeOf330
 v51:=Tryz.zeroValue330
 t53:=Tryz.underlying298
 a53:=Tryz.isAgg298
 z53:=Tryz.sizeOf298
 v53:=Tryz.zeroValue298
 t75:=Tryz.underlying234
 a75:=Tryz.isAgg234
 z75:=Tryz.sizeOf234
 v75:=Tryz.zeroValue234
 t76:=Tryz.underlying235
 a76:=Tryz.isAgg235
 z76:=Tryz.sizeOf235
 v76:=Tryz.zeroValue235
 t85:=Tryz.underlying292
 a85:=Tryz.isAgg292
 z85:=Tryz.sizeOf292
 v85:=Tryz.zeroValue292
 t127:=Tryz.underlying336
 a127:=Tryz.isAgg336
 z127:=Tryz.sizeOf336
 v127:=Tryz.zeroValue336
 t143:=Tryz.underlying338
 a143:=Tryz.isAgg338
 z143:=Tryz.sizeOf338
 v143:=Tryz.zeroValue338
 t145:=Tryz.underlying340
 a145:=Tryz.isAgg340
 z145:=Tryz.sizeOf340
 v145:=Tryz.zeroValue340
 t167:=Tryz.underlying291
 a167:=Tryz.isAgg291
 z167:=Tryz.sizeOf291
 v167:=Tryz.zeroValue291
 t168:=Tryz.underlying294
 a168:=Tryz.isAgg294
 z168:=Tryz.sizeOf294
 v168:=Tryz.zeroValue294
 t171:=Tryz.underlying297
 a171:=Tryz.isAgg297
 z171:=Tryz.sizeOf297
 v171:=Tryz.zeroValue297
 t173:=Tryz.underlying301
 a173:=Tryz.isAgg301
 z173:=Tryz.sizeOf301
 v173:=Tryz.zeroValue301
 t175:=Tryz.underlying309
 a175:=Tryz.isAgg309
 z175:=Tryz.sizeOf309
 v175:=Tryz.zeroValue309
 t210:=Tryz.underlying325
 a210:=Tryz.isAgg325
 z210:=Tryz.sizeOf325
 v210:=Tryz.zeroValue325
 t212:=Tryz.underlying329
 a212:=Tryz.isAgg329
 z212:=Tryz.sizeOf329
 v212:=Tryz.zeroValue329
 t213:=Tryz.underlying331
 a213:=Tryz.isAgg331
 z213:=Tryz.sizeOf331
 t232:=Tryz.underlying350
 a232:=Tryz.isAgg350
 z232:=Tryz.sizeOf350
 v232:=Tryz.zeroValue350
 t233:=Tryz.underlying351
 a233:=Tryz.isAgg351
 z233:=Tryz.sizeOf351
 v233:=Tryz.zeroValue351
 g15:=by kernel_rfl
 g16:=by kernel_rfl
 g17:=by kernel_rfl
 g18:=by kernel_rfl
 g19:=by kernel_rfl }
theorem lh(w:World) (e:TypeId) (s:ByteArray):Gentle w (Lib.bytesWorld w e s):=
 ⟨by rw[Lib.bytesWorld_size];omega,fun k hk=>Lib.bytesWorld_at_old w e s k hk,rfl,rfl,rfl,by first | exact Nat.le_refl _ | exact Nat.le_add_right _ _ | exact Nat.le_succ _⟩
theorem KA(n:Int) (h0: -9223372036854775808≤n) (h1:n≤9223372036854775807) (mem:Mem):ACallsTo Tryz.prog 103 [.int .i64 n] mem (.str (cd n)) mem:=
 ACallsTo.of_calls (fv _ Tryz.func103 (by kernel_rfl) (by kernel_rfl)) (Vs:=[.int .i64 n]) (fun μ n Us h=>by simpa [VRels,VRel] using h) (V:=.string ⟨(cd n).toArray⟩) (fun μ n=>by simp[VRel])
  (fun base w hG=>(Any.strconv_Itoa BX n h0 h1 w (hG.tabOf (by kernel_rfl))).mono fun e w' ⟨h1,k,os,h2⟩=>⟨by rw[h1,Np],h2▸Gentle.grow w k os⟩) mem
theorem Kp(s:List UInt8) (n:Int) (hl:s.length≤18) (h:Lib.atoi s=some n) (mem:Mem):ACallsTo Tryz.prog 139 [.str s] mem (.tuple [.int .i64 n,.nilIface]) mem:=
 ACallsTo.of_calls (fv _ Tryz.func139 (by kernel_rfl) (by kernel_rfl)) (Vs:=[.string ⟨s.toArray⟩]) (fun μ n Us h=>by simpa [VRels,VRel] using h) (V:=.tuple #[.int .i64 n,.nilIface]) (fun μ n=>by simp only[VRel,VRels];exact⟨_,rfl,_,_,rfl,rfl,_,_,rfl,rfl,rfl⟩)
  (fun base w hG=>(Any.strconv_Atoi BW ⟨s.toArray⟩ n (by simpa [ByteArray.size] using hl) (by simpa using h) w).mono fun e w' ⟨h1,t,h2⟩=>⟨h1,by rw[h2];exact lh _ _ _⟩) mem
end Go.Proofs
namespace Go.Proofs
open Go.Eng
noncomputable def ma(f:FuncId) (args:List AV):Option AV:=
 match f,args with
 |255,[.str s,.str p]=>some (.tuple [.str (Lib.trimPrefix s p),.bool (Lib.hasPrefix s p)])
 |245,[.str s,.str p]=>some (.str (Lib.trimPrefix s p))
 |_,_=>none
theorem rr:OracleOk Tryz.prog (ao ma):=bN fun f args v h mem=>by
 unfold ma at h
 split at h
 ·cases h;exact vp _ _ mem
 ·cases h;exact tt _ _ mem
 ·cases h
theorem wQ(s p:List UInt8) (mem:Mem):ACallsTo Tryz.prog 223 [.str s,.str p] mem (.tuple [.str (Lib.trimPrefix s p),.bool (Lib.hasPrefix s p)]) mem:=by
 have hG:aI Tryz.prog 223=some Tryz.f223:=by kernel_rfl
 refine aw rr (lv:=fun _=>[]) (K:=1) rfl rfl ?_ mem
 simp[ab,hG,Tryz.f223,ao,ma]
theorem vy(s p:List UInt8) (mem:Mem):ACallsTo Tryz.prog 214 [.str s,.str p] mem (.str (Lib.trimPrefix s p)) mem:=by
 have hG:aI Tryz.prog 214=some Tryz.f214:=by kernel_rfl
 refine aw rr (lv:=fun _=>[]) (K:=1) rfl rfl ?_ mem
 simp[ab,hG,Tryz.f214,ao,ma]
def iK(n:Int):Bool:=decide (-9223372036854775808≤n)&&decide (n≤9223372036854775807)
noncomputable def aL(f:FuncId) (args:List AV):Option AV:=
 match f,args with
 |225,[.str s,.str p]=>some (.bool (Lib.hasPrefix s p))
 |215,[.str s,.str p]=>some (.int .i64 (Lib.compareBytes s p))
 |128,[.str s,.int .u8 c]=>if 0≤c then some (.int .i64 (Lib.indexByte s c.toNat.toUInt8)) else none
 |188,[.str s,.str [c]]=>if s.length≤1000000000 then some (if 0≤Lib.indexByte s c then .tuple [.str (s.take (Lib.indexByte s c).toNat),.str (s.drop ((Lib.indexByte s c).toNat+1)),.bool true] else .tuple [.str s,.str [],.bool false]) else none
 |223,[.str s,.str p]=>some (.tuple [.str (Lib.trimPrefix s p),.bool (Lib.hasPrefix s p)])
 |214,[.str s,.str p]=>some (.str (Lib.trimPrefix s p))
 |103,[.int .i64 n]=>if iK n then some (.str (cd n)) else none
 |139,[.str s]=>if s.length≤18 then match Lib.atoi s with
  |some n=>some (.tuple [.int .i64 n,.nilIface])
  |none=>none
  else none
 |_,_=>none
theorem de:OracleOk Tryz.prog (ao aL):=bN fun f args v h mem=>by
 unfold aL at h
 split at h
 ·cases h;exact xe _ _ mem
 ·cases h;exact Bl _ _ mem
 ·split at h
  ·rename_i hc;cases h;exact vu _ _ hc mem
  ·cases h
 ·split at h
  ·rename_i hl;cases h;exact Mj _ _ mem hl
  ·cases h
 ·cases h;exact wQ _ _ mem
 ·cases h;exact vy _ _ mem
 ·split at h
  ·rename_i hn
   cases h
   simp only[iK,Bool.and_eq_true,decide_eq_true_eq] at hn
   exact KA _ hn.1 hn.2 mem
  ·cases h
 ·split at h
  ·rename_i hl
   split at h
   ·rename_i n hn;cases h;exact Kp _ _ hl hn mem
   ·cases h
  ·cases h
 ·cases h
end Go.Proofs
