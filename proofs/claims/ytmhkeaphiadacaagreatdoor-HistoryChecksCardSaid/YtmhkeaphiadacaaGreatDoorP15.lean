/- See P53. -/
import Derived.Test.YtmhkeaphiadacaaGreatDoorP11
import Derived.Shelf.Pu.ParseUintPublic10
import Derived.Ground.MpProg
import Derived.Lib.AppendIntMem
set_option linter.all false
set_option maxRecDepth 100000
set_option maxHeartbeats 40000000
namespace Go.Proofs
open Go.Eng Go.Shelf
open Tryz
def pk:Go.Shelf.Ren:=⟨fun | 14=>247 | 16=>258 | 17=>198 | 19=>275 | 20=>276 | 21=>228 | 22=>229 | 23=>230 | 24=>231 | 25=>259 | 27=>103 | 26=>260 | 28=>142 | 29=>199 | 30=>232 | 31=>233 | 32=>234 | 33=>235 | 35=>262 | 34=>261 | 36=>263 | 37=>264 | 38=>265 | 39=>277 | 40=>278 | n=>n,fun | 9=>9 | 3=>3 | 22=>298 | 24=>234 | 25=>309 | 4=>4 | 34=>291 | 5=>5 | 36=>322 | 37=>175 | 0=>0 | 39=>294 | 21=>21 | 44=>325 | 47=>336 | 50=>340 | 48=>338 | 2=>2 | 52=>297 | 55=>301 | 59=>329 | 60=>330 | 20=>20 | 61=>331 | 65=>350 | 66=>351 | 67=>320 | n=>n,fun | 0=>1 | 1=>2 | 2=>3 | 3=>4 | 4=>5 | n=>n⟩
theorem uR:Go.Proofs.LaysPu.n14 prog pk:={
 mixed:=by kernel_rfl
 f14:=func247.trans (congrArg some (by kernel_rfl))
 f16:=func258.trans (congrArg some (by kernel_rfl))
 f17:=func198.trans (congrArg some (by kernel_rfl))
 f19:=func275.trans (congrArg some (by kernel_rfl))
 f20:=func276.trans (congrArg some (by kernel_rfl))
 f21:=func228.trans (congrArg some (by kernel_rfl))
 f22:=func229.trans (congrArg some (by kernel_rfl))
 f23:=func230.trans (congrArg some (by kernel_rfl))
 f24:=func231.trans (congrArg some (by kernel_rfl))
 f25:=func259.trans (congrArg some (by kernel_rfl))
 f26:=func260.trans (congrArg some (by kernel_rfl))
 f27:=func103.trans (congrArg some (by kernel_rfl))
 f28:=func142.trans (congrArg some (by kernel_rfl))
 f29:=func199.trans (congrArg some (by kernel_rfl))
 f30:=func232.trans (congrArg some (by kernel_rfl))
 f31:=func233.trans (congrArg some (by kernel_rfl))
 f32:=func234.trans (congrArg some (by kernel_rfl))
 f33:=func235.trans (congrArg some (by kernel_rfl))
 f34:=func261.trans (congrArg some (by kernel_rfl))
 f35:=func262.trans (congrArg some (by kernel_rfl))
 f36:=func263.trans (congrArg some (by kernel_rfl))
 f37:=func264.trans (congrArg some (by kernel_rfl))
 f38:=func265.trans (congrArg some (by kernel_rfl))
 f39:=func277.trans (congrArg some (by kernel_rfl))
 f40:=func278.trans (congrArg some (by kernel_rfl))
 t0:=underlying0
 a0:=isAgg0
 z0:=sizeOf0
 v0:=zeroValue0
 i0:=by kernel_rfl
 t2:=underlying2
 a2:=isAgg2
 z2:=sizeOf2
 v2:=zeroValue2
 i2:=by kernel_rfl
 t3:=underlying3
 a3:=isAgg3
 z3:=sizeOf3
 v3:=zeroValue3
 i3:=by kernel_rfl
 t4:=underlying4
 a4:=isAgg4
 z4:=sizeOf4
 v4:=zeroValue4
 i4:=by kernel_rfl
 t5:=underlying5
 a5:=isAgg5
 z5:=sizeOf5
 v5:=zeroValue5
 i5:=by kernel_rfl
 t9:=underlying9
 a9:=isAgg9
 z9:=sizeOf9
 v9:=zeroValue9
 i9:=by kernel_rfl
 t20:=underlying20
 a20:=isAgg20
 z20:=sizeOf20
 v20:=zeroValue20
 i20:=by kernel_rfl
 t21:=underlying21
 a21:=isAgg21
 z21:=sizeOf21
 v21:=zeroValue21
 i21:=by kernel_rfl
 t22:=underlying298
 a22:=isAgg298
 z22:=sizeOf298
 v22:=zeroValue298
 i22:=by kernel_rfl
 t24:=underlying234
 a24:=isAgg234
 z24:=sizeOf234
 v24:=zeroValue234
 i24:=by kernel_rfl
 t25:=underlying309
 a25:=isAgg309
 z25:=sizeOf309
 v25:=zeroValue309
 i25:=by kernel_rfl
 t34:=underlying291
 a34:=isAgg291
 z34:=sizeOf291
 v34:=zeroValue291
 i34:=by kernel_rfl
 c34:=by kernel_rfl
 t36:=underlying322
 a36:=isAgg322
 z36:=sizeOf322
 v36:=zeroValue322
 i36:=by kernel_rfl
 t37:=underlying175
 a37:=isAgg175
 z37:=sizeOf175
 v37:=zeroValue175
 i37:=by kernel_rfl
 t39:=underlying294
 a39:=isAgg294
 z39:=sizeOf294
 v39:=zeroValue294
 i39:=by kernel_rfl
 t44:=underlying325
 a44:=isAgg325
 z44:=sizeOf325
 v44:=zeroValue325
 i44:=by kernel_rfl
 t47:=underlying336
 a47:=isAgg336
 z47:=sizeOf336
 v47:=zeroValue336
 i47:=by kernel_rfl
 t48:=underlying338
 a48:=isAgg338
 z48:=sizeOf338
 v48:=zeroValue338
 i48:=by kernel_rfl
 t50:=underlying340
 a50:=isAgg340
 z50:=sizeOf340
 v50:=zeroValue340
 i50:=by kernel_rfl
 t52:=underlying297
 a52:=isAgg297
 z52:=sizeOf297
 v52:=zeroValue297
 i52:=by kernel_rfl
 t55:=underlying301
 a55:=isAgg301
 z55:=sizeOf301
 v55:=zeroValue301
 i55:=by kernel_rfl
 t59:=underlying329
 a59:=isAgg329
 z59:=sizeOf329
 v59:=zeroValue329
 i59:=by kernel_rfl
 t60:=underlying330
 a60:=isAgg330
 z60:=sizeOf330
 v60:=zeroValue330
 i60:=by kernel_rfl
 t61:=underlying331
 a61:=isAgg331
 z61:=sizeOf331
 t65:=underlying350
 a65:=isAgg350
 z65:=sizeOf350
 v65:=zeroValue350
 i65:=by kernel_rfl
 t66:=underlying351
 a66:=isAgg351
 z66:=sizeOf351
 v66:=zeroValue351
 i66:=by kernel_rfl
 t67:=underlying320
 a67:=isAgg320
 z67:=sizeOf320
 v67:=zeroValue320
 i67:=by kernel_rfl
 g0:=by kernel_rfl
 m0:=by kernel_rfl
 g1:=by kernel_rfl
 m1:=by kernel_rfl
 g2:=by kernel_rfl
 m2:=by kernel_rfl
 g3:=by kernel_rfl
 m3:=by kernel_rfl
 g4:=by kernel_rfl
 m4:=by kernel_rfl }
theorem qZ:∀(l:List UInt8) (a:Nat),l.all isD=true→(a+1)*10 ^ l.length≤1000000000000000000→Lib.parseUintM (2 ^ 64-1) a l=.ok (xc a l)
 | [],a,_,_=>by rw[gg];rfl
 |c::r,a,h,hb=>by
  simp only[List.all_cons,Bool.and_eq_true] at h;have hd:=xE h.1;have hc:48≤c.toNat∧c.toNat≤57:=by have:=h.1;unfold isD at this;simpa using this
  rw[List.length_cons,Nat.pow_succ] at hb;have hp:1≤10 ^ r.length:=Nat.one_le_pow _ _ (by omega);have h1:(a+1)*(10 ^ r.length*10)=(10*a+10)*10 ^ r.length:=by rw[Nat.mul_comm (10 ^ r.length) 10,←Nat.mul_assoc];congr 1;omega
  rw[h1] at hb;have h2:(10*a+10)*1≤(10*a+10)*10 ^ r.length:=Nat.mul_le_mul_left _ hp;have e:a*10+(c.toNat-48)=10*a+(c.toNat-48):=by omega
  unfold Lib.parseUintM;rw[if_pos hc,if_neg (by omega),if_neg (by omega),fx,e];refine qZ r _ h.2 (Nat.le_trans (Nat.mul_le_mul_right _ ?_) hb);omega
theorem zT(s:List UInt8)(hs:s≠[])(hd:s.all isD=true)(hl:s.length≤18)(mem:Mem):mB prog 247 [.str s,.int .i64 10,.int .i64 64] mem (.tuple [.int .u64 (kW s:Nat),.nilIface]) mem:=
 mB.aaR (gC _ func247 (by kernel_rfl) (by kernel_rfl)) (Vs:=[.string ⟨s.toArray⟩,.int .i64 10,.int .i64 64]) (fun μ n Us h=>by simpa [aad,aab] using h) (V:=.tuple #[.int .u64 (kW s:Nat),.nilIface]) (fun μ n=>by simp only[aab,aad];exact⟨_,rfl,_,_,rfl,rfl,_,_,rfl,rfl,rfl⟩)
  (fun base w hG=>(Any.strconv_ParseUint_10_at64_ok uR ⟨s.toArray⟩ (by simp[ByteArray.size];omega) (kW s) (by have hp:10 ^ s.length≤10 ^ 18:=Nat.pow_le_pow_right (by omega) hl;have:=qZ s 0 hd (by omega);simp only[Lib.parseUintB];rw[if_neg (by simpa using hs)];exact this) w).mono fun e w' ⟨h1,h2⟩=>⟨h1,by rcases h2 with rfl | rfl;exact aaC.refl _;exact mL _ _ _⟩) mem
end Go.Proofs
namespace Go.Proofs
open Go.Eng Go.Shelf Go.RowKit Go.Sort
open Tryz
def pj:Go.Shelf.Ren:=⟨fun | 284=>233 | 129=>262 | 317=>261 | 318=>263 | n=>n,fun | 53=>298 | 3=>3 | 212=>329 | 0=>0 | 4=>4 | 46=>322 | 5=>5 | 9=>9 | n=>n,fun | 17=>3 | n=>n⟩
theorem uQ:Go.Proofs.LaysM.n284 prog pj:={
 mixed:=by kernel_rfl
 f129:=func262.trans (congrArg some (by kernel_rfl))
 f284:=func233.trans (congrArg some (by kernel_rfl))
 f317:=func261.trans (congrArg some (by kernel_rfl))
 f318:=func263.trans (congrArg some (by kernel_rfl))
 t0:=underlying0
 a0:=isAgg0
 z0:=sizeOf0
 v0:=zeroValue0
 t3:=underlying3
 a3:=isAgg3
 z3:=sizeOf3
 v3:=zeroValue3
 t4:=underlying4
 a4:=isAgg4
 z4:=sizeOf4
 v4:=zeroValue4
 t5:=underlying5
 a5:=isAgg5
 z5:=sizeOf5
 v5:=zeroValue5
 t9:=underlying9
 a9:=isAgg9
 z9:=sizeOf9
 v9:=zeroValue9
 t46:=underlying322
 a46:=isAgg322
 z46:=sizeOf322
 v46:=zeroValue322
 t53:=underlying298
 a53:=isAgg298
 z53:=sizeOf298
 v53:=zeroValue298
 t212:=underlying329
 a212:=isAgg329
 z212:=sizeOf329
 v212:=zeroValue329
 g17:=by kernel_rfl
 i0:=by kernel_rfl
 i3:=by kernel_rfl
 i4:=by kernel_rfl
 i5:=by kernel_rfl
 i9:=by kernel_rfl
 i46:=by kernel_rfl
 i53:=by kernel_rfl
 i212:=by kernel_rfl
 m17:=by kernel_rfl }
def mq:Go.Shelf.Ren:=⟨fun | 285=>234 | n=>n,fun | 37=>175 | 53=>298 | 3=>3 | 4=>4 | 51=>330 | 9=>9 | 5=>5 | 0=>0 | n=>n,fun | n=>n⟩
theorem qu:Go.Proofs.Lays.n285 prog mq:={
 mixed:=by kernel_rfl
 f285:=func234.trans (congrArg some (by kernel_rfl))
 t0:=underlying0
 a0:=isAgg0
 z0:=sizeOf0
 v0:=zeroValue0
 t3:=underlying3
 a3:=isAgg3
 z3:=sizeOf3
 v3:=zeroValue3
 t4:=underlying4
 a4:=isAgg4
 z4:=sizeOf4
 v4:=zeroValue4
 t5:=underlying5
 a5:=isAgg5
 z5:=sizeOf5
 v5:=zeroValue5
 t9:=underlying9
 a9:=isAgg9
 z9:=sizeOf9
 v9:=zeroValue9
 t37:=underlying175
 a37:=isAgg175
 z37:=sizeOf175
 v37:=zeroValue175
 t51:=underlying330
 a51:=isAgg330
 z51:=sizeOf330
 v51:=zeroValue330
 t53:=underlying298
 a53:=isAgg298
 z53:=sizeOf298
 v53:=zeroValue298 }
def qv:Go.Shelf.Ren:=⟨fun | 283=>232 | n=>n,fun | 3=>3 | 9=>9 | 4=>4 | n=>n,fun | n=>n⟩
theorem wh:Go.Proofs.Lays.n283 prog qv:={
 mixed:=by kernel_rfl
 f283:=func232.trans (congrArg some (by kernel_rfl))
 t3:=underlying3
 a3:=isAgg3
 z3:=sizeOf3
 v3:=zeroValue3
 t4:=underlying4
 a4:=isAgg4
 z4:=sizeOf4
 v4:=zeroValue4
 t9:=underlying9
 a9:=isAgg9
 z9:=sizeOf9
 v9:=zeroValue9 }
section
variable (u:Nat)(hu64:u<18446744073709551616)(w:World)(htab:∀s,wK=s→Lib.TabIs prog w s .u64 Lib.pow10Tab)
include u hu64 w htab
theorem mQ:
  Calls prog 271 #[.int .u64 u,.int .i64 10] w fun e w' =>e=.returned (.string ⟨(Lib.decDigits u).toArray⟩)∧∃k os,w' =grow (w.drewN k) os:=by
 by_cases hs:u<100
 ·go_enter func271,ntmps271
  go_wp2_with (go_at_call 232;refine(Any.internal_strconv_small wh u hs _).mono ?_;rintro e w' ⟨rfl,rfl⟩)
  go_ret
  exact⟨rfl,0,#[],by simp[World.drewN_zero]⟩
 ·have hu1:1≤u:=by omega
  have hnd20:Lib.nDigits u≤20:=by have:=Lib.numDigits_eq u hu1 hu64;split at this<;>omega
  have hal:prog.arrayLen 297=24:=by kernel_rfl
  have hsl1:∀W,(Instr.sliceAt 297 (.pointer (some ⟨w.heap.size,0,none⟩)) none (some (.int .i64 (Lib.nDigits u:Int))) none).run prog W=.ok (.slice (some ⟨w.heap.size,0,none⟩) (Lib.nDigits u) 24) W:=fun W=>by
   rw[run_sliceAt_array_h W 297 ⟨w.heap.size,0,none⟩ (by kernel_rfl) .i64 (Lib.nDigits u:Int) (by omega) (by rw[hal];omega)]
   go_simp
  have hH0:=Lib.holds_zero0 w 297 (Lib.nDigits u) (by omega);have hfmt:=Any.internal_strconv_formatBase10 qu w.heap.size 0 24 u (Array.replicate (Lib.nDigits u) 0) (w.alloc (.cells Lib.zeros24 297)) hH0 (by rw[Array.size_replicate];exact Lib.lt_pow_nDigits u) hu64 (by rw[Array.size_replicate];omega);rw[Array.size_replicate] at hfmt;have HH0:=Lib.hid hH0;clear hH0 hal
  go_enter func271,ntmps271
  go_wp2_with (first
   |(go_at_call 233;refine(Any.internal_strconv_numDigits uQ u hu1 hu64 _ (Lib.tabIs_alloc (htab _ (by kernel_rfl)) _)).mono ?_;rintro e w' ⟨rfl,rfl⟩))
  go_at_call 234
  refine hfmt.mono ?_;rintro e w' ⟨rfl,k,v',dk,rfl,hF⟩;have Yd:(convert 175 9 (.slice (some ⟨w.heap.size,0,none⟩) (Lib.nDigits u) 24)).run prog ((putRow (fun(b:UInt8)=>Value.int .u8 (b.toNat:Int)) (w.alloc (.cells Lib.zeros24 297)) w.heap.size 0 dk).drewN k)=.ok (.string ⟨(Lib.decDigits u).toArray⟩) ((putRow (fun(b:UInt8)=>Value.int .u8 (b.toNat:Int)) (w.alloc (.cells Lib.zeros24 297)) w.heap.size 0 dk).drewN k):=by
   have h:=run_convert_bytes_back (P:=prog) ((putRow (fun(b:UInt8)=>Value.int .u8 (b.toNat:Int)) (w.alloc (.cells Lib.zeros24 297)) w.heap.size 0 dk).drewN k) 175 9 5 ⟨w.heap.size,0,none⟩ 24 (Lib.decDigits u) (by kernel_rfl) (by kernel_rfl) (by kernel_rfl) (fun j hj=>by rw[Lib.row_is_numeral hF j hj,Lib.add_plain,World.cell?_drewN];exact cell?_putRow (fun(b:UInt8)=>Value.int .u8 (b.toNat:Int)) _ w.heap.size 0 _ dk HH0.out (by rw[hF.size,Array.size_replicate]) j (by rw[hF.size];rw[Lib.decDigits_length] at hj;exact hj))
   rw[Lib.decDigits_length] at h;exact h
  go_wp2
  go_ret
  obtain⟨os,eo⟩:=Lib.fin_at w (.cells Lib.zeros24 297) dk k 0;exact⟨rfl,k,os,eo⟩
theorem oq:
  Calls prog 251 #[.int .u64 u,.int .i64 10] w fun e w' =>e=.returned (.string ⟨(Lib.decDigits u).toArray⟩)∧∃k os,w' =grow (w.drewN k) os:=by
 go_enter func251,ntmps251
 go_wp2_with (go_at_call 271;refine(mQ u hu64 _ htab).mono ?_;rintro e w' ⟨rfl,hw⟩)
 go_ret
 exact⟨rfl,hw⟩
end
theorem yj(u:Nat)(hu:u<18446744073709551616)(mem:Mem):mB prog 251 [.int .u64 u,.int .i64 10] mem (.str (aS u)) mem:=
 mB.aaR (gC _ func251 (by kernel_rfl) (by kernel_rfl)) (Vs:=[.int .u64 u,.int .i64 10]) (fun μ n Us h=>by simpa [aad,aab] using h) (V:=.string ⟨(aS u).toArray⟩) (fun μ n=>by simp[aab])
  (fun base w hG=>(oq u hu w fun _ hs=>hG.acw hs).mono fun e w' ⟨h1,k,os,h2⟩=>⟨by rw[h1,ue],h2▸aaC.grow w k os⟩) mem
end Go.Proofs
