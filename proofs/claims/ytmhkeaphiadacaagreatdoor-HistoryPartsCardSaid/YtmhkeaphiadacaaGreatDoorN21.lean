/- See N58. -/
import Derived.Test.YtmhkeaphiadacaaGreatDoorN15
import Derived.Shelf.Strconv.Itoa3
import Derived.Shelf.Pu.ParseUintPublic10
import Derived.Ground.NamesProg
import Derived.Ground.MpProg
import Derived.Test.YtmhkeaphiadacaaGreatDoorProg
import Derived.Lib.AppendIntMem
set_option linter.all false
namespace Go.Proofs
open Go.Eng Go.Shelf
def nK:Go.Shelf.Ren:=⟨fun | 14=>247 | 16=>258 | 17=>198 | 19=>275 | 20=>276 | 21=>228 | 22=>229 | 23=>230 | 24=>231 | 25=>259 | 27=>103 | 26=>260 | 28=>142 | 29=>199 | 30=>232 | 31=>233 | 32=>234 | 33=>235 | 35=>262 | 34=>261 | 36=>263 | 37=>264 | 38=>265 | 39=>277 | 40=>278 | n=>n,fun | 9=>9 | 3=>3 | 22=>298 | 24=>234 | 25=>309 | 4=>4 | 34=>291 | 5=>5 | 36=>322 | 37=>175 | 0=>0 | 39=>294 | 21=>21 | 44=>325 | 47=>336 | 50=>340 | 48=>338 | 2=>2 | 52=>297 | 55=>301 | 59=>329 | 60=>330 | 20=>20 | 61=>331 | 65=>350 | 66=>351 | 67=>320 | n=>n,fun | 0=>1 | 1=>2 | 2=>3 | 3=>4 | 4=>5 | n=>n⟩
theorem rL:Go.Proofs.LaysPu.n14 Tryz.prog nK:={
 mixed:=by kernel_rfl
 f14:=Tryz.func247.trans (congrArg some (by kernel_rfl))
 f16:=Tryz.func258.trans (congrArg some (by kernel_rfl))
 f17:=Tryz.func198.trans (congrArg some (by kernel_rfl))
 f19:=Tryz.func275.trans (congrArg some (by kernel_rfl))
 f20:=Tryz.func276.trans (congrArg some (by kernel_rfl))
 f21:=Tryz.func228.trans (congrArg some (by kernel_rfl))
 f22:=Tryz.func229.trans (congrArg some (by kernel_rfl))
 f23:=Tryz.func230.trans (congrArg some (by kernel_rfl))
 f24:=Tryz.func231.trans (congrArg some (by kernel_rfl))
 f25:=Tryz.func259.trans (congrArg some (by kernel_rfl))
 f26:=Tryz.func260.trans (congrArg some (by kernel_rfl))
 f27:=Tryz.func103.trans (congrArg some (by kernel_rfl))
 f28:=Tryz.func142.trans (congrArg some (by kernel_rfl))
 f29:=Tryz.func199.trans (congrArg some (by kernel_rfl))
 f30:=Tryz.func232.trans (congrArg some (by kernel_rfl))
 f31:=Tryz.func233.trans (congrArg some (by kernel_rfl))
 f32:=Tryz.func234.trans (congrArg some (by kernel_rfl))
 f33:=Tryz.func235.trans (congrArg some (by kernel_rfl))
 f34:=Tryz.func261.trans (congrArg some (by kernel_rfl))
 f35:=Tryz.func262.trans (congrArg some (by kernel_rfl))
 f36:=Tryz.func263.trans (congrArg some (by kernel_rfl))
 f37:=Tryz.func264.trans (congrArg some (by kernel_rfl))
 f38:=Tryz.func265.trans (congrArg some (by kernel_rfl))
 f39:=Tryz.func277.trans (congrArg some (by kernel_rfl))
 f40:=Tryz.func278.trans (congrArg some (by kernel_rfl))
 t0:=Tryz.underlying0
 a0:=Tryz.isAgg0
 z0:=Tryz.sizeOf0
 v0:=Tryz.zeroValue0
 i0:=by kernel_rfl
 t2:=Tryz.underlying2
 a2:=Tryz.isAgg2
 z2:=Tryz.sizeOf2
 v2:=Tryz.zeroValue2
 i2:=by kernel_rfl
 t3:=Tryz.underlying3
 a3:=Tryz.isAgg3
 z3:=Tryz.sizeOf3
 v3:=Tryz.zeroValue3
 i3:=by kernel_rfl
 t4:=Tryz.underlying4
 a4:=Tryz.isAgg4
 z4:=Tryz.sizeOf4
 v4:=Tryz.zeroValue4
 i4:=by kernel_rfl
 t5:=Tryz.underlying5
 a5:=Tryz.isAgg5
 z5:=Tryz.sizeOf5
 v5:=Tryz.zeroValue5
 i5:=by kernel_rfl
 t9:=Tryz.underlying9
 a9:=Tryz.isAgg9
 z9:=Tryz.sizeOf9
 v9:=Tryz.zeroValue9
 i9:=by kernel_rfl
 t20:=Tryz.underlying20
 a20:=Tryz.isAgg20
 z20:=Tryz.sizeOf20
 v20:=Tryz.zeroValue20
 i20:=by kernel_rfl
 t21:=Tryz.underlying21
 a21:=Tryz.isAgg21
 z21:=Tryz.sizeOf21
 v21:=Tryz.zeroValue21
 i21:=by kernel_rfl
 t22:=Tryz.underlying298
 a22:=Tryz.isAgg298
 z22:=Tryz.sizeOf298
 v22:=Tryz.zeroValue298
 i22:=by kernel_rfl
 t24:=Tryz.underlying234
 a24:=Tryz.isAgg234
 z24:=Tryz.sizeOf234
 v24:=Tryz.zeroValue234
 i24:=by kernel_rfl
 t25:=Tryz.underlying309
 a25:=Tryz.isAgg309
 z25:=Tryz.sizeOf309
 v25:=Tryz.zeroValue309
 i25:=by kernel_rfl
 t34:=Tryz.underlying291
 a34:=Tryz.isAgg291
 z34:=Tryz.sizeOf291
 v34:=Tryz.zeroValue291
 i34:=by kernel_rfl
 c34:=by kernel_rfl
 t36:=Tryz.underlying322
 a36:=Tryz.isAgg322
 z36:=Tryz.sizeOf322
 v36:=Tryz.zeroValue322
 i36:=by kernel_rfl
 t37:=Tryz.underlying175
 a37:=Tryz.isAgg175
 z37:=Tryz.sizeOf175
 v37:=Tryz.zeroValue175
 i37:=by kernel_rfl
 t39:=Tryz.underlying294
 a39:=Tryz.isAgg294
 z39:=Tryz.sizeOf294
 v39:=Tryz.zeroValue294
 i39:=by kernel_rfl
 t44:=Tryz.underlying325
 a44:=Tryz.isAgg325
 z44:=Tryz.sizeOf325
 v44:=Tryz.zeroValue325
 i44:=by kernel_rfl
 t47:=Tryz.underlying336
 a47:=Tryz.isAgg336
 z47:=Tryz.sizeOf336
 v47:=Tryz.zeroValue336
 i47:=by kernel_rfl
 t48:=Tryz.underlying338
 a48:=Tryz.isAgg338
 z48:=Tryz.sizeOf338
 v48:=Tryz.zeroValue338
 i48:=by kernel_rfl
 t50:=Tryz.underlying340
 a50:=Tryz.isAgg340
 z50:=Tryz.sizeOf340
 v50:=Tryz.zeroValue340
 i50:=by kernel_rfl
 t52:=Tryz.underlying297
 a52:=Tryz.isAgg297
 z52:=Tryz.sizeOf297
 v52:=Tryz.zeroValue297
 i52:=by kernel_rfl
 t55:=Tryz.underlying301
 a55:=Tryz.isAgg301
 z55:=Tryz.sizeOf301
 v55:=Tryz.zeroValue301
 i55:=by kernel_rfl
 t59:=Tryz.underlying329
 a59:=Tryz.isAgg329
 z59:=Tryz.sizeOf329
 v59:=Tryz.zeroValue329
 i59:=by kernel_rfl
 t60:=Tryz.underlying330
 a60:=Tryz.isAgg330
 z60:=Tryz.sizeOf330
 v60:=Tryz.zeroValue330
 i60:=by kernel_rfl
 t61:=Tryz.underlying331
 a61:=Tryz.isAgg331
 z61:=Tryz.sizeOf331
 t65:=Tryz.underlying350
 a65:=Tryz.isAgg350
 z65:=Tryz.sizeOf350
 v65:=Tryz.zeroValue350
 i65:=by kernel_rfl
 t66:=Tryz.underlying351
 a66:=Tryz.isAgg351
 z66:=Tryz.sizeOf351
 v66:=Tryz.zeroValue351
 i66:=by kernel_rfl
 t67:=Tryz.underlying320
 a67:=Tryz.isAgg320
 z67:=Tryz.sizeOf320
 v67:=Tryz.zeroValue320
 i67:=by kernel_rfl
 g0:=by kernel_rfl
 m0:=by kernel_rfl
 g1:=by kernel_rfl
 m1:=by kernel_rfl
 g2:=by kernel_rfl
 m2:=by kernel_rfl
 g3:=by kernel_rfl
 m3:=by kernel_rfl
 g4:=by kernel_rfl
 m4:=by kernel_rfl }
theorem o7:∀(l:List UInt8) (a:Nat),l.all isD=true→(a+1)*10 ^ l.length≤1000000000000000000→Lib.parseUintM (2 ^ 64-1) a l=.ok (ur a l)
 | [],a,_,_=>by rw[fg];rfl
 |c::r,a,h,hb=>by
  simp only[List.all_cons,Bool.and_eq_true] at h
  have hd:=uS h.1
  have hc:48≤c.toNat∧c.toNat≤57:=by have:=h.1;unfold isD at this;simpa using this
  rw[List.length_cons,Nat.pow_succ] at hb
  have hp:1≤10 ^ r.length:=Nat.one_le_pow _ _ (by omega)
  have h1:(a+1)*(10 ^ r.length*10)=(10*a+10)*10 ^ r.length:=by rw[Nat.mul_comm (10 ^ r.length) 10,←Nat.mul_assoc];congr 1;omega
  rw[h1] at hb
  have h2:(10*a+10)*1≤(10*a+10)*10 ^ r.length:=Nat.mul_le_mul_left _ hp
  have e:a*10+(c.toNat-48)=10*a+(c.toNat-48):=by omega
  unfold Lib.parseUintM
  rw[if_pos hc,if_neg (by omega),if_neg (by omega),ee,e]
  refine o7 r _ h.2 (Nat.le_trans (Nat.mul_le_mul_right _ ?_) hb)
  omega
theorem xg(s:List UInt8) (hs:s≠[]) (hd:s.all isD=true) (hl:s.length≤18) (mem:Mem):ACallsTo Tryz.prog 247 [.str s,.int .i64 10,.int .i64 64] mem (.tuple [.int .u64 (jA s:Nat),.nilIface]) mem:=
 ACallsTo.of_calls (fv _ Tryz.func247 (by kernel_rfl) (by kernel_rfl)) (Vs:=[.string ⟨s.toArray⟩,.int .i64 10,.int .i64 64]) (fun μ n Us h=>by simpa [VRels,VRel] using h) (V:=.tuple #[.int .u64 (jA s:Nat),.nilIface]) (fun μ n=>by simp only[VRel,VRels];exact⟨_,rfl,_,_,rfl,rfl,_,_,rfl,rfl,rfl⟩)
  (fun base w hG=>(Any.strconv_ParseUint_10_at64_ok rL ⟨s.toArray⟩ (by simp[ByteArray.size];omega) (jA s) (by
   have hp:10 ^ s.length≤10 ^ 18:=Nat.pow_le_pow_right (by omega) hl
   have:=o7 s 0 hd (by omega)
   simp only[Lib.parseUintB]
   rw[if_neg (by simpa using hs)]
   exact this) w).mono fun e w' ⟨h1,h2⟩=>⟨h1,by rcases h2 with rfl | rfl;exact Gentle.refl _;exact lh _ _ _⟩) mem
end Go.Proofs
namespace Go.Proofs
open Go.Eng Go.Shelf Go.RowKit Go.Sort
def nJ:Go.Shelf.Ren:=⟨fun | 284=>233 | 129=>262 | 317=>261 | 318=>263 | n=>n,fun | 53=>298 | 3=>3 | 212=>329 | 0=>0 | 4=>4 | 46=>322 | 5=>5 | 9=>9 | n=>n,fun | 17=>3 | n=>n⟩
theorem rK:Go.Proofs.LaysM.n284 Tryz.prog nJ:={
 mixed:=by kernel_rfl
 f129:=Tryz.func262.trans (congrArg some (by kernel_rfl))
 f284:=Tryz.func233.trans (congrArg some (by kernel_rfl))
 f317:=Tryz.func261.trans (congrArg some (by kernel_rfl))
 f318:=Tryz.func263.trans (congrArg some (by kernel_rfl))
 t0:=Tryz.underlying0
 a0:=Tryz.isAgg0
 z0:=Tryz.sizeOf0
 v0:=Tryz.zeroValue0
 t3:=Tryz.underlying3
 a3:=Tryz.isAgg3
 z3:=Tryz.sizeOf3
 v3:=Tryz.zeroValue3
 t4:=Tryz.underlying4
 a4:=Tryz.isAgg4
 z4:=Tryz.sizeOf4
 v4:=Tryz.zeroValue4
 t5:=Tryz.underlying5
 a5:=Tryz.isAgg5
 z5:=Tryz.sizeOf5
 v5:=Tryz.zeroValue5
 t9:=Tryz.underlying9
 a9:=Tryz.isAgg9
 z9:=Tryz.sizeOf9
 v9:=Tryz.zeroValue9
 t46:=Tryz.underlying322
 a46:=Tryz.isAgg322
 z46:=Tryz.sizeOf322
 v46:=Tryz.zeroValue322
 t53:=Tryz.underlying298
 a53:=Tryz.isAgg298
 z53:=Tryz.sizeOf298
 v53:=Tryz.zeroValue298
 t212:=Tryz.underlying329
 a212:=Tryz.isAgg329
 z212:=Tryz.sizeOf329
 v212:=Tryz.zeroValue329
 g17:=by kernel_rfl
 i0:=by kernel_rfl
 i3:=by kernel_rfl
 i4:=by kernel_rfl
 i5:=by kernel_rfl
 i9:=by kernel_rfl
 i46:=by kernel_rfl
 i53:=by kernel_rfl
 i212:=by kernel_rfl
 m17:=by kernel_rfl }
def kL:Go.Shelf.Ren:=⟨fun | 285=>234 | n=>n,fun | 37=>175 | 53=>298 | 3=>3 | 4=>4 | 51=>330 | 9=>9 | 5=>5 | 0=>0 | n=>n,fun | n=>n⟩
theorem oo:Go.Proofs.Lays.n285 Tryz.prog kL:={
 mixed:=by kernel_rfl
 f285:=Tryz.func234.trans (congrArg some (by kernel_rfl))
 t0:=Tryz.underlying0
 a0:=Tryz.isAgg0
 z0:=Tryz.sizeOf0
 v0:=Tryz.zeroValue0
 t3:=Tryz.underlying3
 a3:=Tryz.isAgg3
 z3:=Tryz.sizeOf3
 v3:=Tryz.zeroValue3
 t4:=Tryz.underlying4
 a4:=Tryz.isAgg4
 z4:=Tryz.sizeOf4
 v4:=Tryz.zeroValue4
 t5:=Tryz.underlying5
 a5:=Tryz.isAgg5
 z5:=Tryz.sizeOf5
 v5:=Tryz.zeroValue5
 t9:=Tryz.underlying9
 a9:=Tryz.isAgg9
 z9:=Tryz.sizeOf9
 v9:=Tryz.zeroValue9
 t37:=Tryz.underlying175
 a37:=Tryz.isAgg175
 z37:=Tryz.sizeOf175
 v37:=Tryz.zeroValue175
 t51:=Tryz.underlying330
 a51:=Tryz.isAgg330
 z51:=Tryz.sizeOf330
 v51:=Tryz.zeroValue330
 t53:=Tryz.underlying298
 a53:=Tryz.isAgg298
 z53:=Tryz.sizeOf298
 v53:=Tryz.zeroValue298 }
def oq:Go.Shelf.Ren:=⟨fun | 283=>232 | n=>n,fun | 3=>3 | 9=>9 | 4=>4 | n=>n,fun | n=>n⟩
theorem tJ:Go.Proofs.Lays.n283 Tryz.prog oq:={
 mixed:=by kernel_rfl
 f283:=Tryz.func232.trans (congrArg some (by kernel_rfl))
 t3:=Tryz.underlying3
 a3:=Tryz.isAgg3
 z3:=Tryz.sizeOf3
 v3:=Tryz.zeroValue3
 t4:=Tryz.underlying4
 a4:=Tryz.isAgg4
 z4:=Tryz.sizeOf4
 v4:=Tryz.zeroValue4
 t9:=Tryz.underlying9
 a9:=Tryz.isAgg9
 z9:=Tryz.sizeOf9
 v9:=Tryz.zeroValue9 }
set_option maxHeartbeats 6400000 in
set_option maxRecDepth 100000 in
theorem lr(u:Nat) (hu64:u<18446744073709551616) (w:World) (htab:∀s,ub=s→Lib.TabIs Tryz.prog w s .u64 Lib.pow10Tab):
  Calls Tryz.prog 271 #[.int .u64 u,.int .i64 10] w fun e w' =>e=.returned (.string ⟨(Lib.decDigits u).toArray⟩)∧∃k os,w' =grow (w.drewN k) os:=by
 by_cases hs:u<100
 ·go_enter Tryz.func271,Tryz.ntmps271
  go_wp2_with (go_at_call 232;refine(Any.internal_strconv_small tJ u hs _).mono ?_;rintro e w' ⟨rfl,rfl⟩)
  go_ret
  exact⟨rfl,0,#[],by simp[World.drewN_zero]⟩
 ·have hu1:1≤u:=by omega
  have hnd20:Lib.nDigits u≤20:=by have:=Lib.numDigits_eq u hu1 hu64;split at this<;>omega
  have hal:Tryz.prog.arrayLen 297=24:=by kernel_rfl
  have hsl1:∀W,(Instr.sliceAt 297 (.pointer (some ⟨w.heap.size,0,none⟩)) none (some (.int .i64 (Lib.nDigits u:Int))) none).run Tryz.prog W=.ok (.slice (some ⟨w.heap.size,0,none⟩) (Lib.nDigits u) 24) W:=fun W=>by
   rw[run_sliceAt_array_h W 297 ⟨w.heap.size,0,none⟩ (by kernel_rfl) .i64 (Lib.nDigits u:Int) (by omega) (by rw[hal];omega)]
   go_simp
  have hH0:=Lib.holds_zero0 w 297 (Lib.nDigits u) (by omega)
  have hfmt:=Any.internal_strconv_formatBase10 oo w.heap.size 0 24 u (Array.replicate (Lib.nDigits u) 0) (w.alloc (.cells Lib.zeros24 297)) hH0 (by rw[Array.size_replicate];exact Lib.lt_pow_nDigits u) hu64 (by rw[Array.size_replicate];omega)
  rw[Array.size_replicate] at hfmt
  have HH0:=Lib.hid hH0
  clear hH0 hal
  go_enter Tryz.func271,Tryz.ntmps271
  go_wp2_with (first
   |(go_at_call 233;refine(Any.internal_strconv_numDigits rK u hu1 hu64 _ (Lib.tabIs_alloc (htab _ (by kernel_rfl)) _)).mono ?_;rintro e w' ⟨rfl,rfl⟩))
  go_at_call 234
  refine hfmt.mono ?_
  rintro e w' ⟨rfl,k,v',dk,rfl,hF⟩
  have hcv:(convert 175 9 (.slice (some ⟨w.heap.size,0,none⟩) (Lib.nDigits u) 24)).run Tryz.prog ((putRow (fun(b:UInt8)=>Value.int .u8 (b.toNat:Int)) (w.alloc (.cells Lib.zeros24 297)) w.heap.size 0 dk).drewN k)=.ok (.string ⟨(Lib.decDigits u).toArray⟩) ((putRow (fun(b:UInt8)=>Value.int .u8 (b.toNat:Int)) (w.alloc (.cells Lib.zeros24 297)) w.heap.size 0 dk).drewN k):=by
   have h:=run_convert_bytes_back (P:=Tryz.prog) ((putRow (fun(b:UInt8)=>Value.int .u8 (b.toNat:Int)) (w.alloc (.cells Lib.zeros24 297)) w.heap.size 0 dk).drewN k) 175 9 5 ⟨w.heap.size,0,none⟩ 24 (Lib.decDigits u) (by kernel_rfl) (by kernel_rfl) (by kernel_rfl) (fun j hj=>by
    rw[Lib.row_is_numeral hF j hj,Lib.add_plain,World.cell?_drewN]
    exact cell?_putRow (fun(b:UInt8)=>Value.int .u8 (b.toNat:Int)) _ w.heap.size 0 _ dk HH0.out (by rw[hF.size,Array.size_replicate]) j (by rw[hF.size];rw[Lib.decDigits_length] at hj;exact hj))
   rw[Lib.decDigits_length] at h
   exact h
  go_wp2
  go_ret
  obtain⟨os,eo⟩:=Lib.fin_at w (.cells Lib.zeros24 297) dk k 0
  exact⟨rfl,k,os,eo⟩
set_option maxHeartbeats 2000000 in
set_option maxRecDepth 100000 in
theorem m7(u:Nat) (hu64:u<18446744073709551616) (w:World) (htab:∀s,ub=s→Lib.TabIs Tryz.prog w s .u64 Lib.pow10Tab):
  Calls Tryz.prog 251 #[.int .u64 u,.int .i64 10] w fun e w' =>e=.returned (.string ⟨(Lib.decDigits u).toArray⟩)∧∃k os,w' =grow (w.drewN k) os:=by
 go_enter Tryz.func251,Tryz.ntmps251
 go_wp2_with (go_at_call 271;refine(lr u hu64 _ htab).mono ?_;rintro e w' ⟨rfl,hw⟩)
 go_ret
 exact⟨rfl,hw⟩
theorem vr(u:Nat) (hu:u<18446744073709551616) (mem:Mem):ACallsTo Tryz.prog 251 [.int .u64 u,.int .i64 10] mem (.str (aK u)) mem:=
 ACallsTo.of_calls (fv _ Tryz.func251 (by kernel_rfl) (by kernel_rfl)) (Vs:=[.int .u64 u,.int .i64 10]) (fun μ n Us h=>by simpa [VRels,VRel] using h) (V:=.string ⟨(aK u).toArray⟩) (fun μ n=>by simp[VRel])
  (fun base w hG=>(m7 u hu w fun _ hs=>hG.tabOf hs).mono fun e w' ⟨h1,k,os,h2⟩=>⟨by rw[h1,qV],h2▸Gentle.grow w k os⟩) mem
end Go.Proofs
