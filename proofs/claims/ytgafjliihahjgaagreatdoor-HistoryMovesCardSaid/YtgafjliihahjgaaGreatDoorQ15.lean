/- See Q54. -/
import Derived.Test.YtgafjliihahjgaaGreatDoorQ11
import Derived.Shelf.Pu.ParseUintPublic10
import Derived.Ground.MpProg
import Derived.Lib.AppendIntMem
set_option linter.all false
namespace Go.Proofs
open Go.Eng Go.Shelf
def nk:Go.Shelf.Ren:=⟨fun | 14=>221 | 16=>264 | 17=>232 | 19=>287 | 20=>288 | 21=>269 | 22=>270 | 23=>271 | 24=>272 | 25=>290 | 27=>104 | 26=>291 | 28=>158 | 29=>236 | 30=>273 | 31=>274 | 32=>275 | 33=>276 | 35=>293 | 34=>292 | 36=>294 | 37=>295 | 38=>296 | 39=>299 | 40=>300 | n=>n,fun | 9=>9 | 3=>3 | 22=>280 | 24=>240 | 25=>281 | 4=>4 | 34=>325 | 5=>5 | 36=>322 | 37=>198 | 0=>0 | 39=>328 | 21=>21 | 44=>351 | 47=>324 | 50=>361 | 48=>359 | 2=>2 | 52=>331 | 55=>334 | 59=>354 | 60=>343 | 20=>20 | 61=>355 | 65=>367 | 66=>368 | 67=>294 | n=>n,fun | 0=>1 | 1=>2 | 2=>3 | 3=>4 | 4=>5 | n=>n⟩
theorem rZ:Go.Proofs.LaysPu.n14 Tryz.prog nk:={
 mixed:=by kernel_rfl
 f14:=Tryz.func221.trans (congrArg some (by kernel_rfl))
 f16:=Tryz.func264.trans (congrArg some (by kernel_rfl))
 f17:=Tryz.func232.trans (congrArg some (by kernel_rfl))
 f19:=Tryz.func287.trans (congrArg some (by kernel_rfl))
 f20:=Tryz.func288.trans (congrArg some (by kernel_rfl))
 f21:=Tryz.func269.trans (congrArg some (by kernel_rfl))
 f22:=Tryz.func270.trans (congrArg some (by kernel_rfl))
 f23:=Tryz.func271.trans (congrArg some (by kernel_rfl))
 f24:=Tryz.func272.trans (congrArg some (by kernel_rfl))
 f25:=Tryz.func290.trans (congrArg some (by kernel_rfl))
 f26:=Tryz.func291.trans (congrArg some (by kernel_rfl))
 f27:=Tryz.func104.trans (congrArg some (by kernel_rfl))
 f28:=Tryz.func158.trans (congrArg some (by kernel_rfl))
 f29:=Tryz.func236.trans (congrArg some (by kernel_rfl))
 f30:=Tryz.func273.trans (congrArg some (by kernel_rfl))
 f31:=Tryz.func274.trans (congrArg some (by kernel_rfl))
 f32:=Tryz.func275.trans (congrArg some (by kernel_rfl))
 f33:=Tryz.func276.trans (congrArg some (by kernel_rfl))
 f34:=Tryz.func292.trans (congrArg some (by kernel_rfl))
 f35:=Tryz.func293.trans (congrArg some (by kernel_rfl))
 f36:=Tryz.func294.trans (congrArg some (by kernel_rfl))
 f37:=Tryz.func295.trans (congrArg some (by kernel_rfl))
 f38:=Tryz.func296.trans (congrArg some (by kernel_rfl))
 f39:=Tryz.func299.trans (congrArg some (by kernel_rfl))
 f40:=Tryz.func300.trans (congrArg some (by kernel_rfl))
 t0:=Tryz.underlying0
 a0:=Tryz.isAgg0
 z0:=Tryz.sizeOf0
 v0:=Tryz.zeroValue0
 i0:=by kernel_rfl
 t2:=Tryz.underlying2
 a2:=Tryz.isAgg2
 z2:=Tryz.sizeOf2
 v2:=Tryz.zeroValue2
 i2:=by kernel_rfl
 t3:=Tryz.underlying3
 a3:=Tryz.isAgg3
 z3:=Tryz.sizeOf3
 v3:=Tryz.zeroValue3
 i3:=by kernel_rfl
 t4:=Tryz.underlying4
 a4:=Tryz.isAgg4
 z4:=Tryz.sizeOf4
 v4:=Tryz.zeroValue4
 i4:=by kernel_rfl
 t5:=Tryz.underlying5
 a5:=Tryz.isAgg5
 z5:=Tryz.sizeOf5
 v5:=Tryz.zeroValue5
 i5:=by kernel_rfl
 t9:=Tryz.underlying9
 a9:=Tryz.isAgg9
 z9:=Tryz.sizeOf9
 v9:=Tryz.zeroValue9
 i9:=by kernel_rfl
 t20:=Tryz.underlying20
 a20:=Tryz.isAgg20
 z20:=Tryz.sizeOf20
 v20:=Tryz.zeroValue20
 i20:=by kernel_rfl
 t21:=Tryz.underlying21
 a21:=Tryz.isAgg21
 z21:=Tryz.sizeOf21
 v21:=Tryz.zeroValue21
 i21:=by kernel_rfl
 t22:=Tryz.underlying280
 a22:=Tryz.isAgg280
 z22:=Tryz.sizeOf280
 v22:=Tryz.zeroValue280
 i22:=by kernel_rfl
 t24:=Tryz.underlying240
 a24:=Tryz.isAgg240
 z24:=Tryz.sizeOf240
 v24:=Tryz.zeroValue240
 i24:=by kernel_rfl
 t25:=Tryz.underlying281
 a25:=Tryz.isAgg281
 z25:=Tryz.sizeOf281
 v25:=Tryz.zeroValue281
 i25:=by kernel_rfl
 t34:=Tryz.underlying325
 a34:=Tryz.isAgg325
 z34:=Tryz.sizeOf325
 v34:=Tryz.zeroValue325
 i34:=by kernel_rfl
 c34:=by kernel_rfl
 t36:=Tryz.underlying322
 a36:=Tryz.isAgg322
 z36:=Tryz.sizeOf322
 v36:=Tryz.zeroValue322
 i36:=by kernel_rfl
 t37:=Tryz.underlying198
 a37:=Tryz.isAgg198
 z37:=Tryz.sizeOf198
 v37:=Tryz.zeroValue198
 i37:=by kernel_rfl
 t39:=Tryz.underlying328
 a39:=Tryz.isAgg328
 z39:=Tryz.sizeOf328
 v39:=Tryz.zeroValue328
 i39:=by kernel_rfl
 t44:=Tryz.underlying351
 a44:=Tryz.isAgg351
 z44:=Tryz.sizeOf351
 v44:=Tryz.zeroValue351
 i44:=by kernel_rfl
 t47:=Tryz.underlying324
 a47:=Tryz.isAgg324
 z47:=Tryz.sizeOf324
 v47:=Tryz.zeroValue324
 i47:=by kernel_rfl
 t48:=Tryz.underlying359
 a48:=Tryz.isAgg359
 z48:=Tryz.sizeOf359
 v48:=Tryz.zeroValue359
 i48:=by kernel_rfl
 t50:=Tryz.underlying361
 a50:=Tryz.isAgg361
 z50:=Tryz.sizeOf361
 v50:=Tryz.zeroValue361
 i50:=by kernel_rfl
 t52:=Tryz.underlying331
 a52:=Tryz.isAgg331
 z52:=Tryz.sizeOf331
 v52:=Tryz.zeroValue331
 i52:=by kernel_rfl
 t55:=Tryz.underlying334
 a55:=Tryz.isAgg334
 z55:=Tryz.sizeOf334
 v55:=Tryz.zeroValue334
 i55:=by kernel_rfl
 t59:=Tryz.underlying354
 a59:=Tryz.isAgg354
 z59:=Tryz.sizeOf354
 v59:=Tryz.zeroValue354
 i59:=by kernel_rfl
 t60:=Tryz.underlying343
 a60:=Tryz.isAgg343
 z60:=Tryz.sizeOf343
 v60:=Tryz.zeroValue343
 i60:=by kernel_rfl
 t61:=Tryz.underlying355
 a61:=Tryz.isAgg355
 z61:=Tryz.sizeOf355
 t65:=Tryz.underlying367
 a65:=Tryz.isAgg367
 z65:=Tryz.sizeOf367
 v65:=Tryz.zeroValue367
 i65:=by kernel_rfl
 t66:=Tryz.underlying368
 a66:=Tryz.isAgg368
 z66:=Tryz.sizeOf368
 v66:=Tryz.zeroValue368
 i66:=by kernel_rfl
 t67:=Tryz.underlying294
 a67:=Tryz.isAgg294
 z67:=Tryz.sizeOf294
 v67:=Tryz.zeroValue294
 i67:=by kernel_rfl
 g0:=by kernel_rfl
 m0:=by kernel_rfl
 g1:=by kernel_rfl
 m1:=by kernel_rfl
 g2:=by kernel_rfl
 m2:=by kernel_rfl
 g3:=by kernel_rfl
 m3:=by kernel_rfl
 g4:=by kernel_rfl
 m4:=by kernel_rfl }
theorem oK:∀(l:List UInt8) (a:Nat),l.all isD=true→(a+1)*10 ^ l.length≤1000000000000000000→Lib.parseUintM (2 ^ 64-1) a l=.ok (uN a l)
 | [],a,_,_=>by rw[fA];rfl
 |c::r,a,h,hb=>by
  simp only[List.all_cons,Bool.and_eq_true] at h;have hd:=vd h.1;have hc:48≤c.toNat∧c.toNat≤57:=by have:=h.1;unfold isD at this;simpa using this
  rw[List.length_cons,Nat.pow_succ] at hb;have hp:1≤10 ^ r.length:=Nat.one_le_pow _ _ (by omega);have h1:(a+1)*(10 ^ r.length*10)=(10*a+10)*10 ^ r.length:=by rw[Nat.mul_comm (10 ^ r.length) 10,←Nat.mul_assoc];congr 1;omega
  rw[h1] at hb;have h2:(10*a+10)*1≤(10*a+10)*10 ^ r.length:=Nat.mul_le_mul_left _ hp;have e:a*10+(c.toNat-48)=10*a+(c.toNat-48):=by omega
  unfold Lib.parseUintM;rw[if_pos hc,if_neg (by omega),if_neg (by omega),eL,e];refine oK r _ h.2 (Nat.le_trans (Nat.mul_le_mul_right _ ?_) hb);omega
theorem xL(s:List UInt8) (hs:s≠[]) (hd:s.all isD=true) (hl:s.length≤18) (mem:Mem):ACallsTo Tryz.prog 221 [.str s,.int .i64 10,.int .i64 64] mem (.tuple [.int .u64 (jK s:Nat),.nilIface]) mem:=
 ACallsTo.of_calls (fO _ Tryz.func221 (by kernel_rfl) (by kernel_rfl)) (Vs:=[.string ⟨s.toArray⟩,.int .i64 10,.int .i64 64]) (fun μ n Us h=>by simpa [VRels,VRel] using h) (V:=.tuple #[.int .u64 (jK s:Nat),.nilIface]) (fun μ n=>by simp only[VRel,VRels];exact⟨_,rfl,_,_,rfl,rfl,_,_,rfl,rfl,rfl⟩)
  (fun base w hG=>(Any.strconv_ParseUint_10_at64_ok rZ ⟨s.toArray⟩ (by simp[ByteArray.size];omega) (jK s) (by have hp:10 ^ s.length≤10 ^ 18:=Nat.pow_le_pow_right (by omega) hl;have:=oK s 0 hd (by omega);simp only[Lib.parseUintB];rw[if_neg (by simpa using hs)];exact this) w).mono fun e w' ⟨h1,h2⟩=>⟨h1,by rcases h2 with rfl | rfl;exact Gentle.refl _;exact lr _ _ _⟩) mem
end Go.Proofs
namespace Go.Proofs
open Go.Eng Go.Shelf Go.RowKit Go.Sort
def nj:Go.Shelf.Ren:=⟨fun | 284=>274 | 129=>293 | 317=>292 | 318=>294 | n=>n,fun | 53=>280 | 3=>3 | 212=>354 | 0=>0 | 4=>4 | 46=>322 | 5=>5 | 9=>9 | n=>n,fun | 17=>3 | n=>n⟩
theorem rY:Go.Proofs.LaysM.n284 Tryz.prog nj:={
 mixed:=by kernel_rfl
 f129:=Tryz.func293.trans (congrArg some (by kernel_rfl))
 f284:=Tryz.func274.trans (congrArg some (by kernel_rfl))
 f317:=Tryz.func292.trans (congrArg some (by kernel_rfl))
 f318:=Tryz.func294.trans (congrArg some (by kernel_rfl))
 t0:=Tryz.underlying0
 a0:=Tryz.isAgg0
 z0:=Tryz.sizeOf0
 v0:=Tryz.zeroValue0
 t3:=Tryz.underlying3
 a3:=Tryz.isAgg3
 z3:=Tryz.sizeOf3
 v3:=Tryz.zeroValue3
 t4:=Tryz.underlying4
 a4:=Tryz.isAgg4
 z4:=Tryz.sizeOf4
 v4:=Tryz.zeroValue4
 t5:=Tryz.underlying5
 a5:=Tryz.isAgg5
 z5:=Tryz.sizeOf5
 v5:=Tryz.zeroValue5
 t9:=Tryz.underlying9
 a9:=Tryz.isAgg9
 z9:=Tryz.sizeOf9
 v9:=Tryz.zeroValue9
 t46:=Tryz.underlying322
 a46:=Tryz.isAgg322
 z46:=Tryz.sizeOf322
 v46:=Tryz.zeroValue322
 t53:=Tryz.underlying280
 a53:=Tryz.isAgg280
 z53:=Tryz.sizeOf280
 v53:=Tryz.zeroValue280
 t212:=Tryz.underlying354
 a212:=Tryz.isAgg354
 z212:=Tryz.sizeOf354
 v212:=Tryz.zeroValue354
 g17:=by kernel_rfl
 i0:=by kernel_rfl
 i3:=by kernel_rfl
 i4:=by kernel_rfl
 i5:=by kernel_rfl
 i9:=by kernel_rfl
 i46:=by kernel_rfl
 i53:=by kernel_rfl
 i212:=by kernel_rfl
 m17:=by kernel_rfl }
def kN:Go.Shelf.Ren:=⟨fun | 285=>275 | n=>n,fun | 37=>198 | 53=>280 | 3=>3 | 4=>4 | 51=>343 | 9=>9 | 5=>5 | 0=>0 | n=>n,fun | n=>n⟩
theorem n9:Go.Proofs.Lays.n285 Tryz.prog kN:={
 mixed:=by kernel_rfl
 f285:=Tryz.func275.trans (congrArg some (by kernel_rfl))
 t0:=Tryz.underlying0
 a0:=Tryz.isAgg0
 z0:=Tryz.sizeOf0
 v0:=Tryz.zeroValue0
 t3:=Tryz.underlying3
 a3:=Tryz.isAgg3
 z3:=Tryz.sizeOf3
 v3:=Tryz.zeroValue3
 t4:=Tryz.underlying4
 a4:=Tryz.isAgg4
 z4:=Tryz.sizeOf4
 v4:=Tryz.zeroValue4
 t5:=Tryz.underlying5
 a5:=Tryz.isAgg5
 z5:=Tryz.sizeOf5
 v5:=Tryz.zeroValue5
 t9:=Tryz.underlying9
 a9:=Tryz.isAgg9
 z9:=Tryz.sizeOf9
 v9:=Tryz.zeroValue9
 t37:=Tryz.underlying198
 a37:=Tryz.isAgg198
 z37:=Tryz.sizeOf198
 v37:=Tryz.zeroValue198
 t51:=Tryz.underlying343
 a51:=Tryz.isAgg343
 z51:=Tryz.sizeOf343
 v51:=Tryz.zeroValue343
 t53:=Tryz.underlying280
 a53:=Tryz.isAgg280
 z53:=Tryz.sizeOf280
 v53:=Tryz.zeroValue280 }
def oa:Go.Shelf.Ren:=⟨fun | 283=>273 | n=>n,fun | 3=>3 | 9=>9 | 4=>4 | n=>n,fun | n=>n⟩
theorem tY:Go.Proofs.Lays.n283 Tryz.prog oa:={
 mixed:=by kernel_rfl
 f283:=Tryz.func273.trans (congrArg some (by kernel_rfl))
 t3:=Tryz.underlying3
 a3:=Tryz.isAgg3
 z3:=Tryz.sizeOf3
 v3:=Tryz.zeroValue3
 t4:=Tryz.underlying4
 a4:=Tryz.isAgg4
 z4:=Tryz.sizeOf4
 v4:=Tryz.zeroValue4
 t9:=Tryz.underlying9
 a9:=Tryz.isAgg9
 z9:=Tryz.sizeOf9
 v9:=Tryz.zeroValue9 }
set_option maxHeartbeats 6400000 in
set_option maxRecDepth 100000 in
theorem lx(u:Nat) (hu64:u<18446744073709551616) (w:World) (htab:∀s,uy=s→Lib.TabIs Tryz.prog w s .u64 Lib.pow10Tab):
  Calls Tryz.prog 267 #[.int .u64 u,.int .i64 10] w fun e w' =>e=.returned (.string ⟨(Lib.decDigits u).toArray⟩)∧∃k os,w' =grow (w.drewN k) os:=by
 by_cases hs:u<100
 ·go_enter Tryz.func267,Tryz.ntmps267
  go_wp2_with (go_at_call 273;refine(Any.internal_strconv_small tY u hs _).mono ?_;rintro e w' ⟨rfl,rfl⟩)
  go_ret
  exact⟨rfl,0,#[],by simp[World.drewN_zero]⟩
 ·have hu1:1≤u:=by omega
  have hnd20:Lib.nDigits u≤20:=by have:=Lib.numDigits_eq u hu1 hu64;split at this<;>omega
  have hal:Tryz.prog.arrayLen 331=24:=by kernel_rfl
  have hsl1:∀W,(Instr.sliceAt 331 (.pointer (some ⟨w.heap.size,0,none⟩)) none (some (.int .i64 (Lib.nDigits u:Int))) none).run Tryz.prog W=.ok (.slice (some ⟨w.heap.size,0,none⟩) (Lib.nDigits u) 24) W:=fun W=>by
   rw[run_sliceAt_array_h W 331 ⟨w.heap.size,0,none⟩ (by kernel_rfl) .i64 (Lib.nDigits u:Int) (by omega) (by rw[hal];omega)]
   go_simp
  have hH0:=Lib.holds_zero0 w 331 (Lib.nDigits u) (by omega);have hfmt:=Any.internal_strconv_formatBase10 n9 w.heap.size 0 24 u (Array.replicate (Lib.nDigits u) 0) (w.alloc (.cells Lib.zeros24 331)) hH0 (by rw[Array.size_replicate];exact Lib.lt_pow_nDigits u) hu64 (by rw[Array.size_replicate];omega);rw[Array.size_replicate] at hfmt;have HH0:=Lib.hid hH0;clear hH0 hal
  go_enter Tryz.func267,Tryz.ntmps267
  go_wp2_with (first
   |(go_at_call 274;refine(Any.internal_strconv_numDigits rY u hu1 hu64 _ (Lib.tabIs_alloc (htab _ (by kernel_rfl)) _)).mono ?_;rintro e w' ⟨rfl,rfl⟩))
  go_at_call 275
  refine hfmt.mono ?_;rintro e w' ⟨rfl,k,v',dk,rfl,hF⟩;have hcv:(convert 198 9 (.slice (some ⟨w.heap.size,0,none⟩) (Lib.nDigits u) 24)).run Tryz.prog ((putRow (fun(b:UInt8)=>Value.int .u8 (b.toNat:Int)) (w.alloc (.cells Lib.zeros24 331)) w.heap.size 0 dk).drewN k)=.ok (.string ⟨(Lib.decDigits u).toArray⟩) ((putRow (fun(b:UInt8)=>Value.int .u8 (b.toNat:Int)) (w.alloc (.cells Lib.zeros24 331)) w.heap.size 0 dk).drewN k):=by
   have h:=run_convert_bytes_back (P:=Tryz.prog) ((putRow (fun(b:UInt8)=>Value.int .u8 (b.toNat:Int)) (w.alloc (.cells Lib.zeros24 331)) w.heap.size 0 dk).drewN k) 198 9 5 ⟨w.heap.size,0,none⟩ 24 (Lib.decDigits u) (by kernel_rfl) (by kernel_rfl) (by kernel_rfl) (fun j hj=>by rw[Lib.row_is_numeral hF j hj,Lib.add_plain,World.cell?_drewN];exact cell?_putRow (fun(b:UInt8)=>Value.int .u8 (b.toNat:Int)) _ w.heap.size 0 _ dk HH0.out (by rw[hF.size,Array.size_replicate]) j (by rw[hF.size];rw[Lib.decDigits_length] at hj;exact hj))
   rw[Lib.decDigits_length] at h;exact h
  go_wp2
  go_ret
  obtain⟨os,eo⟩:=Lib.fin_at w (.cells Lib.zeros24 331) dk k 0;exact⟨rfl,k,os,eo⟩
set_option maxHeartbeats 2000000 in
set_option maxRecDepth 100000 in
theorem mz(u:Nat) (hu64:u<18446744073709551616) (w:World) (htab:∀s,uy=s→Lib.TabIs Tryz.prog w s .u64 Lib.pow10Tab):
  Calls Tryz.prog 228 #[.int .u64 u,.int .i64 10] w fun e w' =>e=.returned (.string ⟨(Lib.decDigits u).toArray⟩)∧∃k os,w' =grow (w.drewN k) os:=by
 go_enter Tryz.func228,Tryz.ntmps228
 go_wp2_with (go_at_call 267;refine(lx u hu64 _ htab).mono ?_;rintro e w' ⟨rfl,hw⟩)
 go_ret
 exact⟨rfl,hw⟩
theorem vQ(u:Nat) (hu:u<18446744073709551616) (mem:Mem):ACallsTo Tryz.prog 228 [.int .u64 u,.int .i64 10] mem (.str (aJ u)) mem:=
 ACallsTo.of_calls (fO _ Tryz.func228 (by kernel_rfl) (by kernel_rfl)) (Vs:=[.int .u64 u,.int .i64 10]) (fun μ n Us h=>by simpa [VRels,VRel] using h) (V:=.string ⟨(aJ u).toArray⟩) (fun μ n=>by simp[VRel])
  (fun base w hG=>(mz u hu w fun _ hs=>hG.tabOf hs).mono fun e w' ⟨h1,k,os,h2⟩=>⟨by rw[h1,ru],h2▸Gentle.grow w k os⟩) mem
end Go.Proofs
