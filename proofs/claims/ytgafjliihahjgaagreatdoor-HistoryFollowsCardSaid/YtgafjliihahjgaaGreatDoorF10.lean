/- See F54. -/
import Derived.Test.YtgafjliihahjgaaGreatDoorF07
import Derived.Shelf.Pu.ParseUintPublic10
import Derived.Ground.MpProg
import Derived.Lib.AppendIntMem
set_option linter.all false
set_option maxRecDepth 100000
set_option maxHeartbeats 40000000
namespace Go.Proofs
open Go.Eng Go.Shelf
open Tryz
def pz:Go.Shelf.Ren:=⟨fun | 14=>221 | 16=>264 | 17=>232 | 19=>287 | 20=>288 | 21=>269 | 22=>270 | 23=>271 | 24=>272 | 25=>290 | 27=>104 | 26=>291 | 28=>158 | 29=>236 | 30=>273 | 31=>274 | 32=>275 | 33=>276 | 35=>293 | 34=>292 | 36=>294 | 37=>295 | 38=>296 | 39=>299 | 40=>300 | n=>n,fun | 9=>9 | 3=>3 | 22=>280 | 24=>240 | 25=>281 | 4=>4 | 34=>325 | 5=>5 | 36=>322 | 37=>198 | 0=>0 | 39=>328 | 21=>21 | 44=>351 | 47=>324 | 50=>361 | 48=>359 | 2=>2 | 52=>331 | 55=>334 | 59=>354 | 60=>343 | 20=>20 | 61=>355 | 65=>367 | 66=>368 | 67=>294 | n=>n,fun | 0=>1 | 1=>2 | 2=>3 | 3=>4 | 4=>5 | n=>n⟩
theorem vr:Go.Proofs.LaysPu.n14 prog pz:={
 mixed:=by kernel_rfl
 f14:=func221.trans (congrArg some (by kernel_rfl))
 f16:=func264.trans (congrArg some (by kernel_rfl))
 f17:=func232.trans (congrArg some (by kernel_rfl))
 f19:=func287.trans (congrArg some (by kernel_rfl))
 f20:=func288.trans (congrArg some (by kernel_rfl))
 f21:=func269.trans (congrArg some (by kernel_rfl))
 f22:=func270.trans (congrArg some (by kernel_rfl))
 f23:=func271.trans (congrArg some (by kernel_rfl))
 f24:=func272.trans (congrArg some (by kernel_rfl))
 f25:=func290.trans (congrArg some (by kernel_rfl))
 f26:=func291.trans (congrArg some (by kernel_rfl))
 f27:=func104.trans (congrArg some (by kernel_rfl))
 f28:=func158.trans (congrArg some (by kernel_rfl))
 f29:=func236.trans (congrArg some (by kernel_rfl))
 f30:=func273.trans (congrArg some (by kernel_rfl))
 f31:=func274.trans (congrArg some (by kernel_rfl))
 f32:=func275.trans (congrArg some (by kernel_rfl))
 f33:=func276.trans (congrArg some (by kernel_rfl))
 f34:=func292.trans (congrArg some (by kernel_rfl))
 f35:=func293.trans (congrArg some (by kernel_rfl))
 f36:=func294.trans (congrArg some (by kernel_rfl))
 f37:=func295.trans (congrArg some (by kernel_rfl))
 f38:=func296.trans (congrArg some (by kernel_rfl))
 f39:=func299.trans (congrArg some (by kernel_rfl))
 f40:=func300.trans (congrArg some (by kernel_rfl))
 t0:=underlying0
 a0:=isAgg0
 z0:=sizeOf0
 v0:=zeroValue0
 i0:=by kernel_rfl
 t2:=underlying2
 a2:=isAgg2
 z2:=sizeOf2
 v2:=zeroValue2
 i2:=by kernel_rfl
 t3:=underlying3
 a3:=isAgg3
 z3:=sizeOf3
 v3:=zeroValue3
 i3:=by kernel_rfl
 t4:=underlying4
 a4:=isAgg4
 z4:=sizeOf4
 v4:=zeroValue4
 i4:=by kernel_rfl
 t5:=underlying5
 a5:=isAgg5
 z5:=sizeOf5
 v5:=zeroValue5
 i5:=by kernel_rfl
 t9:=underlying9
 a9:=isAgg9
 z9:=sizeOf9
 v9:=zeroValue9
 i9:=by kernel_rfl
 t20:=underlying20
 a20:=isAgg20
 z20:=sizeOf20
 v20:=zeroValue20
 i20:=by kernel_rfl
 t21:=underlying21
 a21:=isAgg21
 z21:=sizeOf21
 v21:=zeroValue21
 i21:=by kernel_rfl
 t22:=underlying280
 a22:=isAgg280
 z22:=sizeOf280
 v22:=zeroValue280
 i22:=by kernel_rfl
 t24:=underlying240
 a24:=isAgg240
 z24:=sizeOf240
 v24:=zeroValue240
 i24:=by kernel_rfl
 t25:=underlying281
 a25:=isAgg281
 z25:=sizeOf281
 v25:=zeroValue281
 i25:=by kernel_rfl
 t34:=underlying325
 a34:=isAgg325
 z34:=sizeOf325
 v34:=zeroValue325
 i34:=by kernel_rfl
 c34:=by kernel_rfl
 t36:=underlying322
 a36:=isAgg322
 z36:=sizeOf322
 v36:=zeroValue322
 i36:=by kernel_rfl
 t37:=underlying198
 a37:=isAgg198
 z37:=sizeOf198
 v37:=zeroValue198
 i37:=by kernel_rfl
 t39:=underlying328
 a39:=isAgg328
 z39:=sizeOf328
 v39:=zeroValue328
 i39:=by kernel_rfl
 t44:=underlying351
 a44:=isAgg351
 z44:=sizeOf351
 v44:=zeroValue351
 i44:=by kernel_rfl
 t47:=underlying324
 a47:=isAgg324
 z47:=sizeOf324
 v47:=zeroValue324
 i47:=by kernel_rfl
 t48:=underlying359
 a48:=isAgg359
 z48:=sizeOf359
 v48:=zeroValue359
 i48:=by kernel_rfl
 t50:=underlying361
 a50:=isAgg361
 z50:=sizeOf361
 v50:=zeroValue361
 i50:=by kernel_rfl
 t52:=underlying331
 a52:=isAgg331
 z52:=sizeOf331
 v52:=zeroValue331
 i52:=by kernel_rfl
 t55:=underlying334
 a55:=isAgg334
 z55:=sizeOf334
 v55:=zeroValue334
 i55:=by kernel_rfl
 t59:=underlying354
 a59:=isAgg354
 z59:=sizeOf354
 v59:=zeroValue354
 i59:=by kernel_rfl
 t60:=underlying343
 a60:=isAgg343
 z60:=sizeOf343
 v60:=zeroValue343
 i60:=by kernel_rfl
 t61:=underlying355
 a61:=isAgg355
 z61:=sizeOf355
 t65:=underlying367
 a65:=isAgg367
 z65:=sizeOf367
 v65:=zeroValue367
 i65:=by kernel_rfl
 t66:=underlying368
 a66:=isAgg368
 z66:=sizeOf368
 v66:=zeroValue368
 i66:=by kernel_rfl
 t67:=underlying294
 a67:=isAgg294
 z67:=sizeOf294
 v67:=zeroValue294
 i67:=by kernel_rfl
 g0:=by kernel_rfl
 m0:=by kernel_rfl
 g1:=by kernel_rfl
 m1:=by kernel_rfl
 g2:=by kernel_rfl
 m2:=by kernel_rfl
 g3:=by kernel_rfl
 m3:=by kernel_rfl
 g4:=by kernel_rfl
 m4:=by kernel_rfl }
theorem rC:∀(l:List UInt8)(a:Nat),l.all isD=true→(a+1)*10 ^ l.length≤1000000000000000000→Lib.parseUintM (2 ^ 64-1) a l=.ok (xR a l)
 | [],a,_,_=>by rw[gy];rfl
 |c::r,a,h,hb=>by
  simp only[List.all_cons,Bool.and_eq_true] at h;have W:=yA h.1;have hc:48≤c.toNat∧c.toNat≤57:=by have:=h.1;unfold isD at this;simpa using this
  rw[List.length_cons,Nat.pow_succ] at hb;have Z:1≤10 ^ r.length:=Nat.one_le_pow _ _ (by omega);have X:(a+1)*(10 ^ r.length*10)=(10*a+10)*10 ^ r.length:=by rw[Nat.mul_comm (10 ^ r.length) 10,←Nat.mul_assoc];congr 1;omega
  rw[X] at hb;have V:(10*a+10)*1≤(10*a+10)*10 ^ r.length:=Nat.mul_le_mul_left _ Z;have e:a*10+(c.toNat-48)=10*a+(c.toNat-48):=by omega
  unfold Lib.parseUintM;rw[if_pos hc,if_neg (by omega),if_neg (by omega),fS,e];refine rC r _ h.2 (Nat.le_trans (Nat.mul_le_mul_right _ ?_) hb);omega
theorem AT(s:List UInt8)(hs:s≠[])(A:s.all isD=true)(G:s.length≤18)(mem:Mem):kO prog 221 [.str s,.int .i64 10,.int .i64 64] mem (.tuple [.int .u64 (lC s:Nat),.nilIface]) mem:=
 kO.afw (gO _ func221 (by kernel_rfl) (by kernel_rfl)) (Vs:=[.string ⟨s.toArray⟩,.int .i64 10,.int .i64 64]) (fun μ n Us h=>by simpa [aeV,aeU] using h) (V:=.tuple #[.int .u64 (lC s:Nat),.nilIface]) (fun μ n=>by simp only[aeU,aeV];exact⟨_,rfl,_,_,rfl,rfl,_,_,rfl,rfl,rfl⟩)
  (fun Z w X=>(Any.strconv_ParseUint_10_at64_ok vr ⟨s.toArray⟩ (by simp[ByteArray.size];omega) (lC s) (by have W:10 ^ s.length≤10 ^ 18:=Nat.pow_le_pow_right (by omega) G;have:=rC s 0 A (by omega);simp only[Lib.parseUintB];rw[if_neg (by simpa using hs)];exact this) w).mono fun e w' ⟨h1,h2⟩=>⟨h1,by rcases h2 with rfl | rfl;exact afn.refl _;exact nl _ _ _⟩) mem
end Go.Proofs
namespace Go.Proofs
open Go.Eng Go.Shelf Go.RowKit Go.Sort
open Tryz
def pw:Go.Shelf.Ren:=⟨fun | 284=>274 | 129=>293 | 317=>292 | 318=>294 | n=>n,fun | 53=>280 | 3=>3 | 212=>354 | 0=>0 | 4=>4 | 46=>322 | 5=>5 | 9=>9 | n=>n,fun | 17=>3 | n=>n⟩
theorem vq:Go.Proofs.LaysM.n284 prog pw:={
 mixed:=by kernel_rfl
 f129:=func293.trans (congrArg some (by kernel_rfl))
 f284:=func274.trans (congrArg some (by kernel_rfl))
 f317:=func292.trans (congrArg some (by kernel_rfl))
 f318:=func294.trans (congrArg some (by kernel_rfl))
 t0:=underlying0
 a0:=isAgg0
 z0:=sizeOf0
 v0:=zeroValue0
 t3:=underlying3
 a3:=isAgg3
 z3:=sizeOf3
 v3:=zeroValue3
 t4:=underlying4
 a4:=isAgg4
 z4:=sizeOf4
 v4:=zeroValue4
 t5:=underlying5
 a5:=isAgg5
 z5:=sizeOf5
 v5:=zeroValue5
 t9:=underlying9
 a9:=isAgg9
 z9:=sizeOf9
 v9:=zeroValue9
 t46:=underlying322
 a46:=isAgg322
 z46:=sizeOf322
 v46:=zeroValue322
 t53:=underlying280
 a53:=isAgg280
 z53:=sizeOf280
 v53:=zeroValue280
 t212:=underlying354
 a212:=isAgg354
 z212:=sizeOf354
 v212:=zeroValue354
 g17:=by kernel_rfl
 i0:=by kernel_rfl
 i3:=by kernel_rfl
 i4:=by kernel_rfl
 i5:=by kernel_rfl
 i9:=by kernel_rfl
 i46:=by kernel_rfl
 i53:=by kernel_rfl
 i212:=by kernel_rfl
 m17:=by kernel_rfl }
def mR:Go.Shelf.Ren:=⟨fun | 285=>275 | n=>n,fun | 37=>198 | 53=>280 | 3=>3 | 4=>4 | 51=>343 | 9=>9 | 5=>5 | 0=>0 | n=>n,fun | n=>n⟩
theorem qE:Go.Proofs.Lays.n285 prog mR:={
 mixed:=by kernel_rfl
 f285:=func275.trans (congrArg some (by kernel_rfl))
 t0:=underlying0
 a0:=isAgg0
 z0:=sizeOf0
 v0:=zeroValue0
 t3:=underlying3
 a3:=isAgg3
 z3:=sizeOf3
 v3:=zeroValue3
 t4:=underlying4
 a4:=isAgg4
 z4:=sizeOf4
 v4:=zeroValue4
 t5:=underlying5
 a5:=isAgg5
 z5:=sizeOf5
 v5:=zeroValue5
 t9:=underlying9
 a9:=isAgg9
 z9:=sizeOf9
 v9:=zeroValue9
 t37:=underlying198
 a37:=isAgg198
 z37:=sizeOf198
 v37:=zeroValue198
 t51:=underlying343
 a51:=isAgg343
 z51:=sizeOf343
 v51:=zeroValue343
 t53:=underlying280
 a53:=isAgg280
 z53:=sizeOf280
 v53:=zeroValue280 }
def qF:Go.Shelf.Ren:=⟨fun | 283=>273 | n=>n,fun | 3=>3 | 9=>9 | 4=>4 | n=>n,fun | n=>n⟩
theorem xh:Go.Proofs.Lays.n283 prog qF:={
 mixed:=by kernel_rfl
 f283:=func273.trans (congrArg some (by kernel_rfl))
 t3:=underlying3
 a3:=isAgg3
 z3:=sizeOf3
 v3:=zeroValue3
 t4:=underlying4
 a4:=isAgg4
 z4:=sizeOf4
 v4:=zeroValue4
 t9:=underlying9
 a9:=isAgg9
 z9:=sizeOf9
 v9:=zeroValue9 }
section
variable (u:Nat)(abO:u<18446744073709551616)(w:World)(acy:∀s,xC=s→Lib.TabIs prog w s .u64 Lib.pow10Tab)
include u abO w acy
theorem np:
  Calls prog 267 #[.int .u64 u,.int .i64 10] w fun e w' =>e=.returned (.string ⟨(Lib.decDigits u).toArray⟩)∧∃k O,w' =grow (w.drewN k) O:=by
 by_cases J:u<100
 ·go_enter func267,ntmps267
  go_wp2_with (go_at_call 273;refine(Any.internal_strconv_small xh u J _).mono ?_;rintro e w' ⟨rfl,rfl⟩)
  go_ret
  exact⟨rfl,0,#[],by simp[World.drewN_zero]⟩
 ·have X:1≤u:=by omega
  have F:Lib.nDigits u≤20:=by have:=Lib.numDigits_eq u X abO;split at this<;>omega
  have V:prog.arrayLen 331=24:=by kernel_rfl
  have D:∀W,(Instr.sliceAt 331 (.pointer (some ⟨w.heap.size,0,none⟩)) none (some (.int .i64 (Lib.nDigits u:Int))) none).run prog W=.ok (.slice (some ⟨w.heap.size,0,none⟩) (Lib.nDigits u) 24) W:=fun W=>by
   rw[run_sliceAt_array_h W 331 ⟨w.heap.size,0,none⟩ (by kernel_rfl) .i64 (Lib.nDigits u:Int) (by omega) (by rw[V];omega)]
   go_simp
  have Z:=Lib.holds_zero0 w 331 (Lib.nDigits u) (by omega);have S:=Any.internal_strconv_formatBase10 qE w.heap.size 0 24 u (Array.replicate (Lib.nDigits u) 0) (w.alloc (.cells Lib.zeros24 331)) Z (by rw[Array.size_replicate];exact Lib.lt_pow_nDigits u) abO (by rw[Array.size_replicate];omega);rw[Array.size_replicate] at S;have M:=Lib.hid Z;clear Z V
  go_enter func267,ntmps267
  go_wp2_with (first
   |(go_at_call 274;refine(Any.internal_strconv_numDigits vq u X abO _ (Lib.tabIs_alloc (acy _ (by kernel_rfl)) _)).mono ?_;rintro e w' ⟨rfl,rfl⟩))
  go_at_call 275
  refine S.mono ?_;rintro e w' ⟨rfl,k,v',dk,rfl,hF⟩;have C:(convert 198 9 (.slice (some ⟨w.heap.size,0,none⟩) (Lib.nDigits u) 24)).run prog ((putRow (fun(b:UInt8)=>Value.int .u8 (b.toNat:Int)) (w.alloc (.cells Lib.zeros24 331)) w.heap.size 0 dk).drewN k)=.ok (.string ⟨(Lib.decDigits u).toArray⟩) ((putRow (fun(b:UInt8)=>Value.int .u8 (b.toNat:Int)) (w.alloc (.cells Lib.zeros24 331)) w.heap.size 0 dk).drewN k):=by
   have h:=run_convert_bytes_back (P:=prog) ((putRow (fun(b:UInt8)=>Value.int .u8 (b.toNat:Int)) (w.alloc (.cells Lib.zeros24 331)) w.heap.size 0 dk).drewN k) 198 9 5 ⟨w.heap.size,0,none⟩ 24 (Lib.decDigits u) (by kernel_rfl) (by kernel_rfl) (by kernel_rfl) (fun j K=>by rw[Lib.row_is_numeral hF j K,Lib.add_plain,World.cell?_drewN];exact cell?_putRow (fun(b:UInt8)=>Value.int .u8 (b.toNat:Int)) _ w.heap.size 0 _ dk M.out (by rw[hF.size,Array.size_replicate]) j (by rw[hF.size];rw[Lib.decDigits_length] at K;exact K))
   rw[Lib.decDigits_length] at h;exact h
  go_wp2
  go_ret
  obtain⟨O,B⟩:=Lib.fin_at w (.cells Lib.zeros24 331) dk k 0;exact⟨rfl,k,O,B⟩
theorem oD:
  Calls prog 228 #[.int .u64 u,.int .i64 10] w fun e w' =>e=.returned (.string ⟨(Lib.decDigits u).toArray⟩)∧∃k Z,w' =grow (w.drewN k) Z:=by
 go_enter func228,ntmps228
 go_wp2_with (go_at_call 267;refine(np u abO _ acy).mono ?_;rintro e w' ⟨rfl,hw⟩)
 go_ret
 exact⟨rfl,hw⟩
end
theorem zg(u:Nat)(hu:u<18446744073709551616)(mem:Mem):kO prog 228 [.int .u64 u,.int .i64 10] mem (.str (aR u)) mem:=
 kO.afw (gO _ func228 (by kernel_rfl) (by kernel_rfl)) (Vs:=[.int .u64 u,.int .i64 10]) (fun μ n Us h=>by simpa [aeV,aeU] using h) (V:=.string ⟨(aR u).toArray⟩) (fun μ n=>by simp[aeU])
  (fun Z w X=>(oD u hu w fun _ W=>X.ag2 W).mono fun e w' ⟨h1,k,os,h2⟩=>⟨by rw[h1,uM],h2▸afn.grow w k os⟩) mem
end Go.Proofs
