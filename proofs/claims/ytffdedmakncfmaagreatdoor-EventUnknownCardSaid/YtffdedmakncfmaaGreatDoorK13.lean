/- See K51. -/
import Derived.Test.YtffdedmakncfmaaGreatDoorK10
import Derived.Shelf.Pu.ParseUintPublic10
import Derived.Ground.MpProg
import Derived.Lib.AppendIntMem
set_option linter.all false
namespace Go.Proofs
open Go.Eng Go.Shelf
def mP:Go.Shelf.Ren:=⟨fun | 14=>205 | 16=>243 | 17=>230 | 19=>272 | 20=>273 | 21=>259 | 22=>260 | 23=>261 | 24=>262 | 25=>278 | 27=>122 | 26=>279 | 28=>188 | 29=>231 | 30=>263 | 31=>264 | 32=>265 | 33=>266 | 35=>281 | 34=>280 | 36=>282 | 37=>283 | 38=>284 | 39=>288 | 40=>289 | n=>n,fun | 9=>9 | 3=>3 | 22=>246 | 24=>229 | 25=>247 | 4=>4 | 34=>299 | 5=>5 | 36=>293 | 37=>251 | 0=>0 | 39=>302 | 21=>21 | 44=>327 | 47=>289 | 50=>340 | 48=>338 | 2=>2 | 52=>305 | 55=>308 | 59=>330 | 60=>321 | 20=>20 | 61=>331 | 65=>342 | 66=>343 | 67=>259 | n=>n,fun | 0=>1 | 1=>2 | 2=>3 | 3=>4 | 4=>5 | n=>n⟩
theorem su:Go.Proofs.LaysPu.n14 Tryz.prog mP:={
 mixed:=by kernel_rfl
 f14:=Tryz.func205.trans (congrArg some (by kernel_rfl))
 f16:=Tryz.func243.trans (congrArg some (by kernel_rfl))
 f17:=Tryz.func230.trans (congrArg some (by kernel_rfl))
 f19:=Tryz.func272.trans (congrArg some (by kernel_rfl))
 f20:=Tryz.func273.trans (congrArg some (by kernel_rfl))
 f21:=Tryz.func259.trans (congrArg some (by kernel_rfl))
 f22:=Tryz.func260.trans (congrArg some (by kernel_rfl))
 f23:=Tryz.func261.trans (congrArg some (by kernel_rfl))
 f24:=Tryz.func262.trans (congrArg some (by kernel_rfl))
 f25:=Tryz.func278.trans (congrArg some (by kernel_rfl))
 f26:=Tryz.func279.trans (congrArg some (by kernel_rfl))
 f27:=Tryz.func122.trans (congrArg some (by kernel_rfl))
 f28:=Tryz.func188.trans (congrArg some (by kernel_rfl))
 f29:=Tryz.func231.trans (congrArg some (by kernel_rfl))
 f30:=Tryz.func263.trans (congrArg some (by kernel_rfl))
 f31:=Tryz.func264.trans (congrArg some (by kernel_rfl))
 f32:=Tryz.func265.trans (congrArg some (by kernel_rfl))
 f33:=Tryz.func266.trans (congrArg some (by kernel_rfl))
 f34:=Tryz.func280.trans (congrArg some (by kernel_rfl))
 f35:=Tryz.func281.trans (congrArg some (by kernel_rfl))
 f36:=Tryz.func282.trans (congrArg some (by kernel_rfl))
 f37:=Tryz.func283.trans (congrArg some (by kernel_rfl))
 f38:=Tryz.func284.trans (congrArg some (by kernel_rfl))
 f39:=Tryz.func288.trans (congrArg some (by kernel_rfl))
 f40:=Tryz.func289.trans (congrArg some (by kernel_rfl))
 t0:=Tryz.underlying0
 a0:=Tryz.isAgg0
 z0:=Tryz.sizeOf0
 v0:=Tryz.zeroValue0
 i0:=by kernel_rfl
 t2:=Tryz.underlying2
 a2:=Tryz.isAgg2
 z2:=Tryz.sizeOf2
 v2:=Tryz.zeroValue2
 i2:=by kernel_rfl
 t3:=Tryz.underlying3
 a3:=Tryz.isAgg3
 z3:=Tryz.sizeOf3
 v3:=Tryz.zeroValue3
 i3:=by kernel_rfl
 t4:=Tryz.underlying4
 a4:=Tryz.isAgg4
 z4:=Tryz.sizeOf4
 v4:=Tryz.zeroValue4
 i4:=by kernel_rfl
 t5:=Tryz.underlying5
 a5:=Tryz.isAgg5
 z5:=Tryz.sizeOf5
 v5:=Tryz.zeroValue5
 i5:=by kernel_rfl
 t9:=Tryz.underlying9
 a9:=Tryz.isAgg9
 z9:=Tryz.sizeOf9
 v9:=Tryz.zeroValue9
 i9:=by kernel_rfl
 t20:=Tryz.underlying20
 a20:=Tryz.isAgg20
 z20:=Tryz.sizeOf20
 v20:=Tryz.zeroValue20
 i20:=by kernel_rfl
 t21:=Tryz.underlying21
 a21:=Tryz.isAgg21
 z21:=Tryz.sizeOf21
 v21:=Tryz.zeroValue21
 i21:=by kernel_rfl
 t22:=Tryz.underlying246
 a22:=Tryz.isAgg246
 z22:=Tryz.sizeOf246
 v22:=Tryz.zeroValue246
 i22:=by kernel_rfl
 t24:=Tryz.underlying229
 a24:=Tryz.isAgg229
 z24:=Tryz.sizeOf229
 v24:=Tryz.zeroValue229
 i24:=by kernel_rfl
 t25:=Tryz.underlying247
 a25:=Tryz.isAgg247
 z25:=Tryz.sizeOf247
 v25:=Tryz.zeroValue247
 i25:=by kernel_rfl
 t34:=Tryz.underlying299
 a34:=Tryz.isAgg299
 z34:=Tryz.sizeOf299
 v34:=Tryz.zeroValue299
 i34:=by kernel_rfl
 c34:=by kernel_rfl
 t36:=Tryz.underlying293
 a36:=Tryz.isAgg293
 z36:=Tryz.sizeOf293
 v36:=Tryz.zeroValue293
 i36:=by kernel_rfl
 t37:=Tryz.underlying251
 a37:=Tryz.isAgg251
 z37:=Tryz.sizeOf251
 v37:=Tryz.zeroValue251
 i37:=by kernel_rfl
 t39:=Tryz.underlying302
 a39:=Tryz.isAgg302
 z39:=Tryz.sizeOf302
 v39:=Tryz.zeroValue302
 i39:=by kernel_rfl
 t44:=Tryz.underlying327
 a44:=Tryz.isAgg327
 z44:=Tryz.sizeOf327
 v44:=Tryz.zeroValue327
 i44:=by kernel_rfl
 t47:=Tryz.underlying289
 a47:=Tryz.isAgg289
 z47:=Tryz.sizeOf289
 v47:=Tryz.zeroValue289
 i47:=by kernel_rfl
 t48:=Tryz.underlying338
 a48:=Tryz.isAgg338
 z48:=Tryz.sizeOf338
 v48:=Tryz.zeroValue338
 i48:=by kernel_rfl
 t50:=Tryz.underlying340
 a50:=Tryz.isAgg340
 z50:=Tryz.sizeOf340
 v50:=Tryz.zeroValue340
 i50:=by kernel_rfl
 t52:=Tryz.underlying305
 a52:=Tryz.isAgg305
 z52:=Tryz.sizeOf305
 v52:=Tryz.zeroValue305
 i52:=by kernel_rfl
 t55:=Tryz.underlying308
 a55:=Tryz.isAgg308
 z55:=Tryz.sizeOf308
 v55:=Tryz.zeroValue308
 i55:=by kernel_rfl
 t59:=Tryz.underlying330
 a59:=Tryz.isAgg330
 z59:=Tryz.sizeOf330
 v59:=Tryz.zeroValue330
 i59:=by kernel_rfl
 t60:=Tryz.underlying321
 a60:=Tryz.isAgg321
 z60:=Tryz.sizeOf321
 v60:=Tryz.zeroValue321
 i60:=by kernel_rfl
 t61:=Tryz.underlying331
 a61:=Tryz.isAgg331
 z61:=Tryz.sizeOf331
 t65:=Tryz.underlying342
 a65:=Tryz.isAgg342
 z65:=Tryz.sizeOf342
 v65:=Tryz.zeroValue342
 i65:=by kernel_rfl
 t66:=Tryz.underlying343
 a66:=Tryz.isAgg343
 z66:=Tryz.sizeOf343
 v66:=Tryz.zeroValue343
 i66:=by kernel_rfl
 t67:=Tryz.underlying259
 a67:=Tryz.isAgg259
 z67:=Tryz.sizeOf259
 v67:=Tryz.zeroValue259
 i67:=by kernel_rfl
 g0:=by kernel_rfl
 m0:=by kernel_rfl
 g1:=by kernel_rfl
 m1:=by kernel_rfl
 g2:=by kernel_rfl
 m2:=by kernel_rfl
 g3:=by kernel_rfl
 m3:=by kernel_rfl
 g4:=by kernel_rfl
 m4:=by kernel_rfl }
theorem oS:∀(l:List UInt8) (a:Nat),l.all isD=true→(a+1)*10 ^ l.length≤1000000000000000000→Lib.parseUintM (2 ^ 64-1) a l=.ok (rX a l)
 | [],a,_,_=>by rw[du];rfl
 |c::r,a,h,hb=>by
  simp only[List.all_cons,Bool.and_eq_true] at h
  have hd:=vG h.1
  have hc:48≤c.toNat∧c.toNat≤57:=by have:=h.1;unfold isD at this;simpa using this
  rw[List.length_cons,Nat.pow_succ] at hb
  have hp:1≤10 ^ r.length:=Nat.one_le_pow _ _ (by omega)
  have h1:(a+1)*(10 ^ r.length*10)=(10*a+10)*10 ^ r.length:=by rw[Nat.mul_comm (10 ^ r.length) 10,←Nat.mul_assoc];congr 1;omega
  rw[h1] at hb
  have h2:(10*a+10)*1≤(10*a+10)*10 ^ r.length:=Nat.mul_le_mul_left _ hp
  have e:a*10+(c.toNat-48)=10*a+(c.toNat-48):=by omega
  unfold Lib.parseUintM
  rw[if_pos hc,if_neg (by omega),if_neg (by omega),dm,e]
  refine oS r _ h.2 (Nat.le_trans (Nat.mul_le_mul_right _ ?_) hb)
  omega
theorem xR(s:List UInt8) (hs:s≠[]) (hd:s.all isD=true) (hl:s.length≤18) (mem:Mem):ACallsTo Tryz.prog 205 [.str s,.int .i64 10,.int .i64 64] mem (.tuple [.int .u64 (fx s:Nat),.nilIface]) mem:=
 ACallsTo.of_calls (fo _ Tryz.func205 (by kernel_rfl) (by kernel_rfl)) (Vs:=[.string ⟨s.toArray⟩,.int .i64 10,.int .i64 64]) (fun μ n Us h=>by simpa [VRels,VRel] using h) (V:=.tuple #[.int .u64 (fx s:Nat),.nilIface]) (fun μ n=>by simp only[VRel,VRels];exact⟨_,rfl,_,_,rfl,rfl,_,_,rfl,rfl,rfl⟩)
  (fun base w hG=>(Any.strconv_ParseUint_10_at64_ok su ⟨s.toArray⟩ (by simp[ByteArray.size];omega) (fx s) (by
   have hp:10 ^ s.length≤10 ^ 18:=Nat.pow_le_pow_right (by omega) hl
   have:=oS s 0 hd (by omega)
   simp only[Lib.parseUintB]
   rw[if_neg (by simpa using hs)]
   exact this) w).mono fun e w' ⟨h1,h2⟩=>⟨h1,by rcases h2 with rfl | rfl;exact Gentle.refl _;exact kE _ _ _⟩) mem
end Go.Proofs
namespace Go.Proofs
open Go.Eng Go.Shelf Go.RowKit Go.Sort
def mO:Go.Shelf.Ren:=⟨fun | 284=>264 | 129=>281 | 317=>280 | 318=>282 | n=>n,fun | 53=>246 | 3=>3 | 212=>330 | 0=>0 | 4=>4 | 46=>293 | 5=>5 | 9=>9 | n=>n,fun | 17=>3 | n=>n⟩
theorem ss:Go.Proofs.LaysM.n284 Tryz.prog mO:={
 mixed:=by kernel_rfl
 f129:=Tryz.func281.trans (congrArg some (by kernel_rfl))
 f284:=Tryz.func264.trans (congrArg some (by kernel_rfl))
 f317:=Tryz.func280.trans (congrArg some (by kernel_rfl))
 f318:=Tryz.func282.trans (congrArg some (by kernel_rfl))
 t0:=Tryz.underlying0
 a0:=Tryz.isAgg0
 z0:=Tryz.sizeOf0
 v0:=Tryz.zeroValue0
 t3:=Tryz.underlying3
 a3:=Tryz.isAgg3
 z3:=Tryz.sizeOf3
 v3:=Tryz.zeroValue3
 t4:=Tryz.underlying4
 a4:=Tryz.isAgg4
 z4:=Tryz.sizeOf4
 v4:=Tryz.zeroValue4
 t5:=Tryz.underlying5
 a5:=Tryz.isAgg5
 z5:=Tryz.sizeOf5
 v5:=Tryz.zeroValue5
 t9:=Tryz.underlying9
 a9:=Tryz.isAgg9
 z9:=Tryz.sizeOf9
 v9:=Tryz.zeroValue9
 t46:=Tryz.underlying293
 a46:=Tryz.isAgg293
 z46:=Tryz.sizeOf293
 v46:=Tryz.zeroValue293
 t53:=Tryz.underlying246
 a53:=Tryz.isAgg246
 z53:=Tryz.sizeOf246
 v53:=Tryz.zeroValue246
 t212:=Tryz.underlying330
 a212:=Tryz.isAgg330
 z212:=Tryz.sizeOf330
 v212:=Tryz.zeroValue330
 g17:=by kernel_rfl
 i0:=by kernel_rfl
 i3:=by kernel_rfl
 i4:=by kernel_rfl
 i5:=by kernel_rfl
 i9:=by kernel_rfl
 i46:=by kernel_rfl
 i53:=by kernel_rfl
 i212:=by kernel_rfl
 m17:=by kernel_rfl }
def kj:Go.Shelf.Ren:=⟨fun | 285=>265 | n=>n,fun | 37=>251 | 53=>246 | 3=>3 | 4=>4 | 51=>321 | 9=>9 | 5=>5 | 0=>0 | n=>n,fun | n=>n⟩
theorem nV:Go.Proofs.Lays.n285 Tryz.prog kj:={
 mixed:=by kernel_rfl
 f285:=Tryz.func265.trans (congrArg some (by kernel_rfl))
 t0:=Tryz.underlying0
 a0:=Tryz.isAgg0
 z0:=Tryz.sizeOf0
 v0:=Tryz.zeroValue0
 t3:=Tryz.underlying3
 a3:=Tryz.isAgg3
 z3:=Tryz.sizeOf3
 v3:=Tryz.zeroValue3
 t4:=Tryz.underlying4
 a4:=Tryz.isAgg4
 z4:=Tryz.sizeOf4
 v4:=Tryz.zeroValue4
 t5:=Tryz.underlying5
 a5:=Tryz.isAgg5
 z5:=Tryz.sizeOf5
 v5:=Tryz.zeroValue5
 t9:=Tryz.underlying9
 a9:=Tryz.isAgg9
 z9:=Tryz.sizeOf9
 v9:=Tryz.zeroValue9
 t37:=Tryz.underlying251
 a37:=Tryz.isAgg251
 z37:=Tryz.sizeOf251
 v37:=Tryz.zeroValue251
 t51:=Tryz.underlying321
 a51:=Tryz.isAgg321
 z51:=Tryz.sizeOf321
 v51:=Tryz.zeroValue321
 t53:=Tryz.underlying246
 a53:=Tryz.isAgg246
 z53:=Tryz.sizeOf246
 v53:=Tryz.zeroValue246 }
def nW:Go.Shelf.Ren:=⟨fun | 283=>263 | n=>n,fun | 3=>3 | 9=>9 | 4=>4 | n=>n,fun | n=>n⟩
theorem um:Go.Proofs.Lays.n283 Tryz.prog nW:={
 mixed:=by kernel_rfl
 f283:=Tryz.func263.trans (congrArg some (by kernel_rfl))
 t3:=Tryz.underlying3
 a3:=Tryz.isAgg3
 z3:=Tryz.sizeOf3
 v3:=Tryz.zeroValue3
 t4:=Tryz.underlying4
 a4:=Tryz.isAgg4
 z4:=Tryz.sizeOf4
 v4:=Tryz.zeroValue4
 t9:=Tryz.underlying9
 a9:=Tryz.isAgg9
 z9:=Tryz.sizeOf9
 v9:=Tryz.zeroValue9 }
set_option maxHeartbeats 6400000 in
set_option maxRecDepth 100000 in
theorem kF(u:Nat) (hu64:u<18446744073709551616) (w:World) (htab:∀s,uQ=s→Lib.TabIs Tryz.prog w s .u64 Lib.pow10Tab):
  Calls Tryz.prog 246 #[.int .u64 u,.int .i64 10] w fun e w' =>e=.returned (.string ⟨(Lib.decDigits u).toArray⟩)∧∃k os,w' =grow (w.drewN k) os:=by
 by_cases hs:u<100
 ·go_enter Tryz.func246,Tryz.ntmps246
  go_wp2_with (go_at_call 263;refine(Any.internal_strconv_small um u hs _).mono ?_;rintro e w' ⟨rfl,rfl⟩)
  go_ret
  exact⟨rfl,0,#[],by simp[World.drewN_zero]⟩
 ·have hu1:1≤u:=by omega
  have hnd20:Lib.nDigits u≤20:=by have:=Lib.numDigits_eq u hu1 hu64;split at this<;>omega
  have hal:Tryz.prog.arrayLen 305=24:=by kernel_rfl
  have hsl1:∀W,(Instr.sliceAt 305 (.pointer (some ⟨w.heap.size,0,none⟩)) none (some (.int .i64 (Lib.nDigits u:Int))) none).run Tryz.prog W=.ok (.slice (some ⟨w.heap.size,0,none⟩) (Lib.nDigits u) 24) W:=fun W=>by
   rw[run_sliceAt_array_h W 305 ⟨w.heap.size,0,none⟩ (by kernel_rfl) .i64 (Lib.nDigits u:Int) (by omega) (by rw[hal];omega)]
   go_simp
  have hH0:=Lib.holds_zero0 w 305 (Lib.nDigits u) (by omega)
  have hfmt:=Any.internal_strconv_formatBase10 nV w.heap.size 0 24 u (Array.replicate (Lib.nDigits u) 0) (w.alloc (.cells Lib.zeros24 305)) hH0 (by rw[Array.size_replicate];exact Lib.lt_pow_nDigits u) hu64 (by rw[Array.size_replicate];omega)
  rw[Array.size_replicate] at hfmt
  have HH0:=Lib.hid hH0
  clear hH0 hal
  go_enter Tryz.func246,Tryz.ntmps246
  go_wp2_with (first
   |(go_at_call 264;refine(Any.internal_strconv_numDigits ss u hu1 hu64 _ (Lib.tabIs_alloc (htab _ (by kernel_rfl)) _)).mono ?_;rintro e w' ⟨rfl,rfl⟩))
  go_at_call 265
  refine hfmt.mono ?_
  rintro e w' ⟨rfl,k,v',dk,rfl,hF⟩
  have hcv:(convert 251 9 (.slice (some ⟨w.heap.size,0,none⟩) (Lib.nDigits u) 24)).run Tryz.prog ((putRow (fun(b:UInt8)=>Value.int .u8 (b.toNat:Int)) (w.alloc (.cells Lib.zeros24 305)) w.heap.size 0 dk).drewN k)=.ok (.string ⟨(Lib.decDigits u).toArray⟩) ((putRow (fun(b:UInt8)=>Value.int .u8 (b.toNat:Int)) (w.alloc (.cells Lib.zeros24 305)) w.heap.size 0 dk).drewN k):=by
   have h:=run_convert_bytes_back (P:=Tryz.prog) ((putRow (fun(b:UInt8)=>Value.int .u8 (b.toNat:Int)) (w.alloc (.cells Lib.zeros24 305)) w.heap.size 0 dk).drewN k) 251 9 5 ⟨w.heap.size,0,none⟩ 24 (Lib.decDigits u) (by kernel_rfl) (by kernel_rfl) (by kernel_rfl) (fun j hj=>by
    rw[Lib.row_is_numeral hF j hj,Lib.add_plain,World.cell?_drewN]
    exact cell?_putRow (fun(b:UInt8)=>Value.int .u8 (b.toNat:Int)) _ w.heap.size 0 _ dk HH0.out (by rw[hF.size,Array.size_replicate]) j (by rw[hF.size];rw[Lib.decDigits_length] at hj;exact hj))
   rw[Lib.decDigits_length] at h
   exact h
  go_wp2
  go_ret
  obtain⟨os,eo⟩:=Lib.fin_at w (.cells Lib.zeros24 305) dk k 0
  exact⟨rfl,k,os,eo⟩
set_option maxHeartbeats 2000000 in
set_option maxRecDepth 100000 in
theorem me(u:Nat) (hu64:u<18446744073709551616) (w:World) (htab:∀s,uQ=s→Lib.TabIs Tryz.prog w s .u64 Lib.pow10Tab):
  Calls Tryz.prog 209 #[.int .u64 u,.int .i64 10] w fun e w' =>e=.returned (.string ⟨(Lib.decDigits u).toArray⟩)∧∃k os,w' =grow (w.drewN k) os:=by
 go_enter Tryz.func209,Tryz.ntmps209
 go_wp2_with (go_at_call 246;refine(kF u hu64 _ htab).mono ?_;rintro e w' ⟨rfl,hw⟩)
 go_ret
 exact⟨rfl,hw⟩
theorem wh(u:Nat) (hu:u<18446744073709551616) (mem:Mem):ACallsTo Tryz.prog 209 [.int .u64 u,.int .i64 10] mem (.str (au u)) mem:=
 ACallsTo.of_calls (fo _ Tryz.func209 (by kernel_rfl) (by kernel_rfl)) (Vs:=[.int .u64 u,.int .i64 10]) (fun μ n Us h=>by simpa [VRels,VRel] using h) (V:=.string ⟨(au u).toArray⟩) (fun μ n=>by simp[VRel])
  (fun base w hG=>(me u hu w fun _ hs=>hG.tabOf hs).mono fun e w' ⟨h1,k,os,h2⟩=>⟨by rw[h1,rL],h2▸Gentle.grow w k os⟩) mem
end Go.Proofs
namespace Go.Eng
def kq:Nat→List UInt8→List Nat
 |0,_=>[]
 |f+1,s=>if s=[] then [] else fx (s.drop (s.length-9))::kq f (s.take (s.length-9))
def fJ(s:List UInt8):List Nat:=kq s.length s
theorem A8:∀(f g:Nat) (s:List UInt8),s.length≤f→s.length≤g→kq f s=kq g s
 |0,0,s,_,_=>rfl
 |0,g+1,s,h,_=>by
  have:s=[]:=List.eq_nil_of_length_eq_zero (by omega)
  subst this;simp[kq]
 |f+1,0,s,_,h=>by
  have:s=[]:=List.eq_nil_of_length_eq_zero (by omega)
  subst this;simp[kq]
 |f+1,g+1,s,h1,h2=>by
  unfold kq
  by_cases hs:s=[]
  ·simp[hs]
  ·have:0<s.length:=List.length_pos_iff.2 hs
   rw[if_neg hs,if_neg hs,A8 f g (s.take (s.length-9)) (by simp;omega) (by simp;omega)]
theorem LQ:fJ []=[]:=rfl
theorem uG{s:List UInt8}(h:s≠[]):fJ s=fx (s.drop (s.length-9))::fJ (s.take (s.length-9)):=by
 have hp:0<s.length:=List.length_pos_iff.2 h
 unfold fJ
 obtain⟨f,hf⟩:∃f,s.length=f+1:=⟨s.length-1,by omega⟩
 have e:kq s.length s=kq (f+1) s:=by rw[hf]
 rw[e,kq,if_neg h]
 congr 1
 exact A8 _ _ _ (by simp;omega) (by simp)
theorem MD(l:List UInt8) (a:Nat):rX a l=a*10 ^ l.length+fx l:=by
 induction l generalizing a with
 |nil=>unfold fx;rw[du,du];simp
 |cons c r ih=>
  unfold fx
  rw[dm,dm,ih,ih (10*0+_),List.length_cons,Nat.pow_succ]
  generalize 10 ^ r.length=p
  have:(10*a+(c.toNat-48))*p=a*(p*10)+(c.toNat-48)*p:=by rw[Nat.add_mul,Nat.mul_comm 10 a,Nat.mul_assoc,Nat.mul_comm 10 p]
  rw[this,Nat.mul_zero,Nat.zero_add]
  omega
theorem zV(l r:List UInt8):fx (l++r)=fx l*10 ^ r.length+fx r:=by
 unfold fx
 rw[rW,MD];rfl
theorem Rq{l:List UInt8}(h:l.all isD=true):fx l<10 ^ l.length:=by
 have:=mH l 0 h
 unfold fx
 omega
theorem JL{s:List UInt8}(h:s.all isD=true) (k:Nat):(s.drop k).all isD=true:=by
 rw[List.all_eq_true] at h ⊢
 exact fun c hc=>h c (List.mem_of_mem_drop hc)
theorem JM{s:List UInt8}(h:s.all isD=true) (k:Nat):(s.take k).all isD=true:=by
 rw[List.all_eq_true] at h ⊢
 exact fun c hc=>h c (List.mem_of_mem_take hc)
theorem JQ{s:List UInt8}(h:s.all isD=true):fx (s.drop (s.length-9))<1000000000:=by
 have h1:=Rq (JL h (s.length-9))
 have h2:(s.drop (s.length-9)).length≤9:=by simp;omega
 have h3:10 ^ (s.drop (s.length-9)).length≤10 ^ 9:=Nat.pow_le_pow_right (by omega) h2
 omega
theorem jm:∀(n:Nat) (s:List UInt8),s.length≤n→s.all isD=true→lok 1000000000 (fJ s)=true∧ay 1000000000 (fJ s)=fx s∧(fJ s).length≤s.length
 |0,s,hn,_=>by
  have:s=[]:=List.eq_nil_of_length_eq_zero (by omega)
  subst this
  exact⟨rfl,by unfold fx;rw[du];rfl,Nat.le_refl _⟩
 |n+1,s,hn,h=>by
  by_cases hs:s=[]
  ·subst hs;exact⟨rfl,by unfold fx;rw[du];rfl,Nat.le_refl _⟩
  ·have hp:0<s.length:=List.length_pos_iff.2 hs
   rw[uG hs]
   obtain⟨i1,i2,i3⟩:=jm n (s.take (s.length-9)) (by simp;omega) (JM h _)
   have hv:fx s=fx (s.take (s.length-9))*10 ^ (s.drop (s.length-9)).length+fx (s.drop (s.length-9)):=by
    conv=>lhs;rw[←List.take_append_drop (s.length-9) s]
    exact zV _ _
   refine⟨?_,?_,?_⟩
   ·rw[cu,i1];simp[JQ h]
   ·rw[ay,i2,hv]
    by_cases h9:s.length≤9
    ·have e:s.length-9=0:=by omega
     rw[e,List.take_zero]
     have:fx []=0:=by unfold fx;rw[du]
     rw[this];omega
    ·have e:(s.drop (s.length-9)).length=9:=by simp;omega
     rw[e];omega
   ·rw[List.length_cons]
    have:(s.take (s.length-9)).length=s.length-9:=by simp
    omega
end Go.Eng
