/- See C54. -/
import Derived.Test.YtffdedmakncfmaaGreatDoorC10
import Derived.Shelf.Pu.ParseUintPublic10
import Derived.Ground.MpProg
import Derived.Lib.AppendIntMem
set_option linter.all false
set_option maxRecDepth 100000
set_option maxHeartbeats 40000000
namespace Go.Proofs
open Go.Eng Go.Shelf
open Tryz
def qW:Go.Shelf.Ren:=⟨fun | 14=>205 | 16=>243 | 17=>230 | 19=>272 | 20=>273 | 21=>259 | 22=>260 | 23=>261 | 24=>262 | 25=>278 | 27=>122 | 26=>279 | 28=>188 | 29=>231 | 30=>263 | 31=>264 | 32=>265 | 33=>266 | 35=>281 | 34=>280 | 36=>282 | 37=>283 | 38=>284 | 39=>288 | 40=>289 | n=>n,fun | 9=>9 | 3=>3 | 22=>246 | 24=>229 | 25=>247 | 4=>4 | 34=>299 | 5=>5 | 36=>293 | 37=>251 | 0=>0 | 39=>302 | 21=>21 | 44=>327 | 47=>289 | 50=>340 | 48=>338 | 2=>2 | 52=>305 | 55=>308 | 59=>330 | 60=>321 | 20=>20 | 61=>331 | 65=>342 | 66=>343 | 67=>259 | n=>n,fun | 0=>1 | 1=>2 | 2=>3 | 3=>4 | 4=>5 | n=>n⟩
theorem wY:Go.Proofs.LaysPu.n14 prog qW:={
 mixed:=by kernel_rfl
 f14:=func205.trans (congrArg some (by kernel_rfl))
 f16:=func243.trans (congrArg some (by kernel_rfl))
 f17:=func230.trans (congrArg some (by kernel_rfl))
 f19:=func272.trans (congrArg some (by kernel_rfl))
 f20:=func273.trans (congrArg some (by kernel_rfl))
 f21:=func259.trans (congrArg some (by kernel_rfl))
 f22:=func260.trans (congrArg some (by kernel_rfl))
 f23:=func261.trans (congrArg some (by kernel_rfl))
 f24:=func262.trans (congrArg some (by kernel_rfl))
 f25:=func278.trans (congrArg some (by kernel_rfl))
 f26:=func279.trans (congrArg some (by kernel_rfl))
 f27:=func122.trans (congrArg some (by kernel_rfl))
 f28:=func188.trans (congrArg some (by kernel_rfl))
 f29:=func231.trans (congrArg some (by kernel_rfl))
 f30:=func263.trans (congrArg some (by kernel_rfl))
 f31:=func264.trans (congrArg some (by kernel_rfl))
 f32:=func265.trans (congrArg some (by kernel_rfl))
 f33:=func266.trans (congrArg some (by kernel_rfl))
 f34:=func280.trans (congrArg some (by kernel_rfl))
 f35:=func281.trans (congrArg some (by kernel_rfl))
 f36:=func282.trans (congrArg some (by kernel_rfl))
 f37:=func283.trans (congrArg some (by kernel_rfl))
 f38:=func284.trans (congrArg some (by kernel_rfl))
 f39:=func288.trans (congrArg some (by kernel_rfl))
 f40:=func289.trans (congrArg some (by kernel_rfl))
 t0:=underlying0
 a0:=isAgg0
 z0:=sizeOf0
 v0:=zeroValue0
 i0:=by kernel_rfl
 t2:=underlying2
 a2:=isAgg2
 z2:=sizeOf2
 v2:=zeroValue2
 i2:=by kernel_rfl
 t3:=underlying3
 a3:=isAgg3
 z3:=sizeOf3
 v3:=zeroValue3
 i3:=by kernel_rfl
 t4:=underlying4
 a4:=isAgg4
 z4:=sizeOf4
 v4:=zeroValue4
 i4:=by kernel_rfl
 t5:=underlying5
 a5:=isAgg5
 z5:=sizeOf5
 v5:=zeroValue5
 i5:=by kernel_rfl
 t9:=underlying9
 a9:=isAgg9
 z9:=sizeOf9
 v9:=zeroValue9
 i9:=by kernel_rfl
 t20:=underlying20
 a20:=isAgg20
 z20:=sizeOf20
 v20:=zeroValue20
 i20:=by kernel_rfl
 t21:=underlying21
 a21:=isAgg21
 z21:=sizeOf21
 v21:=zeroValue21
 i21:=by kernel_rfl
 t22:=underlying246
 a22:=isAgg246
 z22:=sizeOf246
 v22:=zeroValue246
 i22:=by kernel_rfl
 t24:=underlying229
 a24:=isAgg229
 z24:=sizeOf229
 v24:=zeroValue229
 i24:=by kernel_rfl
 t25:=underlying247
 a25:=isAgg247
 z25:=sizeOf247
 v25:=zeroValue247
 i25:=by kernel_rfl
 t34:=underlying299
 a34:=isAgg299
 z34:=sizeOf299
 v34:=zeroValue299
 i34:=by kernel_rfl
 c34:=by kernel_rfl
 t36:=underlying293
 a36:=isAgg293
 z36:=sizeOf293
 v36:=zeroValue293
 i36:=by kernel_rfl
 t37:=underlying251
 a37:=isAgg251
 z37:=sizeOf251
 v37:=zeroValue251
 i37:=by kernel_rfl
 t39:=underlying302
 a39:=isAgg302
 z39:=sizeOf302
 v39:=zeroValue302
 i39:=by kernel_rfl
 t44:=underlying327
 a44:=isAgg327
 z44:=sizeOf327
 v44:=zeroValue327
 i44:=by kernel_rfl
 t47:=underlying289
 a47:=isAgg289
 z47:=sizeOf289
 v47:=zeroValue289
 i47:=by kernel_rfl
 t48:=underlying338
 a48:=isAgg338
 z48:=sizeOf338
 v48:=zeroValue338
 i48:=by kernel_rfl
 t50:=underlying340
 a50:=isAgg340
 z50:=sizeOf340
 v50:=zeroValue340
 i50:=by kernel_rfl
 t52:=underlying305
 a52:=isAgg305
 z52:=sizeOf305
 v52:=zeroValue305
 i52:=by kernel_rfl
 t55:=underlying308
 a55:=isAgg308
 z55:=sizeOf308
 v55:=zeroValue308
 i55:=by kernel_rfl
 t59:=underlying330
 a59:=isAgg330
 z59:=sizeOf330
 v59:=zeroValue330
 i59:=by kernel_rfl
 t60:=underlying321
 a60:=isAgg321
 z60:=sizeOf321
 v60:=zeroValue321
 i60:=by kernel_rfl
 t61:=underlying331
 a61:=isAgg331
 z61:=sizeOf331
 t65:=underlying342
 a65:=isAgg342
 z65:=sizeOf342
 v65:=zeroValue342
 i65:=by kernel_rfl
 t66:=underlying343
 a66:=isAgg343
 z66:=sizeOf343
 v66:=zeroValue343
 i66:=by kernel_rfl
 t67:=underlying259
 a67:=isAgg259
 z67:=sizeOf259
 v67:=zeroValue259
 i67:=by kernel_rfl
 g0:=by kernel_rfl
 m0:=by kernel_rfl
 g1:=by kernel_rfl
 m1:=by kernel_rfl
 g2:=by kernel_rfl
 m2:=by kernel_rfl
 g3:=by kernel_rfl
 m3:=by kernel_rfl
 g4:=by kernel_rfl
 m4:=by kernel_rfl }
theorem sX:∀(l:List UInt8) (a:Nat),l.all isD=true→(a+1)*10 ^ l.length≤1000000000000000000→Lib.parseUintM (2 ^ 64-1) a l=.ok (wI a l)
 | [],a,_,_=>by rw[dD];rfl
 |c::r,a,h,hb=>by
  simp only[List.all_cons,Bool.and_eq_true] at h;have U:=uC h.1;have Z:48≤c.toNat∧c.toNat≤57:=by have:=h.1;unfold isD at this;simpa using this
  rw[List.length_cons,Nat.pow_succ] at hb;have X:1≤10 ^ r.length:=Nat.one_le_pow _ _ (by omega);have V:(a+1)*(10 ^ r.length*10)=(10*a+10)*10 ^ r.length:=by rw[Nat.mul_comm (10 ^ r.length) 10,←Nat.mul_assoc];congr 1;omega
  rw[V] at hb;have S:(10*a+10)*1≤(10*a+10)*10 ^ r.length:=Nat.mul_le_mul_left _ X;have e:a*10+(c.toNat-48)=10*a+(c.toNat-48):=by omega
  unfold Lib.parseUintM;rw[if_pos Z,if_neg (by omega),if_neg (by omega),eD,e];refine sX r _ h.2 (Nat.le_trans (Nat.mul_le_mul_right _ ?_) hb);omega
theorem BL(s:List UInt8)(hs:s≠[])(hd:s.all isD=true)(y:s.length≤18)(mem:Mem):kO prog 205 [.str s,.int .i64 10,.int .i64 64] mem (.tuple [.int .u64 (eF s:Nat),.nilIface]) mem:=
 kO.agu (il _ func205 (by kernel_rfl) (by kernel_rfl)) (Vs:=[.string ⟨s.toArray⟩,.int .i64 10,.int .i64 64]) (fun μ n Us h=>by simpa [afS,afQ] using h) (V:=.tuple #[.int .u64 (eF s:Nat),.nilIface]) (fun μ n=>by simp only[afQ,afS];exact⟨_,rfl,_,_,rfl,rfl,_,_,rfl,rfl,rfl⟩)
  (fun Z w X=>(Any.strconv_ParseUint_10_at64_ok wY ⟨s.toArray⟩ (by simp[ByteArray.size];omega) (eF s) (by have U:10 ^ s.length≤10 ^ 18:=Nat.pow_le_pow_right (by omega) y;have:=sX s 0 hd (by omega);simp only[Lib.parseUintB];rw[if_neg (by simpa using hs)];exact this) w).mono fun e w' ⟨h1,h2⟩=>⟨h1,by rcases h2 with rfl | rfl;exact agk.refl _;exact om _ _ _⟩) mem
end Go.Proofs
namespace Go.Proofs
open Go.Eng Go.Shelf Go.RowKit Go.Sort
open Tryz
def qV:Go.Shelf.Ren:=⟨fun | 284=>264 | 129=>281 | 317=>280 | 318=>282 | n=>n,fun | 53=>246 | 3=>3 | 212=>330 | 0=>0 | 4=>4 | 46=>293 | 5=>5 | 9=>9 | n=>n,fun | 17=>3 | n=>n⟩
theorem wW:Go.Proofs.LaysM.n284 prog qV:={
 mixed:=by kernel_rfl
 f129:=func281.trans (congrArg some (by kernel_rfl))
 f284:=func264.trans (congrArg some (by kernel_rfl))
 f317:=func280.trans (congrArg some (by kernel_rfl))
 f318:=func282.trans (congrArg some (by kernel_rfl))
 t0:=underlying0
 a0:=isAgg0
 z0:=sizeOf0
 v0:=zeroValue0
 t3:=underlying3
 a3:=isAgg3
 z3:=sizeOf3
 v3:=zeroValue3
 t4:=underlying4
 a4:=isAgg4
 z4:=sizeOf4
 v4:=zeroValue4
 t5:=underlying5
 a5:=isAgg5
 z5:=sizeOf5
 v5:=zeroValue5
 t9:=underlying9
 a9:=isAgg9
 z9:=sizeOf9
 v9:=zeroValue9
 t46:=underlying293
 a46:=isAgg293
 z46:=sizeOf293
 v46:=zeroValue293
 t53:=underlying246
 a53:=isAgg246
 z53:=sizeOf246
 v53:=zeroValue246
 t212:=underlying330
 a212:=isAgg330
 z212:=sizeOf330
 v212:=zeroValue330
 g17:=by kernel_rfl
 i0:=by kernel_rfl
 i3:=by kernel_rfl
 i4:=by kernel_rfl
 i5:=by kernel_rfl
 i9:=by kernel_rfl
 i46:=by kernel_rfl
 i53:=by kernel_rfl
 i212:=by kernel_rfl
 m17:=by kernel_rfl }
def nT:Go.Shelf.Ren:=⟨fun | 285=>265 | n=>n,fun | 37=>251 | 53=>246 | 3=>3 | 4=>4 | 51=>321 | 9=>9 | 5=>5 | 0=>0 | n=>n,fun | n=>n⟩
theorem sc:Go.Proofs.Lays.n285 prog nT:={
 mixed:=by kernel_rfl
 f285:=func265.trans (congrArg some (by kernel_rfl))
 t0:=underlying0
 a0:=isAgg0
 z0:=sizeOf0
 v0:=zeroValue0
 t3:=underlying3
 a3:=isAgg3
 z3:=sizeOf3
 v3:=zeroValue3
 t4:=underlying4
 a4:=isAgg4
 z4:=sizeOf4
 v4:=zeroValue4
 t5:=underlying5
 a5:=isAgg5
 z5:=sizeOf5
 v5:=zeroValue5
 t9:=underlying9
 a9:=isAgg9
 z9:=sizeOf9
 v9:=zeroValue9
 t37:=underlying251
 a37:=isAgg251
 z37:=sizeOf251
 v37:=zeroValue251
 t51:=underlying321
 a51:=isAgg321
 z51:=sizeOf321
 v51:=zeroValue321
 t53:=underlying246
 a53:=isAgg246
 z53:=sizeOf246
 v53:=zeroValue246 }
def se:Go.Shelf.Ren:=⟨fun | 283=>263 | n=>n,fun | 3=>3 | 9=>9 | 4=>4 | n=>n,fun | n=>n⟩
theorem yx:Go.Proofs.Lays.n283 prog se:={
 mixed:=by kernel_rfl
 f283:=func263.trans (congrArg some (by kernel_rfl))
 t3:=underlying3
 a3:=isAgg3
 z3:=sizeOf3
 v3:=zeroValue3
 t4:=underlying4
 a4:=isAgg4
 z4:=sizeOf4
 v4:=zeroValue4
 t9:=underlying9
 a9:=isAgg9
 z9:=sizeOf9
 v9:=zeroValue9 }
section
variable (u:Nat)(acb:u<18446744073709551616)(w:World)(ac1:∀s,yU=s→Lib.TabIs prog w s .u64 Lib.pow10Tab)
include u acb w ac1
theorem oo:
  Calls prog 246 #[.int .u64 u,.int .i64 10] w fun e w' =>e=.returned (.string ⟨(Lib.decDigits u).toArray⟩)∧∃k S,w' =grow (w.drewN k) S:=by
 by_cases O:u<100
 ·go_enter func246,ntmps246
  go_wp2_with (go_at_call 263;refine(Any.internal_strconv_small yx u O _).mono ?_;rintro e w' ⟨rfl,rfl⟩)
  go_ret
  exact⟨rfl,0,#[],by simp[World.drewN_zero]⟩
 ·have X:1≤u:=by omega
  have N:Lib.nDigits u≤20:=by have:=Lib.numDigits_eq u X acb;split at this<;>omega
  have V:prog.arrayLen 305=24:=by kernel_rfl
  have M:∀W,(Instr.sliceAt 305 (.pointer (some ⟨w.heap.size,0,none⟩)) none (some (.int .i64 (Lib.nDigits u:Int))) none).run prog W=.ok (.slice (some ⟨w.heap.size,0,none⟩) (Lib.nDigits u) 24) W:=fun W=>by
   rw[run_sliceAt_array_h W 305 ⟨w.heap.size,0,none⟩ (by kernel_rfl) .i64 (Lib.nDigits u:Int) (by omega) (by rw[V];omega)]
   go_simp
  have Z:=Lib.holds_zero0 w 305 (Lib.nDigits u) (by omega);have U:=Any.internal_strconv_formatBase10 sc w.heap.size 0 24 u (Array.replicate (Lib.nDigits u) 0) (w.alloc (.cells Lib.zeros24 305)) Z (by rw[Array.size_replicate];exact Lib.lt_pow_nDigits u) acb (by rw[Array.size_replicate];omega);rw[Array.size_replicate] at U;have R:=Lib.hid Z;clear Z V
  go_enter func246,ntmps246
  go_wp2_with (first
   |(go_at_call 264;refine(Any.internal_strconv_numDigits wW u X acb _ (Lib.tabIs_alloc (ac1 _ (by kernel_rfl)) _)).mono ?_;rintro e w' ⟨rfl,rfl⟩))
  go_at_call 265
  refine U.mono ?_;rintro e w' ⟨rfl,k,v',dk,rfl,hF⟩;have L:(convert 251 9 (.slice (some ⟨w.heap.size,0,none⟩) (Lib.nDigits u) 24)).run prog ((putRow (fun(b:UInt8)=>Value.int .u8 (b.toNat:Int)) (w.alloc (.cells Lib.zeros24 305)) w.heap.size 0 dk).drewN k)=.ok (.string ⟨(Lib.decDigits u).toArray⟩) ((putRow (fun(b:UInt8)=>Value.int .u8 (b.toNat:Int)) (w.alloc (.cells Lib.zeros24 305)) w.heap.size 0 dk).drewN k):=by
   have h:=run_convert_bytes_back (P:=prog) ((putRow (fun(b:UInt8)=>Value.int .u8 (b.toNat:Int)) (w.alloc (.cells Lib.zeros24 305)) w.heap.size 0 dk).drewN k) 251 9 5 ⟨w.heap.size,0,none⟩ 24 (Lib.decDigits u) (by kernel_rfl) (by kernel_rfl) (by kernel_rfl) (fun j Q=>by rw[Lib.row_is_numeral hF j Q,Lib.add_plain,World.cell?_drewN];exact cell?_putRow (fun(b:UInt8)=>Value.int .u8 (b.toNat:Int)) _ w.heap.size 0 _ dk R.out (by rw[hF.size,Array.size_replicate]) j (by rw[hF.size];rw[Lib.decDigits_length] at Q;exact Q))
   rw[Lib.decDigits_length] at h;exact h
  go_wp2
  go_ret
  obtain⟨S,K⟩:=Lib.fin_at w (.cells Lib.zeros24 305) dk k 0;exact⟨rfl,k,S,K⟩
theorem qe:
  Calls prog 209 #[.int .u64 u,.int .i64 10] w fun e w' =>e=.returned (.string ⟨(Lib.decDigits u).toArray⟩)∧∃k Z,w' =grow (w.drewN k) Z:=by
 go_enter func209,ntmps209
 go_wp2_with (go_at_call 246;refine(oo u acb _ ac1).mono ?_;rintro e w' ⟨rfl,hw⟩)
 go_ret
 exact⟨rfl,hw⟩
end
theorem Ag(u:Nat)(y:u<18446744073709551616)(mem:Mem):kO prog 209 [.int .u64 u,.int .i64 10] mem (.str (ai u)) mem:=
 kO.agu (il _ func209 (by kernel_rfl) (by kernel_rfl)) (Vs:=[.int .u64 u,.int .i64 10]) (fun μ n Us h=>by simpa [afS,afQ] using h) (V:=.string ⟨(ai u).toArray⟩) (fun μ n=>by simp[afQ])
  (fun Z w X=>(qe u y w fun _ U=>X.ahR U).mono fun e w' ⟨h1,k,os,h2⟩=>⟨by rw[h1,wj],h2▸agk.grow w k os⟩) mem
end Go.Proofs
namespace Go.Eng
def nW:Nat→List UInt8→List Nat
 |0,_=>[]
 |f+1,s=>if s=[] then [] else eF (s.drop (s.length-9))::nW f (s.take (s.length-9))
def iH(s:List UInt8):List Nat:=nW s.length s
theorem Fl:∀(f g:Nat) (s:List UInt8),s.length≤f→s.length≤g→nW f s=nW g s
 |0,0,s,_,_=>rfl
 |0,g+1,s,h,_=>by have:s=[]:=List.eq_nil_of_length_eq_zero (by omega);subst this;simp[nW]
 |f+1,0,s,_,h=>by have:s=[]:=List.eq_nil_of_length_eq_zero (by omega);subst this;simp[nW]
 |f+1,g+1,s,h1,h2=>by
  unfold nW;by_cases Z:s=[]
  ·simp[Z]
  ·have:0<s.length:=List.length_pos_iff.2 Z
   rw[if_neg Z,if_neg Z,Fl f g (s.take (s.length-9)) (by simp;omega) (by simp;omega)]
theorem Sa:iH []=[]:=rfl
variable{s:List UInt8}
theorem yM(h:s≠[]):iH s=eF (s.drop (s.length-9))::iH (s.take (s.length-9)):=by
 have X:0<s.length:=List.length_pos_iff.2 h;unfold iH;obtain⟨f,Z⟩:∃f,s.length=f+1:=⟨s.length-1,by omega⟩
 have e:nW s.length s=nW (f+1) s:=by rw[Z]
 rw[e,nW,if_neg h];congr 1;exact Fl _ _ _ (by simp;omega) (by simp)
theorem SV(l:List UInt8)(a:Nat):wI a l=a*10 ^ l.length+eF l:=by
 induction l generalizing a with
 |nil=>unfold eF;rw[dD,dD];simp
 |cons c r ih=>
  unfold eF;rw[eD,eD,ih,ih (10*0+_),List.length_cons,Nat.pow_succ];generalize 10 ^ r.length=p;have:(10*a+(c.toNat-48))*p=a*(p*10)+(c.toNat-48)*p:=by rw[Nat.add_mul,Nat.mul_comm 10 a,Nat.mul_assoc,Nat.mul_comm 10 p]
  rw[this,Nat.mul_zero,Nat.zero_add];omega
theorem wE(l r:List UInt8):eF (l++r)=eF l*10 ^ r.length+eF r:=by unfold eF;rw[wF,SV];rfl
theorem DU{l:List UInt8}(h:l.all isD=true):eF l<10 ^ l.length:=by have:=wG l 0 h;unfold eF;omega
section
variable (h:s.all isD=true)
include h
theorem Bf(k:Nat):(s.drop k).all isD=true:=by rw[List.all_eq_true] at h ⊢;exact fun c Z=>h c (List.mem_of_mem_drop Z)
theorem qi(k:Nat):(s.take k).all isD=true:=by rw[List.all_eq_true] at h ⊢;exact fun c Z=>h c (List.mem_of_mem_take Z)
theorem PV:eF (s.drop (s.length-9))<1000000000:=by
 have X:=DU (Bf h (s.length-9));have Z:(s.drop (s.length-9)).length≤9:=by simp;omega
 have h3:10 ^ (s.drop (s.length-9)).length≤10 ^ 9:=Nat.pow_le_pow_right (by omega) Z;omega
end
theorem lV:∀(n:Nat) (s:List UInt8),s.length≤n→s.all isD=true→lok 1000000000 (iH s)=true∧au 1000000000 (iH s)=eF s∧(iH s).length≤s.length
 |0,s,hn,_=>by have:s=[]:=List.eq_nil_of_length_eq_zero (by omega);subst this;exact⟨rfl,by unfold eF;rw[dD];rfl,Nat.le_refl _⟩
 |n+1,s,hn,h=>by
  by_cases Z:s=[]
  ·subst Z;exact⟨rfl,by unfold eF;rw[dD];rfl,Nat.le_refl _⟩
  ·have S:0<s.length:=List.length_pos_iff.2 Z
   rw[yM Z];obtain⟨X,V,R⟩:=lV n (s.take (s.length-9)) (by simp;omega) (qi h _);have U:eF s=eF (s.take (s.length-9))*10 ^ (s.drop (s.length-9)).length+eF (s.drop (s.length-9)):=by
    conv=>lhs;rw[←List.take_append_drop (s.length-9) s]
    exact wE _ _
   refine⟨?_,?_,?_⟩
   ·rw[cL,X];simp[PV h]
   ·rw[au,V,U]
    by_cases Q:s.length≤9
    ·have e:s.length-9=0:=by omega
     rw[e,List.take_zero];have:eF []=0:=by unfold eF;rw[dD]
     rw[this];omega
    ·have e:(s.drop (s.length-9)).length=9:=by simp;omega
     rw[e];omega
   ·rw[List.length_cons]
    have:(s.take (s.length-9)).length=s.length-9:=by simp
    omega
end Go.Eng
