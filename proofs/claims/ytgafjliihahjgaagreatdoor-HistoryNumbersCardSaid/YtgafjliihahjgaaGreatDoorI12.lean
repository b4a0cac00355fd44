/- See I36. -/
import Derived.Test.YtgafjliihahjgaaGreatDoorI11
import Derived.Shelf.Pu.ParseUintPublic10
import Derived.Ground.MpProg
import Derived.Lib.AppendIntMem
import Derived.Shelf.Strings.Builder1
set_option linter.all false
set_option maxRecDepth 100000
set_option maxHeartbeats 40000000
namespace Go.Proofs
open Go.Eng Go.Shelf
open Tryz
def qP:Go.Shelf.Ren:=⟨fun | 14=>221 | 16=>264 | 17=>232 | 19=>287 | 20=>288 | 21=>269 | 22=>270 | 23=>271 | 24=>272 | 25=>290 | 27=>104 | 26=>291 | 28=>158 | 29=>236 | 30=>273 | 31=>274 | 32=>275 | 33=>276 | 35=>293 | 34=>292 | 36=>294 | 37=>295 | 38=>296 | 39=>299 | 40=>300 | n=>n,fun | 9=>9 | 3=>3 | 22=>280 | 24=>240 | 25=>281 | 4=>4 | 34=>325 | 5=>5 | 36=>322 | 37=>198 | 0=>0 | 39=>328 | 21=>21 | 44=>351 | 47=>324 | 50=>361 | 48=>359 | 2=>2 | 52=>331 | 55=>334 | 59=>354 | 60=>343 | 20=>20 | 61=>355 | 65=>367 | 66=>368 | 67=>294 | n=>n,fun | 0=>1 | 1=>2 | 2=>3 | 3=>4 | 4=>5 | n=>n⟩
theorem xh:Go.Proofs.LaysPu.n14 prog qP:={
 mixed:=by kernel_rfl
 f14:=func221.trans (congrArg some (by kernel_rfl))
 f16:=func264.trans (congrArg some (by kernel_rfl))
 f17:=func232.trans (congrArg some (by kernel_rfl))
 f19:=func287.trans (congrArg some (by kernel_rfl))
 f20:=func288.trans (congrArg some (by kernel_rfl))
 f21:=func269.trans (congrArg some (by kernel_rfl))
 f22:=func270.trans (congrArg some (by kernel_rfl))
 f23:=func271.trans (congrArg some (by kernel_rfl))
 f24:=func272.trans (congrArg some (by kernel_rfl))
 f25:=func290.trans (congrArg some (by kernel_rfl))
 f26:=func291.trans (congrArg some (by kernel_rfl))
 f27:=func104.trans (congrArg some (by kernel_rfl))
 f28:=func158.trans (congrArg some (by kernel_rfl))
 f29:=func236.trans (congrArg some (by kernel_rfl))
 f30:=func273.trans (congrArg some (by kernel_rfl))
 f31:=func274.trans (congrArg some (by kernel_rfl))
 f32:=func275.trans (congrArg some (by kernel_rfl))
 f33:=func276.trans (congrArg some (by kernel_rfl))
 f34:=func292.trans (congrArg some (by kernel_rfl))
 f35:=func293.trans (congrArg some (by kernel_rfl))
 f36:=func294.trans (congrArg some (by kernel_rfl))
 f37:=func295.trans (congrArg some (by kernel_rfl))
 f38:=func296.trans (congrArg some (by kernel_rfl))
 f39:=func299.trans (congrArg some (by kernel_rfl))
 f40:=func300.trans (congrArg some (by kernel_rfl))
 t0:=underlying0
 a0:=isAgg0
 z0:=sizeOf0
 v0:=zeroValue0
 i0:=by kernel_rfl
 t2:=underlying2
 a2:=isAgg2
 z2:=sizeOf2
 v2:=zeroValue2
 i2:=by kernel_rfl
 t3:=underlying3
 a3:=isAgg3
 z3:=sizeOf3
 v3:=zeroValue3
 i3:=by kernel_rfl
 t4:=underlying4
 a4:=isAgg4
 z4:=sizeOf4
 v4:=zeroValue4
 i4:=by kernel_rfl
 t5:=underlying5
 a5:=isAgg5
 z5:=sizeOf5
 v5:=zeroValue5
 i5:=by kernel_rfl
 t9:=underlying9
 a9:=isAgg9
 z9:=sizeOf9
 v9:=zeroValue9
 i9:=by kernel_rfl
 t20:=underlying20
 a20:=isAgg20
 z20:=sizeOf20
 v20:=zeroValue20
 i20:=by kernel_rfl
 t21:=underlying21
 a21:=isAgg21
 z21:=sizeOf21
 v21:=zeroValue21
 i21:=by kernel_rfl
 t22:=underlying280
 a22:=isAgg280
 z22:=sizeOf280
 v22:=zeroValue280
 i22:=by kernel_rfl
 t24:=underlying240
 a24:=isAgg240
 z24:=sizeOf240
 v24:=zeroValue240
 i24:=by kernel_rfl
 t25:=underlying281
 a25:=isAgg281
 z25:=sizeOf281
 v25:=zeroValue281
 i25:=by kernel_rfl
 t34:=underlying325
 a34:=isAgg325
 z34:=sizeOf325
 v34:=zeroValue325
 i34:=by kernel_rfl
 c34:=by kernel_rfl
 t36:=underlying322
 a36:=isAgg322
 z36:=sizeOf322
 v36:=zeroValue322
 i36:=by kernel_rfl
 t37:=underlying198
 a37:=isAgg198
 z37:=sizeOf198
 v37:=zeroValue198
 i37:=by kernel_rfl
 t39:=underlying328
 a39:=isAgg328
 z39:=sizeOf328
 v39:=zeroValue328
 i39:=by kernel_rfl
 t44:=underlying351
 a44:=isAgg351
 z44:=sizeOf351
 v44:=zeroValue351
 i44:=by kernel_rfl
 t47:=underlying324
 a47:=isAgg324
 z47:=sizeOf324
 v47:=zeroValue324
 i47:=by kernel_rfl
 t48:=underlying359
 a48:=isAgg359
 z48:=sizeOf359
 v48:=zeroValue359
 i48:=by kernel_rfl
 t50:=underlying361
 a50:=isAgg361
 z50:=sizeOf361
 v50:=zeroValue361
 i50:=by kernel_rfl
 t52:=underlying331
 a52:=isAgg331
 z52:=sizeOf331
 v52:=zeroValue331
 i52:=by kernel_rfl
 t55:=underlying334
 a55:=isAgg334
 z55:=sizeOf334
 v55:=zeroValue334
 i55:=by kernel_rfl
 t59:=underlying354
 a59:=isAgg354
 z59:=sizeOf354
 v59:=zeroValue354
 i59:=by kernel_rfl
 t60:=underlying343
 a60:=isAgg343
 z60:=sizeOf343
 v60:=zeroValue343
 i60:=by kernel_rfl
 t61:=underlying355
 a61:=isAgg355
 z61:=sizeOf355
 t65:=underlying367
 a65:=isAgg367
 z65:=sizeOf367
 v65:=zeroValue367
 i65:=by kernel_rfl
 t66:=underlying368
 a66:=isAgg368
 z66:=sizeOf368
 v66:=zeroValue368
 i66:=by kernel_rfl
 t67:=underlying294
 a67:=isAgg294
 z67:=sizeOf294
 v67:=zeroValue294
 i67:=by kernel_rfl
 g0:=by kernel_rfl
 m0:=by kernel_rfl
 g1:=by kernel_rfl
 m1:=by kernel_rfl
 g2:=by kernel_rfl
 m2:=by kernel_rfl
 g3:=by kernel_rfl
 m3:=by kernel_rfl
 g4:=by kernel_rfl
 m4:=by kernel_rfl }
theorem th:∀(l:List UInt8) (a:Nat),l.all isD=true->(a+1)*10 ^ l.length<=1000000000000000000->Lib.parseUintM (2 ^ 64-1) a l=.ok (wK a l)
 | [],a,_,_=>by rw[fD];rfl
 |c::r,a,h,hb=>by
  simp only[QQK,Es] at h;have W:=zN h.1;have hc:48<=c.toNat/\c.toNat<=57:=by have:=h.1;unfold isD at this;simpa using this
  rw[List.length_cons,Nat.pow_succ] at hb;have Z:1<=10 ^ r.length:=Nat.one_le_pow _ _ (by omega);have X:(a+1)*(10 ^ r.length*10)=(10*a+10)*10 ^ r.length:=by rw[V1 (10 ^ r.length) 10,<-QQh];congr 1;omega
  rw[X] at hb;have V:(10*a+10)*1<=(10*a+10)*10 ^ r.length:=Nat.mul_le_mul_left _ Z;have e:a*10+(c.toNat-48)=10*a+(c.toNat-48):=by omega
  unfold Lib.parseUintM;rw[if_pos hc,if_neg (by omega),if_neg (by omega),fq,e];refine th r _ h.2 (QQJ (QQf _ ?_) hb);omega
theorem BY(s:List UInt8)(hs:s≠[])(hd:s.all isD=true)(y:s.length<=18)(mem:Mem):kO prog 221 [.str s,.int .i64 10,.int .i64 64] mem (.tuple [.int .u64 (iU s:Nat),.nilIface]) mem:=
 kO.agG (iL _ func221 (by kernel_rfl) (by kernel_rfl)) (Vs:=[.string ⟨s.toArray⟩,.int .i64 10,.int .i64 64]) (fun μ n Us h=>by simpa [af5,af4] using h) (V:=.tuple #[.int .u64 (iU s:Nat),.nilIface]) (fun μ n=>by simp only[af4,af5];exact⟨_,rfl,_,_,rfl,rfl,_,_,rfl,rfl,rfl⟩)
  (fun Z w X=>(Any.strconv_ParseUint_10_at64_ok xh ⟨s.toArray⟩ (by simp[ByteArray.size];omega) (iU s) (by have W:10 ^ s.length<=10 ^ 18:=P1 (by omega) y;have:=th s 0 hd (by omega);simp only[Lib.parseUintB];rw[if_neg (by simpa using hs)];exact this) w).mono fun e w' ⟨h1,h2⟩=>⟨h1,by rcases h2 with rfl | rfl;exact agx.refl _;exact oI _ _ _⟩) mem
end Go.Proofs
namespace Go.Proofs
open Go.Eng Go.Shelf Go.RowKit Go.Sort
open Tryz
def qO:Go.Shelf.Ren:=⟨fun | 284=>274 | 129=>293 | 317=>292 | 318=>294 | n=>n,fun | 53=>280 | 3=>3 | 212=>354 | 0=>0 | 4=>4 | 46=>322 | 5=>5 | 9=>9 | n=>n,fun | 17=>3 | n=>n⟩
theorem xg:Go.Proofs.LaysM.n284 prog qO:={
 mixed:=by kernel_rfl
 f129:=func293.trans (congrArg some (by kernel_rfl))
 f284:=func274.trans (congrArg some (by kernel_rfl))
 f317:=func292.trans (congrArg some (by kernel_rfl))
 f318:=func294.trans (congrArg some (by kernel_rfl))
 t0:=underlying0
 a0:=isAgg0
 z0:=sizeOf0
 v0:=zeroValue0
 t3:=underlying3
 a3:=isAgg3
 z3:=sizeOf3
 v3:=zeroValue3
 t4:=underlying4
 a4:=isAgg4
 z4:=sizeOf4
 v4:=zeroValue4
 t5:=underlying5
 a5:=isAgg5
 z5:=sizeOf5
 v5:=zeroValue5
 t9:=underlying9
 a9:=isAgg9
 z9:=sizeOf9
 v9:=zeroValue9
 t46:=underlying322
 a46:=isAgg322
 z46:=sizeOf322
 v46:=zeroValue322
 t53:=underlying280
 a53:=isAgg280
 z53:=sizeOf280
 v53:=zeroValue280
 t212:=underlying354
 a212:=isAgg354
 z212:=sizeOf354
 v212:=zeroValue354
 g17:=by kernel_rfl
 i0:=by kernel_rfl
 i3:=by kernel_rfl
 i4:=by kernel_rfl
 i5:=by kernel_rfl
 i9:=by kernel_rfl
 i46:=by kernel_rfl
 i53:=by kernel_rfl
 i212:=by kernel_rfl
 m17:=by kernel_rfl }
def n7:Go.Shelf.Ren:=⟨fun | 285=>275 | n=>n,fun | 37=>198 | 53=>280 | 3=>3 | 4=>4 | 51=>343 | 9=>9 | 5=>5 | 0=>0 | n=>n,fun | n=>n⟩
theorem se:Go.Proofs.Lays.n285 prog n7:={
 mixed:=by kernel_rfl
 f285:=func275.trans (congrArg some (by kernel_rfl))
 t0:=underlying0
 a0:=isAgg0
 z0:=sizeOf0
 v0:=zeroValue0
 t3:=underlying3
 a3:=isAgg3
 z3:=sizeOf3
 v3:=zeroValue3
 t4:=underlying4
 a4:=isAgg4
 z4:=sizeOf4
 v4:=zeroValue4
 t5:=underlying5
 a5:=isAgg5
 z5:=sizeOf5
 v5:=zeroValue5
 t9:=underlying9
 a9:=isAgg9
 z9:=sizeOf9
 v9:=zeroValue9
 t37:=underlying198
 a37:=isAgg198
 z37:=sizeOf198
 v37:=zeroValue198
 t51:=underlying343
 a51:=isAgg343
 z51:=sizeOf343
 v51:=zeroValue343
 t53:=underlying280
 a53:=isAgg280
 z53:=sizeOf280
 v53:=zeroValue280 }
def sf:Go.Shelf.Ren:=⟨fun | 283=>273 | n=>n,fun | 3=>3 | 9=>9 | 4=>4 | n=>n,fun | n=>n⟩
theorem yM:Go.Proofs.Lays.n283 prog sf:={
 mixed:=by kernel_rfl
 f283:=func273.trans (congrArg some (by kernel_rfl))
 t3:=underlying3
 a3:=isAgg3
 z3:=sizeOf3
 v3:=zeroValue3
 t4:=underlying4
 a4:=isAgg4
 z4:=sizeOf4
 v4:=zeroValue4
 t9:=underlying9
 a9:=isAgg9
 z9:=sizeOf9
 v9:=zeroValue9 }
section
variable (u:Nat)(acv:u<18446744073709551616)(w:World)(adn:∀s,ze=s->Lib.TabIs prog w s .u64 Lib.pow10Tab)
include u acv w adn
theorem oL:
  Calls prog 267 #[.int .u64 u,.int .i64 10] w fun e w' =>e=.returned (.string ⟨(Lib.decDigits u).toArray⟩)/\∃k O,w' =grow (w.drewN k) O:=by
 by_cases J:u<100
 .go_enter func267,ntmps267
  go_wp2_with (go_at_call 273;refine(Any.internal_strconv_small yM u J _).mono ?_;rintro e w' ⟨rfl,rfl⟩)
  go_ret
  exact⟨rfl,0,#[],by simp[World.drewN_zero]⟩
 .have X:1<=u:=by omega
  have G:Lib.nDigits u<=20:=by have:=Lib.numDigits_eq u X acv;split at this<;>omega
  have V:prog.arrayLen 331=24:=by kernel_rfl
  have F:∀W,(Instr.sliceAt 331 (.pointer (some ⟨w.heap.size,0,none⟩)) none (some (.int .i64 (Lib.nDigits u:Int))) none).run prog W=.ok (.slice (some ⟨w.heap.size,0,none⟩) (Lib.nDigits u) 24) W:=fun W=>by
   rw[run_sliceAt_array_h W 331 ⟨w.heap.size,0,none⟩ (by kernel_rfl) .i64 (Lib.nDigits u:Int) (by omega) (by rw[V];omega)]
   go_simp
  have Z:=Lib.holds_zero0 w 331 (Lib.nDigits u) (by omega);have S:=Any.internal_strconv_formatBase10 se w.heap.size 0 24 u (Array.replicate (Lib.nDigits u) 0) (w.alloc (.cells Lib.zeros24 331)) Z (by rw[Array.size_replicate];exact Lib.lt_pow_nDigits u) acv (by rw[Array.size_replicate];omega);rw[Array.size_replicate] at S;have M:=Lib.hid Z;clear Z V
  go_enter func267,ntmps267
  go_wp2_with (first
   |(go_at_call 274;refine(Any.internal_strconv_numDigits xg u X acv _ (Lib.tabIs_alloc (adn _ (by kernel_rfl)) _)).mono ?_;rintro e w' ⟨rfl,rfl⟩))
  go_at_call 275
  refine S.mono ?_;rintro e w' ⟨rfl,k,v',dk,rfl,hF⟩;have D:(convert 198 9 (.slice (some ⟨w.heap.size,0,none⟩) (Lib.nDigits u) 24)).run prog ((putRow (fun(b:UInt8)=>Value.int .u8 (b.toNat:Int)) (w.alloc (.cells Lib.zeros24 331)) w.heap.size 0 dk).drewN k)=.ok (.string ⟨(Lib.decDigits u).toArray⟩) ((putRow (fun(b:UInt8)=>Value.int .u8 (b.toNat:Int)) (w.alloc (.cells Lib.zeros24 331)) w.heap.size 0 dk).drewN k):=by
   have h:=run_convert_bytes_back (P:=prog) ((putRow (fun(b:UInt8)=>Value.int .u8 (b.toNat:Int)) (w.alloc (.cells Lib.zeros24 331)) w.heap.size 0 dk).drewN k) 198 9 5 ⟨w.heap.size,0,none⟩ 24 (Lib.decDigits u) (by kernel_rfl) (by kernel_rfl) (by kernel_rfl) (fun j K=>by rw[Lib.row_is_numeral hF j K,Lib.add_plain,World.cell?_drewN];exact cell?_putRow (fun(b:UInt8)=>Value.int .u8 (b.toNat:Int)) _ w.heap.size 0 _ dk M.out (by rw[hF.size,Array.size_replicate]) j (by rw[hF.size];rw[Lib.decDigits_length] at K;exact K))
   rw[Lib.decDigits_length] at h;exact h
  go_wp2
  go_ret
  obtain⟨O,C⟩:=Lib.fin_at w (.cells Lib.zeros24 331) dk k 0;exact⟨rfl,k,O,C⟩
theorem pX:
  Calls prog 228 #[.int .u64 u,.int .i64 10] w fun e w' =>e=.returned (.string ⟨(Lib.decDigits u).toArray⟩)/\∃k Z,w' =grow (w.drewN k) Z:=by
 go_enter func228,ntmps228
 go_wp2_with (go_at_call 267;refine(oL u acv _ adn).mono ?_;rintro e w' ⟨rfl,hw⟩)
 go_ret
 exact⟨rfl,hw⟩
end
theorem Ap(u:Nat)(hu:u<18446744073709551616)(mem:Mem):kO prog 228 [.int .u64 u,.int .i64 10] mem (.str (az u)) mem:=
 kO.agG (iL _ func228 (by kernel_rfl) (by kernel_rfl)) (Vs:=[.int .u64 u,.int .i64 10]) (fun μ n Us h=>by simpa [af5,af4] using h) (V:=.string ⟨(az u).toArray⟩) (fun μ n=>by simp[af4])
  (fun Z w X=>(pX u hu w fun _ W=>X.aii W).mono fun e w' ⟨h1,k,os,h2⟩=>⟨by rw[h1,wz],h2▸agx.grow w k os⟩) mem
end Go.Proofs
namespace Go.Eng
def om:Nat->List UInt8->List Nat
 |0,_=>[]
 |f+1,s=>if s=[] then [] else iU (s.drop (s.length-9))::om f (s.take (s.length-9))
def ji(s:List UInt8):List Nat:=om s.length s
theorem FN:∀(f g:Nat) (s:List UInt8),s.length<=f->s.length<=g->om f s=om g s
 |0,0,s,_,_=>rfl
 |0,g+1,s,h,_=>by have:s=[]:=M0 (by omega);subst this;simp[om]
 |f+1,0,s,_,h=>by have:s=[]:=M0 (by omega);subst this;simp[om]
 |f+1,g+1,s,h1,h2=>by
  unfold om;by_cases Z:s=[]
  .simp[Z]
  .have:0<s.length:=List.length_pos_iff.2 Z
   rw[if_neg Z,if_neg Z,FN f g (s.take (s.length-9)) (by simp;omega) (by simp;omega)]
theorem Sh:ji []=[]:=rfl
variable{s:List UInt8}
theorem yY(h:s≠[]):ji s=iU (s.drop (s.length-9))::ji (s.take (s.length-9)):=by
 have X:0<s.length:=List.length_pos_iff.2 h;unfold ji;obtain⟨f,Z⟩:∃f,s.length=f+1:=⟨s.length-1,by omega⟩
 have e:om s.length s=om (f+1) s:=by rw[Z]
 rw[e,om,if_neg h];congr 1;exact FN _ _ _ (by simp;omega) (by simp)
theorem Te(l:List UInt8)(a:Nat):wK a l=a*10 ^ l.length+iU l:=by
 induction l generalizing a with
 |nil=>unfold iU;rw[fD,fD];simp
 |cons c r ih=>
  unfold iU;rw[fq,fq,ih,ih (10*0+_),List.length_cons,Nat.pow_succ];generalize 10 ^ r.length=p;have:(10*a+(c.toNat-48))*p=a*(p*10)+(c.toNat-48)*p:=by rw[Nat.add_mul,V1 10 a,QQh,V1 10 p]
  rw[this,Nat.mul_zero,QQZ];omega
theorem D8(l r:List UInt8):iU (l++r)=iU l*10 ^ r.length+iU r:=by unfold iU;rw[wJ,Te];rfl
theorem YY{l:List UInt8}(h:l.all isD=true):iU l<10 ^ l.length:=by have:=qt l 0 h;unfold iU;omega
section
variable (h:s.all isD=true)
include h
theorem PU(k:Nat):(s.drop k).all isD=true:=by rw[List.all_eq_true] at h |-;exact fun c hc=>h c (List.mem_of_mem_drop hc)
theorem PV(k:Nat):(s.take k).all isD=true:=by rw[List.all_eq_true] at h |-;exact fun c hc=>h c (List.mem_of_mem_take hc)
theorem PZ:iU (s.drop (s.length-9))<1000000000:=by
 have X:=YY (PU h (s.length-9));have Z:(s.drop (s.length-9)).length<=9:=by simp;omega
 have h3:10 ^ (s.drop (s.length-9)).length<=10 ^ 9:=P1 (by omega) Z;omega
end
theorem mE:∀(n:Nat) (s:List UInt8),s.length<=n->s.all isD=true->lok 1000000000 (ji s)=true/\aG 1000000000 (ji s)=iU s/\(ji s).length<=s.length
 |0,s,hn,_=>by have:s=[]:=M0 (by omega);subst this;exact⟨rfl,by unfold iU;rw[fD];rfl,L9 _⟩
 |n+1,s,hn,h=>by
  by_cases Z:s=[]
  .subst Z;exact⟨rfl,by unfold iU;rw[fD];rfl,L9 _⟩
  .have S:0<s.length:=List.length_pos_iff.2 Z
   rw[yY Z];obtain⟨X,W,O⟩:=mE n (s.take (s.length-9)) (by simp;omega) (PV h _);have V:iU s=iU (s.take (s.length-9))*10 ^ (s.drop (s.length-9)).length+iU (s.drop (s.length-9)):=by
    conv=>lhs;rw[<-List.take_append_drop (s.length-9) s]
    exact D8 _ _
   refine⟨?_,?_,?_⟩
   .rw[dL,X];simp[PZ h]
   .rw[aG,W,V]
    by_cases M:s.length<=9
    .have e:s.length-9=0:=by omega
     rw[e,List.take_zero];have:iU []=0:=by unfold iU;rw[fD]
     rw[this];omega
    .have e:(s.drop (s.length-9)).length=9:=by simp;omega
     rw[e];omega
   .rw[List.length_cons]
    have:(s.take (s.length-9)).length=s.length-9:=by simp
    omega
end Go.Eng
namespace Go.Proofs
open Go.Eng
open Tryz
noncomputable def aY(t:TypeId)(k:Nat):Field:=match prog.underlying t with
 |some (.struct fs)=>fs.getD k default
 |_=>default
theorem We:aU prog 23=some ⟨.array 2 22,2,2,.agg #[.int .i8 0,.int .i8 0],true⟩:=by kernel_rfl
noncomputable def uV:Field:=aY 25 0
theorem Jp:uV.type=5:=by kernel_rfl
theorem Jo:uV.offset=0:=by kernel_rfl
noncomputable def uW:Field:=aY 25 1
theorem Jr:uW.type=23:=by kernel_rfl
theorem Jq:uW.offset=1:=by kernel_rfl
noncomputable def uX:Field:=aY 25 2
theorem Jt:uX.type=4:=by kernel_rfl
theorem Js:uX.offset=3:=by kernel_rfl
theorem Wf:aU prog 25=some ⟨.struct #[uV,uW,uX],4,4,.agg #[.int .u8 0,.int .i8 0,.int .i8 0,.bool false],true⟩:=by kernel_rfl
noncomputable def uY:Field:=aY 28 0
theorem Jv:uY.type=25:=by kernel_rfl
theorem Ju:uY.offset=0:=by kernel_rfl
noncomputable def uZ:Field:=aY 28 1
theorem Jx:uZ.type=26:=by kernel_rfl
theorem Jw:uZ.offset=4:=by kernel_rfl
theorem Wh:aU prog 28=some ⟨.struct #[uY,uZ],5,32,.agg #[.int .u8 0,.int .i8 0,.int .i8 0,.bool false,.slice none 0 0],true⟩:=by kernel_rfl
noncomputable def pH:Field:=aY 31 0
theorem JA:pH.type=29:=by kernel_rfl
theorem Jz:pH.offset=0:=by kernel_rfl
theorem Jy:(pH.name = "_")=False:=eq_false (by decide +kernel)
noncomputable def pI:Field:=aY 31 1
theorem JD:pI.type=29:=by kernel_rfl
theorem JC:pI.offset=1:=by kernel_rfl
theorem JB:(pI.name = "_")=False:=eq_false (by decide +kernel)
noncomputable def pJ:Field:=aY 31 2
theorem JG:pJ.type=29:=by kernel_rfl
theorem JF:pJ.offset=2:=by kernel_rfl
theorem JE:(pJ.name = "_")=False:=eq_false (by decide +kernel)
theorem Wj:aU prog 31=some ⟨.struct #[pH,pI,pJ],3,48,.agg #[.string ⟨#[]⟩,.string ⟨#[]⟩,.string ⟨#[]⟩],true⟩:=by kernel_rfl
noncomputable def vd:Field:=aY 37 0
theorem JI:vd.type=34:=by kernel_rfl
theorem JH:vd.offset=0:=by kernel_rfl
noncomputable def ve:Field:=aY 37 1
theorem JK:ve.type=35:=by kernel_rfl
theorem JJ:ve.offset=1:=by kernel_rfl
theorem Wm:aU prog 37=some ⟨.struct #[vd,ve],2,48,.agg #[.slice none 0 0,.slice none 0 0],true⟩:=by kernel_rfl
noncomputable def vf:Field:=aY 40 0
theorem JM:vf.type=37:=by kernel_rfl
theorem JL:vf.offset=0:=by kernel_rfl
noncomputable def vh:Field:=aY 40 1
theorem JO:vh.type=9:=by kernel_rfl
theorem JN:vh.offset=2:=by kernel_rfl
noncomputable def vi:Field:=aY 40 2
theorem JQ:vi.type=38:=by kernel_rfl
theorem JP:vi.offset=3:=by kernel_rfl
theorem Wo:aU prog 40=some ⟨.struct #[vf,vh,vi],4,88,.agg #[.slice none 0 0,.slice none 0 0,.string ⟨#[]⟩,.slice none 0 0],true⟩:=by kernel_rfl
noncomputable def vj:Field:=aY 47 0
theorem JS:vj.type=9:=by kernel_rfl
theorem JR:vj.offset=0:=by kernel_rfl
noncomputable def vl:Field:=aY 47 1
theorem JU:vl.type=45:=by kernel_rfl
theorem JT:vl.offset=1:=by kernel_rfl
noncomputable def vm:Field:=aY 47 2
theorem JW:vm.type=3:=by kernel_rfl
theorem JV:vm.offset=2:=by kernel_rfl
noncomputable def vn:Field:=aY 47 3
theorem JY:vn.type=31:=by kernel_rfl
theorem JX:vn.offset=3:=by kernel_rfl
theorem Wq:aU prog 47=some ⟨.struct #[vj,vl,vm,vn],6,96,.agg #[.string ⟨#[]⟩,.slice none 0 0,.int .i64 0,.string ⟨#[]⟩,.string ⟨#[]⟩,.string ⟨#[]⟩],true⟩:=by kernel_rfl
theorem Wr:aU prog 55=some ⟨.array 3 22,3,3,.agg #[.int .i8 0,.int .i8 0,.int .i8 0],true⟩:=by kernel_rfl
noncomputable def vo:Field:=aY 69 0
theorem J0:vo.type=66:=by kernel_rfl
theorem JZ:vo.offset=0:=by kernel_rfl
noncomputable def vp:Field:=aY 69 1
theorem J2:vp.type=57:=by kernel_rfl
theorem J1:vp.offset=1:=by kernel_rfl
noncomputable def vt:Field:=aY 69 2
theorem J5:vt.type=67:=by kernel_rfl
theorem J4:vt.offset=2:=by kernel_rfl
theorem Wx:aU prog 69=some ⟨.struct #[vo,vp,vt],3,72,.agg #[.slice none 0 0,.slice none 0 0,.slice none 0 0],true⟩:=by kernel_rfl
noncomputable def pK:Field:=aY 71 0
theorem J8:pK.type=31:=by kernel_rfl
theorem J7:pK.offset=0:=by kernel_rfl
theorem J6:(pK.name = "_")=False:=eq_false (by decide +kernel)
noncomputable def pL:Field:=aY 71 1
theorem Kb:pL.type=29:=by kernel_rfl
theorem Ka:pL.offset=3:=by kernel_rfl
theorem J9:(pL.name = "_")=False:=eq_false (by decide +kernel)
theorem Wy:aU prog 71=some ⟨.struct #[pK,pL],4,64,.agg #[.string ⟨#[]⟩,.string ⟨#[]⟩,.string ⟨#[]⟩,.string ⟨#[]⟩],true⟩:=by kernel_rfl
noncomputable def pM:Field:=aY 73 0
theorem Ke:pM.type=71:=by kernel_rfl
theorem Kd:pM.offset=0:=by kernel_rfl
theorem Kc:(pM.name = "_")=False:=eq_false (by decide +kernel)
noncomputable def pN:Field:=aY 73 1
theorem Kh:pN.type=31:=by kernel_rfl
theorem Kg:pN.offset=4:=by kernel_rfl
theorem Kf:(pN.name = "_")=False:=eq_false (by decide +kernel)
theorem Wz:aU prog 73=some ⟨.struct #[pM,pN],7,112,.agg #[.string ⟨#[]⟩,.string ⟨#[]⟩,.string ⟨#[]⟩,.string ⟨#[]⟩,.string ⟨#[]⟩,.string ⟨#[]⟩,.string ⟨#[]⟩],true⟩:=by kernel_rfl
noncomputable def vu:Field:=aY 76 0
theorem Kk:vu.type=31:=by kernel_rfl
theorem Kj:vu.offset=0:=by kernel_rfl
noncomputable def vv:Field:=aY 76 1
theorem Km:vv.type=74:=by kernel_rfl
theorem Kl:vv.offset=3:=by kernel_rfl
noncomputable def vw:Field:=aY 76 2
theorem Ko:vw.type=31:=by kernel_rfl
theorem Kn:vw.offset=4:=by kernel_rfl
theorem WB:aU prog 76=some ⟨.struct #[vu,vv,vw],7,120,.agg #[.string ⟨#[]⟩,.string ⟨#[]⟩,.string ⟨#[]⟩,.slice none 0 0,.string ⟨#[]⟩,.string ⟨#[]⟩,.string ⟨#[]⟩],true⟩:=by kernel_rfl
noncomputable def pO:Field:=aY 78 0
theorem Kr:pO.type=71:=by kernel_rfl
theorem Kq:pO.offset=0:=by kernel_rfl
theorem Kp:(pO.name = "_")=False:=eq_false (by decide +kernel)
noncomputable def pP:Field:=aY 78 1
theorem Ku:pP.type=29:=by kernel_rfl
theorem Kt:pP.offset=4:=by kernel_rfl
theorem Ks:(pP.name = "_")=False:=eq_false (by decide +kernel)
noncomputable def pQ:Field:=aY 78 2
theorem Kx:pQ.type=9:=by kernel_rfl
theorem Kw:pQ.offset=5:=by kernel_rfl
theorem Kv:(pQ.name = "_")=False:=eq_false (by decide +kernel)
theorem WC:aU prog 78=some ⟨.struct #[pO,pP,pQ],6,96,.agg #[.string ⟨#[]⟩,.string ⟨#[]⟩,.string ⟨#[]⟩,.string ⟨#[]⟩,.string ⟨#[]⟩,.string ⟨#[]⟩],true⟩:=by kernel_rfl
theorem PQ:aU prog 79=some ⟨.array 4 3,4,32,.agg #[.int .i64 0,.int .i64 0,.int .i64 0,.int .i64 0],true⟩:=by kernel_rfl
noncomputable def pR:Field:=aY 81 0
theorem KA:pR.type=79:=by kernel_rfl
theorem Kz:pR.offset=0:=by kernel_rfl
theorem Ky:(pR.name = "_")=False:=eq_false (by decide +kernel)
noncomputable def pS:Field:=aY 81 1
theorem KD:pS.type=31:=by kernel_rfl
theorem KC:pS.offset=4:=by kernel_rfl
theorem KB:(pS.name = "_")=False:=eq_false (by decide +kernel)
theorem WD:aU prog 81=some ⟨.struct #[pR,pS],7,80,.agg #[.int .i64 0,.int .i64 0,.int .i64 0,.int .i64 0,.string ⟨#[]⟩,.string ⟨#[]⟩,.string ⟨#[]⟩],true⟩:=by kernel_rfl
noncomputable def vx:Field:=aY 83 0
theorem KF:vx.type=3:=by kernel_rfl
theorem KE:vx.offset=0:=by kernel_rfl
noncomputable def vy:Field:=aY 83 1
theorem KH:vy.type=9:=by kernel_rfl
theorem KG:vy.offset=1:=by kernel_rfl
noncomputable def vz:Field:=aY 83 2
theorem KJ:vz.type=69:=by kernel_rfl
theorem KI:vz.offset=2:=by kernel_rfl
noncomputable def vB:Field:=aY 83 3
theorem KL:vB.type=73:=by kernel_rfl
theorem KK:vB.offset=5:=by kernel_rfl
noncomputable def vD:Field:=aY 83 4
theorem KN:vD.type=76:=by kernel_rfl
theorem KM:vD.offset=12:=by kernel_rfl
noncomputable def vE:Field:=aY 83 5
theorem KP:vE.type=78:=by kernel_rfl
theorem KO:vE.offset=19:=by kernel_rfl
noncomputable def vG:Field:=aY 83 6
theorem KR:vG.type=81:=by kernel_rfl
theorem KQ:vG.offset=25:=by kernel_rfl
theorem WE:aU prog 83=some ⟨.struct #[vx,vy,vz,vB,vD,vE,vG],32,504,.agg #[.int .i64 0,.string ⟨#[]⟩,.slice none 0 0,.slice none 0 0,.slice none 0 0,.string ⟨#[]⟩,.string ⟨#[]⟩,.string ⟨#[]⟩,.string ⟨#[]⟩,.string ⟨#[]⟩,.string ⟨#[]⟩,.string ⟨#[]⟩,.string ⟨#[]⟩,.string ⟨#[]⟩,.string ⟨#[]⟩,.slice none 0 0,.string ⟨#[]⟩,.string ⟨#[]⟩,.string ⟨#[]⟩,.string ⟨#[]⟩,.string ⟨#[]⟩,.string ⟨#[]⟩,.string ⟨#[]⟩,.string ⟨#[]⟩,.string ⟨#[]⟩,.int .i64 0,.int .i64 0,.int .i64 0,.int .i64 0,.string ⟨#[]⟩,.string ⟨#[]⟩,.string ⟨#[]⟩],true⟩:=by kernel_rfl
theorem WG:aU prog 92=some ⟨.array 4 5,4,4,.agg #[.int .u8 0,.int .u8 0,.int .u8 0,.int .u8 0],true⟩:=by kernel_rfl
noncomputable def vH:Field:=aY 94 0
theorem KT:vH.type=5:=by kernel_rfl
theorem KS:vH.offset=0:=by kernel_rfl
noncomputable def vI:Field:=aY 94 1
theorem KV:vI.type=55:=by kernel_rfl
theorem KU:vI.offset=1:=by kernel_rfl
noncomputable def vJ:Field:=aY 94 2
theorem KX:vJ.type=55:=by kernel_rfl
theorem KW:vJ.offset=4:=by kernel_rfl
noncomputable def vK:Field:=aY 94 3
theorem KZ:vK.type=22:=by kernel_rfl
theorem KY:vK.offset=7:=by kernel_rfl
noncomputable def vM:Field:=aY 94 4
theorem K5:vM.type=92:=by kernel_rfl
theorem K0:vM.offset=8:=by kernel_rfl
theorem WH:aU prog 94=some ⟨.struct #[vH,vI,vJ,vK,vM],12,12,.agg #[.int .u8 0,.int .i8 0,.int .i8 0,.int .i8 0,.int .i8 0,.int .i8 0,.int .i8 0,.int .i8 0,.int .u8 0,.int .u8 0,.int .u8 0,.int .u8 0],true⟩:=by kernel_rfl
noncomputable def nF:Field:=aY 101 0
theorem GU:nF.type=29:=by kernel_rfl
theorem GS:nF.offset=0:=by kernel_rfl
theorem GR:(nF.name = "_")=False:=eq_false (by decide +kernel)
noncomputable def nG:Field:=aY 101 1
theorem GX:nG.type=29:=by kernel_rfl
theorem GW:nG.offset=1:=by kernel_rfl
theorem GV:(nG.name = "_")=False:=eq_false (by decide +kernel)
theorem TY:aU prog 101=some ⟨.struct #[nF,nG],2,32,.agg #[.string ⟨#[]⟩,.string ⟨#[]⟩],true⟩:=by kernel_rfl
theorem LV:aU prog 119=some ⟨.array 2 3,2,16,.agg #[.int .i64 0,.int .i64 0],true⟩:=by kernel_rfl
noncomputable def nH:Field:=aY 124 0
theorem G0:nH.type=29:=by kernel_rfl
theorem GZ:nH.offset=0:=by kernel_rfl
theorem GY:(nH.name = "_")=False:=eq_false (by decide +kernel)
noncomputable def nI:Field:=aY 124 1
theorem G8:nI.type=29:=by kernel_rfl
theorem G6:nI.offset=1:=by kernel_rfl
theorem G4:(nI.name = "_")=False:=eq_false (by decide +kernel)
theorem T0:aU prog 124=some ⟨.struct #[nH,nI],2,32,.agg #[.string ⟨#[]⟩,.string ⟨#[]⟩],true⟩:=by kernel_rfl
theorem T3:aU prog 148=some ⟨.array 3 3,3,24,.agg #[.int .i64 0,.int .i64 0,.int .i64 0],true⟩:=by kernel_rfl
theorem T9:aU prog 212=some ⟨.array 3 29,3,48,.agg #[.string ⟨#[]⟩,.string ⟨#[]⟩,.string ⟨#[]⟩],true⟩:=by kernel_rfl
theorem Ua:aU prog 213=some ⟨.array 3 29,3,48,.agg #[.string ⟨#[]⟩,.string ⟨#[]⟩,.string ⟨#[]⟩],true⟩:=by kernel_rfl
noncomputable def rN:Field:=aY 234 0
theorem Ha:rN.type=4:=by kernel_rfl
theorem G9:rN.offset=0:=by kernel_rfl
noncomputable def rO:Field:=aY 234 1
theorem Hc:rO.type=232:=by kernel_rfl
theorem Hb:rO.offset=1:=by kernel_rfl
theorem Uc:aU prog 234=some ⟨.struct #[rN,rO],2,32,.agg #[.bool false,.slice none 0 0],true⟩:=by kernel_rfl
noncomputable def zx:Field:=aY 291 0
theorem Hd:zx.type=289:=by kernel_rfl
noncomputable def rP:Field:=aY 291 1
theorem Hf:rP.type=198:=by kernel_rfl
theorem He:rP.offset=1:=by kernel_rfl
theorem Uf:aU prog 291=some ⟨.struct #[zx,rP],2,32,.agg #[.pointer none,.slice none 0 0],true⟩:=by kernel_rfl
attribute [simp] We Jp
attribute [simp] Jo Jr Jq Jt Js Wf Jv Ju Jx
attribute [simp] Jw Wh JA Jz Jy JD JC JB JG
attribute [simp] JF JE Wj JI JH JK JJ Wm
attribute [simp] JM JL JO JN JQ JP Wo
attribute [simp] JS JR JU JT JW JV JY
attribute [simp] JX Wq Wr J0 JZ J2 J1
attribute [simp] J5 J4 Wx J8 J7 J6 Kb Ka J9 Wy
attribute [simp] Ke Kd Kc Kh Kg Kf Wz
attribute [simp] Kk Kj Km Kl Ko Kn WB
attribute [simp] Kr Kq Kp Ku Kt Ks Kx Kw Kv WC PQ
attribute [simp] KA Kz Ky KD KC KB WD
attribute [simp] KF KE KH KG KJ KI KL KK
attribute [simp] KN KM KP KO KR KQ WE WG
attribute [simp] KT KS KV KU KX KW KZ KY
attribute [simp] K5 K0 WH GU GS GR GX GW GV TY LV
attribute [simp] G0 GZ GY G8 G6 G4 T0 T3
attribute [simp] T9 Ua
attribute [simp] Ha G9 Hc Hb Uc Hd Hf
attribute [simp] He Uf
noncomputable def bw(f:FuncId)(args:List AV):Option AV:=
 match f,args with
 |221,[.str s,.int .i64 b,.int .i64 w]=>if s≠[]/\s.all isD=true/\s.length<=18/\b=10/\w=64 then some (.tuple [.int .u64 (iU s:Nat),.nilIface]) else none
 |228,[.int .u64 u,.int .i64 b]=>if 0<=u/\u<=18446744073709551615/\b=10 then some (.str (az u.toNat)) else none
 |f,args=>ar f args
theorem Cz:adM prog (af bw):=bX fun f X v h mem=>by
 unfold bw at h;split at h
 .split at h
  .rename_i hc
   obtain⟨Z,W,h3,rfl,rfl⟩:=hc;cases h;exact BY _ Z W h3 mem
  .cases h
 .split at h
  .rename_i hc
   obtain⟨Z,W,rfl⟩:=hc;cases h;have V:=(Int.toNat_lt Z).2 (show _<((18446744073709551616:Nat):Int) by omega);have:=Ap _ V mem;rw[QQe Z] at this;exact this
  .cases h
 .have:=fh.fn _ _ mem ⟨v,none,[]⟩ (by unfold af;simp only;rw[h])
  simpa [afA.mem] using this
noncomputable def bH:af3:=fun c Z M=>((af bw).or cg) c Z M
theorem rn:adM prog bH:=Cz.or Je
def wA:List Nat->Mem
 | []=>[.cells true 0 [.bool false,.y9],.cells true 1 []]
 |x::l=>[.cells true 0 [.bool false,.y9],.HS,.cells true 1 (iN .u64 (x::l))]
def tf:List Nat->AV
 | []=>.slice 1 0 0 none
 |x::l=>.slice 2 0 (l.length+1) none
theorem ER{K:Nat}(y:List UInt8)(hd:y.all isD=true)(hs:y.length<=1000000)(I:y.length<K){b:Code}(H:ag f147=[b]):
  ∃F:Env->Bool->Env,∀Z d,(ad Z 3=.str y/\ad Z 5=.slice 1 0 0 none)->
   aT (aU prog) (fun _=>[3,5]) bH K 44 0 true (.loop b) ⟨Z,wA [],d⟩=some (.exit 0,⟨F Z d,wA (ji y),d⟩)/\
   (ad (F Z d) 5=tf (ji y)/\ad (F Z d) 2=ad Z 2/\ad (F Z d) 4=ad Z 4):=by
 refine bG rfl (fun Z=>ad Z 3=.str y/\ad Z 5=.slice 1 0 0 none) (fun Z B =>ad B 5=tf (ji y)/\ad B 2=ad Z 2/\ad B 4=ad Z 4) ?_;rintro Z d ⟨h3,h5⟩;simp[ag,aH,f147] at H;have X:au [3,5] (ab b) Z ((3,.str y)::(5,tf [])::Z)=au [3,5] (ab b) Z Z:=by simp[au,h3,h5,tf]
 rw[<-X];refine bW (α:=List UInt8×List Nat) (fun a=>⟨au [3,5] (ab b) Z ((3,.str a.1)::(5,tf a.2)::Z),wA a.2,d⟩) (fun a=>a.1.length)
  (fun a=>a.1.all isD=true/\a.1.length<=y.length/\a.2++ji a.1=ji y) (.exit 0) _ d _ (by simp) ?_ K (y,[]) ⟨hd,L9 _,rfl⟩ I
 rintro ⟨s,done⟩ ⟨I',hle,H'⟩;simp only at I' hle H';clear X;subst H;by_cases hs0:s=[]
 .right
  subst hs0;rw[Sh,List.append_nil] at H';rw[<-H'];simp
 .left
  have A:0<s.length:=List.length_pos_iff.2 hs0;rw[yY hs0] at H';have m:done.length<=1000000:=by have z:=(mE _ y (L9 _) hd).2.2;rw[<-H'] at z;simp at z;omega
  obtain⟨k,u⟩:=xE (s.length-9);rw[<-u] at H';obtain⟨n,X⟩:=xE (iU (s.drop k));have j:n<1000000000:=by rw[X,u];exact PZ I'
  rw[<-X] at H';have w1:IntKind.i64.wrap ((s.length:Int)-9)=(s.length:Int)-9:=ai;have J:(if (s.length:Int)-9<0 then (0:Int) else (s.length:Int)-9)=(k:Int):=by split<;>omega
  have Y:k<=s.length:=by omega
  have W:(s.drop k).take (s.length-k)=s.drop k:=GE (by simp);have V:s.drop k≠[]:=by intro e;have:=congrArg List.length e;simp at this;omega
  have S:=PU I' k;have O:(s.drop k).length<=18:=by simp;omega
  have G:(k:Int)<=(s.length:Int):=by omega
  have D:(done.length+1)*8<=140737488355328:=by omega
  have C:done.length+1<=140737488355328:=by omega
  obtain⟨sd,M⟩:=xE (s.drop k);rw[<-M] at W V S O X;refine⟨(s.take k,done++[n]),?_⟩;refine bM (r:=_/\_) (show((s.take k).all isD=true/\(s.take k).length<=y.length/\(done++[n])++ji (s.take k)=ji y)/\(s.take k).length<s.length by refine⟨⟨PV I' k,by simp;omega,?_⟩,by simp;omega⟩;rw[<-H'];simp) ?_
  clear H';have R:0<(s.length:Int):=by omega
  cases done with
  |nil=>
   simp[wA,tf,bH,af3.or,af,bw,A,w1,J,G,<-M,W,V,S,O,<-X,de,Nat.testBit]
  |cons x l=>
   have Q:(iN .u64 l).take l.length=iN .u64 l:=GE (by simp);simp only[List.length_cons] at D C;simp[wA,tf,bH,af3.or,af,bw,A,w1,J,G,<-M,W,V,S,O,<-X,Q,D,C,de,eO,Nat.testBit]
section
variable (z:Int)(hl:(az z.natAbs).length<=1000000)
include z hl
theorem Ht:aa (aU prog) (fun _=>[3,5]) (aS prog) bH ((az z.natAbs).length+1) 147 [.str (cf z)] []=
  some ⟨.agg [.bool (decide (z<0)),.slice 0 0 (bB (ji (az z.natAbs))).length none],none,[.cells true 1 (iN .u64 (ji (az z.natAbs)))]⟩:=by
 have A:aS prog 147=some f147:=by kernel_rfl
 obtain⟨b,V⟩:∃b,ag f147=[b]:=⟨_,rfl⟩
 obtain⟨F,X⟩:=ER (K:=(az z.natAbs).length+1) (az z.natAbs) (ff _) hl (by omega) V;simp[ag,aH,f147] at V;subst V;obtain⟨u,m,G⟩:=mE _ (az z.natAbs) (L9 _) (ff _);have S:ji (az z.natAbs)≠[]:=by rw[yY (kI _)];simp
 obtain⟨Z,O⟩:=xE (ji (az z.natAbs));rw[<-O] at X u m G S |-;have j:wA Z=[.cells true 0 [.bool false,.y9],.HS,.cells true 1 (iN .u64 Z)]:=by cases Z<;>first | exact absurd rfl S | rfl
 have Y:tf Z=.slice 2 0 Z.length none:=by cases Z<;>first | exact absurd rfl S | rfl
 rw[j,Y] at X;simp only[wA] at X;obtain⟨L,D⟩:=xE ((az z.natAbs).length);obtain⟨c,hc⟩:=xE (α:=Nat) (L / 9+1);obtain⟨M,W⟩:=xE (α:=Nat) (L / 9);rw[<-D] at X hl G |-;have w1:IntKind.i64.wrap ((L:Int) / 9)=(M:Int):=by rw[ai];omega
 have R :IntKind.i64.wrap ((L:Int).tdiv 9)=(M:Int):=by rw[XC L 9,<-W];exact ai
 have w2:IntKind.i64.wrap ((M:Int)+1)=(c:Int):=by rw[ai];omega
 have Q:8*(c:Int)<=281474976710656:=by omega
 have I:(c:Int)<=281474976710656:=by omega
 have hs2:∀C B l,cb .u64 (C::B::.cells true 1 (iN .u64 Z)::l) (.slice 2 0 Z.length none)=some Z:=fun C B l=>bq rfl (by simp) (GE (by simp))
 have J:Z.length<=1000000000:=by omega
 clear hc W;simp[aa,A,f147,bH,cg,cq,bV,bu,af3.or,af,bw,ar,kk,kS,<-D,w1,w2,Q,I,X,hs2,J,bZ,aF]
theorem NP(M:Mem):kO prog 147 [.str (cf z)] M (.agg [.bool (decide (z<0)),.slice M.length 0 (dig 1000000000 z.natAbs).length none]) (M++[.cells true 1 (iN .u64 (dig 1000000000 z.natAbs))]):=by
 obtain⟨S,X,O⟩:=mE _ (az z.natAbs) (L9 _) (ff _);rw[fm] at X;have W:bB (ji (az z.natAbs))=dig 1000000000 z.natAbs:=by rw[<-gP (by omega) S,X]
 have h:=(ah ae (al _) rn (ao _) (Ht z hl)).1;simp only[afA.mem,Option.getD_none,List.nil_append] at h;have V:=kO.ahj (m2:=[.cells true 1 (iN .u64 (dig 1000000000 z.natAbs))]) h rfl (fun b s Z=>by
  match b with
  |0=>simp at Z;subst Z;exact⟨_,rfl,.row (by rw[<-W];exact fG _)⟩
  |b+1=>simp at Z)
 rw[W] at V;have h3:=kO.frame (M:=M) [] (m:=[]) (new:=[.cells true 1 (iN .u64 (dig 1000000000 z.natAbs))]) rfl (by simp) rfl (by simp) rfl V;simpa [AV.ren,AV.agd,eg] using h3
end
end Go.Proofs
namespace Go.Proofs
open Go.Eng Go.Shelf Go.RowKit Go.Sort
open Tryz
theorem MI{P:Program}{e:TypeId}{n s d:Nat}(hd:P.depth=d+1)(hs:P.cellsOf e=s+1)(y:sameLayout P P.depth e e=true)(H:1<=n):liesAt P P.depth e n 0 e 1=true:=by rw[hd] at y;simp[hd,liesAt,rowAt,hs,y,H]
theorem AB(n:Nat)(y:1<=n):liesAt prog prog.depth 291 n 0 291 1=true:=
 MI (s:=1) (d:=prog.depth-1) (by kernel_rfl) (by kernel_rfl) (by kernel_rfl) y
theorem yA:prog.cellsOf 291=2:=by kernel_rfl
theorem qE:(prog.info? 291).map (·.size)=some 2:=by kernel_rfl
theorem uT(b:Nat)(w:World)(h0:w.cell? ⟨b,0,none⟩=some (.pointer (some ⟨b,0,none⟩))):
  Calls prog 266 #[.pointer (some ⟨b,0,none⟩)] w fun e w' =>e=.returned (.tuple #[])/\w' =w:=by
 obtain⟨j,Z,_⟩:=Pl.1 qE
 go_enter func266,ntmps266
 go_wp2
 rw[Lib.run_neq_ptr_same w _ (tp:=289) (te:=291) (by kernel_rfl) Z]
 go_wp2
 go_end0
 exact⟨rfl,rfl⟩
theorem uo(b:Nat)(w:World)(h0:w.cell? ⟨b,0,none⟩=some (.pointer none))(n:Nat)(H:2<=n)(y:w.shape? b=some (291,n))(I:w.frozen? ⟨b,0,none⟩=false):
  Calls prog 266 #[.pointer (some ⟨b,0,none⟩)] w fun e w' =>e=.returned (.tuple #[])/\w' =w.setCell ⟨b,0,none⟩ (.pointer (some ⟨b,0,none⟩)):=by
 obtain⟨j,X,Z⟩:=Pl.1 qE;have W:prog.underlying 289=some (.pointer 291):=by kernel_rfl
 have V:prog.underlying 347=some .unsafePointer:=by kernel_rfl
 go_enter func266,ntmps266
 go_wp2
 rw[Lib.run_to_unsafe w ⟨b,0,none⟩ W V X (by rw[Z];decide) y (QQl (Nat.zero_lt_succ 1) H)];simp only[Result.andThen];rw[Oper.upon_value]
 go_wp2
 rw[run_callFunc_extern func289 (by kernel_rfl) (by kernel_rfl) (by kernel_rfl) (e:=Extern.AbiNoEscape.same) (by kernel_rfl)];rw[Lib.run_noEscape];simp only[Result.andThen];rw[Oper.upon_value]
 go_wp2
 rw[Lib.run_from_unsafe w ⟨b,0,none⟩ V W X y (AB _ (by rw[yA];omega))];simp only[Result.andThen];rw[Oper.upon_value]
 go_wp2
 go_end0
 exact⟨rfl,rfl⟩
abbrev aK:Nat:=1000*(291+1)
theorem um(mem:Mem)(b:Nat)(y:AV)(H:mem[b]? =some (.cells true aK [.ptr b 0,y])):
  kO prog 266 [.ptr b 0] mem (.tuple []) mem:=by
 refine⟨iL _ func266 (by kernel_rfl) (by kernel_rfl),fun base μ w Vs hG hH W=>?_⟩;obtain⟨X,_,rfl,W,rfl⟩:=W;simp only[af4] at W;have O:=hH.slot b _ H;simp only[agj] at O;obtain⟨K,el,C,J,B,g3,G,F⟩:=O;obtain⟨M,A,z,u⟩:=F trivial;obtain⟨V,Z,S⟩:=G 0 _ rfl;simp only[af4] at S;obtain⟨D,rfl⟩:=W;rw[M] at S Z;rw[M];obtain⟨_,rfl⟩:=S;refine(uT (μ b).blk w (by simp only[World.cell?,J];exact Z)).mono ?_;rintro e w' ⟨rfl,rfl⟩;exact⟨_,_,_,μ,rfl,by simp[af4,af5],hH,.refl (L9 _),rfl,rfl⟩
theorem qZ(mem:Mem)(b:Nat)(H:AV)(y:mem[b]? =some (.cells true aK [.agk,H])):
  kO prog 266 [.ptr b 0] mem (.tuple []) (mem.set b (.cells true aK [.ptr b 0,H])):=by
 refine⟨iL _ func266 (by kernel_rfl) (by kernel_rfl),fun base μ w Vs hG hH K=>?_⟩;obtain⟨X,_,rfl,K,rfl⟩:=K;simp only[af4] at K;have B:=hH.slot b _ y;simp only[agj] at B;obtain⟨Z,el,fr,J,A,g3,z,m⟩:=B;obtain⟨S,rfl,Y,R⟩:=m trivial;obtain⟨V,O,u⟩:=z 0 _ rfl;obtain⟨Q,M,G⟩:=z 1 _ rfl;simp only[af4] at u;obtain⟨F,rfl⟩:=K;rw[S] at O M;rw[S];subst u;have D:el=291:=by have:=A.2 (by decide);exact Nat.succ.inj this
 subst D;have C:w.cell? ⟨(μ b).blk,0,none⟩=some (.pointer none):=by simp only[World.cell?,J];exact O
 have I:Z.size=2\/2<Z.size:=by simp only[List.length_cons,List.length_nil] at g3;omega
 refine(uo (μ b).blk w C Z.size (by omega) (by simp only[World.shape?,J]) (by simp[World.frozen?,J])).mono ?_;rintro e w' ⟨rfl,rfl⟩;obtain⟨k1,k2⟩:=hH.write (w' :=w.setCell ⟨(μ b).blk,0,none⟩ (.pointer (some ⟨(μ b).blk,0,none⟩))) (s' :=.cells true aK [.ptr b 0,H]) y (qi y) (fun _=>⟨_,X1 (gL y),rfl⟩) rfl rfl rfl rfl (by simp[World.setCell]) (fun k hk=>by simp[World.setCell,Array.getElem?_modify,Ne.symm hk]) (by
  simp only[agj];refine⟨Z.setIfInBounds 0 (.pointer (some ⟨(μ b).blk,0,none⟩)),291,(0,0),by simp[World.setCell,Array.getElem?_modify,J],A,g3,fun j v W=>?_,fun _=>⟨S,rfl,by simpa using Y,R⟩⟩
  match j,W with
  |0,W=>
   simp at W;subst W;refine⟨.pointer (some ⟨(μ b).blk,0,none⟩),?_,by simp[af4,F,S]⟩;rw[S];have:0<Z.size:=by omega
   simp[this]
  |1,W=>
   simp at W;subst W;refine⟨Q,?_,G⟩;rw[S];simpa using M
  |j+2,W=>simp at W)
 exact⟨_,_,_,μ,rfl,by simp[af4,af5],k1,k2,rfl,rfl⟩
end Go.Proofs
namespace Go.Proofs
open Go.Eng
open Tryz
def iB(s:List UInt8):List AV:=s.map fun c=>.int .u8 (c.toNat:Int)
@[simp] theorem Zj (s:List UInt8):(iB s).length=s.length:=by simp[iB]
theorem UO(s t:List UInt8):iB (s++t)=iB s++iB t:=by simp[iB]
@[simp] theorem aad:iB []=[]:=rfl
@[simp] theorem Z0 (m:Nat) (s:List UInt8):AV.ago m (iB s)=[]:=by
 induction s with
 |nil=>rfl
 |cons c s ih=>simpa [iB,AV.ago,AV.refs] using ih
@[simp] theorem aae (ρ:Nat->Option Nat) (s:List UInt8):AV.agd ρ (iB s)=iB s:=by
 induction s with
 |nil=>rfl
 |cons c s ih=>simpa [iB,AV.agd,AV.ren] using ih
@[simp] theorem aac (s:List UInt8) (p:AV->Prop):(∀x,x∈iB s->p x)↔∀c,c∈s->p (.int .u8 (c.toNat:Int)):=by simp[iB]
theorem lz(s:List UInt8):jV (iB s)=some s:=by
 induction s with
 |nil=>rfl
 |cons c s ih=>
  have Z:(0:Int)<=(c.toNat:Int)/\(c.toNat:Int)<256:=by have:=c.toNat_lt;omega
  show jV (.int .u8 (c.toNat:Int)::iB s)=_
  rw[jV,if_pos Z,ih];simp
noncomputable def ie:af3:=fun c Z M=>match c,Z with
 |.fn 266,[.ptr b 0]=>match M[b]? with
  |some (.cells true es [.agk,sl])=>if es=aK then some ⟨.tuple [],some (M.set b (.cells true aK [.ptr b 0,sl])),[]⟩ else none
  |some (.cells true es [.ptr b' 0,_])=>if es=aK/\b' =b then some ⟨.tuple [],none,[]⟩ else none
  |_=>none
 |_,_=>none
theorem pF:adM prog ie where
 fn f args mem r h:=by
  unfold ie at h;split at h
  .rename_i W
   cases W;split at h
   .rename_i b _ es X Z
    split at h
    .rename_i he
     cases h;subst he;simpa [afA.mem] using qZ mem b X Z
    .cases h
   .rename_i b _ es b' X Z
    split at h
    .rename_i he
     cases h;obtain⟨rfl,rfl⟩:=he;simpa [afA.mem] using um mem _ _ Z
    .cases h
   .cases h
  .cases h
 yld b args mem r h:=by unfold ie at h;split at h<;>simp_all
 pre c args mem r p h hp:=by
  unfold ie at h;split at h
  .split at h
   .split at h
    .cases h;cases hp;simp
    .cases h
   .split at h
    .cases h;cases hp
    .cases h
   .cases h
  .cases h
theorem XN(s:List UInt8):(s.map fun c=>AV.int .u8 (c.toNat:Int))=iB s:=rfl
theorem CM(M:Mem)(b:Nat)(s:List UInt8)(H:M[b]? =some (.cells true aK [.agk,.y9]))(hs:s≠[])(I:s.length<=100000000):
  bO (aU prog) (fun _=>[]) (aS prog) ie 1 229 [.ptr b 0,.str s] M=some (.tuple [.int .i64 (s.length:Int),.nilIface],M.set b (.cells true aK [.ptr b 0,.slice M.length 0 s.length none])++[.cells true 6001 (iB s)]):=by
 have O:aS prog 229=some f229:=by kernel_rfl
 have Z:b<M.length:=gL H;have W:s.length<=140737488355328:=by omega
 have X:∀x,(M.set b x)[b]? =some x:=fun x=>X1 Z
 have V:∀x l,(M.set b x++l)[b]? =some x:=fun x l=>by rw[Hi (by simpa using Z),X]
 have S:∀x y l,(M.set b x++l).set b y=M.set b y++l:=fun x y l=>by rw[List.set_append_left _ _ (by simpa using Z),List.set_set]
 clear Z;simp[bO,O,f229,ie,H,hs,W,X,V,S,XN]
theorem vP(M:Mem)(b:Nat)(c:UInt8)(H:M[b]? =some (.cells true aK [.agk,.y9])):
  bO (aU prog) (fun _=>[]) (aS prog) ie 1 227 [.ptr b 0,.int .u8 (c.toNat:Int)] M=some (.nilIface,M.set b (.cells true aK [.ptr b 0,.slice (M.length+1) 0 1 none])++[.cells true 1 (iB [c]),.cells true 6001 (iB [c])]):=by
 have S:aS prog 227=some f227:=by kernel_rfl
 have Z:b<M.length:=gL H;have X:∀x,(M.set b x)[b]? =some x:=fun x=>X1 Z
 have W:∀x l,(M.set b x++l)[b]? =some x:=fun x l=>by rw[Hi (by simpa using Z),X]
 have V:∀x y l,(M.set b x++l).set b y=M.set b y++l:=fun x y l=>by rw[List.set_append_left _ _ (by simpa using Z),List.set_set]
 clear Z;simp[bO,S,f227,ie,H,X,W,V,iB]
theorem CN(M:Mem)(b k:Nat)(t s:List UInt8)(H:M[b]? =some (.cells true aK [.ptr b 0,.slice k 0 t.length none]))(hk:M[k]? =some (.cells true 6001 (iB t)))(I:k≠b)(Q:t.length+s.length<=100000000):
  bO (aU prog) (fun _=>[]) (aS prog) ie 1 229 [.ptr b 0,.str s] M=some (.tuple [.int .i64 (s.length:Int),.nilIface],(M.set k .HS).set b (.cells true aK [.ptr b 0,.slice M.length 0 (t.length+s.length) none])++[.cells true 6001 (iB (t++s))]):=by
 have K:aS prog 229=some f229:=by kernel_rfl
 have Z:b<M.length:=gL H;have X:t.length+s.length<=140737488355328:=by omega
 have W:∀x,(M.set k x)[b]? =some (.cells true aK [.ptr b 0,.slice k 0 t.length none]):=fun x=>by rw[X4 I,H]
 have V:∀x l,(M.set k x++l)[b]? =some (.cells true aK [.ptr b 0,.slice k 0 t.length none]):=fun x l=>by rw[Hi (by simpa using Z),W]
 have S:∀x y l,(M.set k x++l).set b y=(M.set k x).set b y++l:=fun x y l=>by rw[List.set_append_left _ _ (by simpa using Z)]
 have O:(iB t).take t.length=iB t:=GE (by simp);clear Z;simp[bO,K,f229,ie,H,hk,X,V,S,XN,O,UO]
theorem AO(y s1 H I:af6)(t:List UInt8)(Q:t≠[])(R:t.length<=100000000):
  bO (aU prog) (fun _=>[]) (aS prog) bD 1 230 [.ptr 2 0] [y,s1,.cells true aK [.ptr 2 0,.slice 5 0 t.length none],H,I,.cells true 6001 (iB t)]=some (.str t,[y,s1,.cells true aK [.ptr 2 0,.slice 5 0 t.length none],H,I,.HS]):=by
 have W:aS prog 230=some f230:=by kernel_rfl
 have Z:(iB t).take t.length=iB t:=GE (by simp);have X:(t.length:Int)<=9223372036854775807:=by omega
 have V:0<t.length:=List.length_pos_iff.2 Q;simp[bO,W,f230,X,V,Z,lz,Nat.testBit]
theorem AP(y s1 H I Q R:af6)(t:List UInt8)(Y:t≠[])(hl:t.length<=100000000):
  bO (aU prog) (fun _=>[]) (aS prog) bD 1 230 [.ptr 2 0] [y,s1,.cells true aK [.ptr 2 0,.slice 7 0 t.length none],H,I,Q,R,.cells true 6001 (iB t)]=some (.str t,[y,s1,.cells true aK [.ptr 2 0,.slice 7 0 t.length none],H,I,Q,R,.HS]):=by
 have W:aS prog 230=some f230:=by kernel_rfl
 have Z:(iB t).take t.length=iB t:=GE (by simp);have X:(t.length:Int)<=9223372036854775807:=by omega
 have V:0<t.length:=List.length_pos_iff.2 Y;simp[bO,W,f230,X,V,Z,lz,Nat.testBit]
theorem xx:∀{cs:List AV} {t:List UInt8},jV cs=some t->cs=iB t
 | [],t,h=>by cases h;rfl
 |v::l,t,h=>by
  cases v<;>try (unfold jV at h;cases h;done)
  rename_i k n;cases k<;>try (unfold jV at h;cases h;done)
  unfold jV at h;split at h
  .rename_i X
   split at h
   .rename_i r Z
    cases h;have:=xx Z;rw[this];have e:n=max n 0%256:=by omega
    simp only[iB,List.map_cons,List.cons.injEq,AV.int.injEq,true_and,and_true,UInt8.toNat_ofNat'];omega
   .cases h
  .cases h
noncomputable def gW:af3:=fun c Z M=>match c,Z with
 |.fn 227,[.ptr b 0,.int .u8 n]=>match M[b]? with
  |some (.cells true es [.agk,.y9])=>if es=aK/\n=45 then some ⟨.nilIface,some (M.set b (.cells true aK [.ptr b 0,.slice (M.length+1) 0 1 none])),[.cells true 1 (iB [45]),.cells true 6001 (iB [45])]⟩ else none
  |_=>none
 |.fn 229,[.ptr b 0,.str s]=>match M[b]? with
  |some (.cells true es [.agk,.y9])=>if es=aK/\s≠[]/\s.length<=100000000 then some ⟨.tuple [.int .i64 (s.length:Int),.nilIface],some (M.set b (.cells true aK [.ptr b 0,.slice M.length 0 s.length none])),[.cells true 6001 (iB s)]⟩ else none
  |some (.cells true es [.ptr b' 0,.slice k 0 n none])=>match M[k]? with
   |some (.cells true es2 cs)=>match jV cs with
    |some t=>if es=aK/\b' =b/\es2=6001/\n=t.length/\k≠b/\t.length+s.length<=100000000 then
      some ⟨.tuple [.int .i64 (s.length:Int),.nilIface],some ((M.set k .HS).set b (.cells true aK [.ptr b 0,.slice M.length 0 (t.length+s.length) none])),[.cells true 6001 (iB (t++s))]⟩ else none
    |none=>none
   |_=>none
  |_=>none
 |.fn 230,[.ptr 2 0]=>match M with
  | [s0,s1,.cells true es [.ptr 2 0,.slice 5 0 n none],s3,s4,.cells true es2 cs]=>match jV cs with
   |some t=>if es=aK/\es2=6001/\n=t.length/\t≠[]/\t.length<=100000000 then
     some ⟨.str t,some [s0,s1,.cells true aK [.ptr 2 0,.slice 5 0 t.length none],s3,s4,.HS],[]⟩ else none
   |none=>none
  | [s0,s1,.cells true es [.ptr 2 0,.slice 7 0 n none],s3,s4,s5,s6,.cells true es2 cs]=>match jV cs with
   |some t=>if es=aK/\es2=6001/\n=t.length/\t≠[]/\t.length<=100000000 then
     some ⟨.str t,some [s0,s1,.cells true aK [.ptr 2 0,.slice 7 0 t.length none],s3,s4,s5,s6,.HS],[]⟩ else none
   |none=>none
  |_=>none
 |_,_=>none
theorem zu:adM prog gW where
 fn f args mem r h:=by
  unfold gW at h;split at h
  .rename_i X
   cases X;split at h
   .rename_i W
    split at h
    .rename_i hc
     cases h;obtain⟨rfl,rfl⟩:=hc;exact bl ae (al _) pF (ao _) (vP mem _ 45 W)
    .cases h
   .cases h
  .rename_i X
   cases X;split at h
   .rename_i W
    split at h
    .rename_i hc
     cases h;obtain⟨rfl,Z,h3⟩:=hc;exact bl ae (al _) pF (ao _) (CM mem _ _ W Z h3)
    .cases h
   .rename_i W
    split at h
    .rename_i V
     split at h
     .rename_i ht
      split at h
      .rename_i hc
       cases h;obtain⟨rfl,rfl,rfl,rfl,Z,h3⟩:=hc;have:=xx ht;subst this;exact bl ae (al _) pF (ao _) (CN mem _ _ _ _ W V Z h3)
      .cases h
     .cases h
    .cases h
   .cases h
  .rename_i X
   cases X;split at h
   .split at h
    .rename_i ht
     split at h
     .rename_i hc
      cases h;obtain⟨rfl,rfl,rfl,Z,h3⟩:=hc;have:=xx ht;subst this;simpa [afA.mem] using bl ae (al _) (aj _) (ao _) (AO _ _ _ _ _ Z h3)
     .cases h
    .cases h
   .split at h
    .rename_i ht
     split at h
     .rename_i hc
      cases h;obtain⟨rfl,rfl,rfl,Z,h3⟩:=hc;have:=xx ht;subst this;simpa [afA.mem] using bl ae (al _) (aj _) (ao _) (AP _ _ _ _ _ _ _ Z h3)
     .cases h
    .cases h
   .cases h
  .cases h
 yld b args mem r h:=by unfold gW at h;split at h<;>simp_all
 pre c args mem r p h hp:=by
  unfold gW at h
  repeat' split at h
  all_goals first
   |(cases h;done)
   |(cases h;cases hp;simp;done)
theorem Un{T:TypeId->Option TyI}{lv:Code->List Nat}{G:FuncId->Option Func}{O:af3}{K:Nat}{f:FuncId}{args:List AV}{mem y :Mem}{fn:Func}{c:Code}{v:AV}{e:Exit}{Q :Env}{ks:List Nat}(hf:G f=some fn)(Y:fn.body=some c)(hl:args.length<=fn.ntmps)(he:e=.normal\/e=.ret)(h:aT T lv O K fn.ntmps mem.length true c ⟨dV 0 args,mem,false⟩=some (e,⟨Q,y,true⟩))(R:kf T fn.results.toList Q y =some v)(H:pg mem.length y 1000 (v.refs mem.length++(y.take mem.length).flatMap (af6.refs mem.length)) []=ks)(I:E5 mem.length y.length ks=true):
  aa T lv G O K f args mem=some ⟨v.ren (rho mem.length ks),some ((y.take mem.length).map (af6.ren (rho mem.length ks))),agR mem.length ks y⟩:=by
 unfold aa;simp only[hf,Y];rw[if_pos hl,h];rcases he with rfl | rfl
 .simp only[R,if_true]
  rw[H,if_pos I]
 .simp only[R,if_true]
  rw[H,if_pos I]
theorem uG{n:Nat}{A:List Nat}(hA:A.length=n)(hn:0<n)(hl:n<=1000000000)(H bA y m0 eb:Nat)(ob oA:Bool)(M:Nat->Mem)(I:(M n).length=m0)(Do:∀j,j<n->(M (j+1)).length<=(M j).length/\m0<(M j).length)(hs:∀j,j<=n->(M j)[H]? =some (.cells ob eb [.slice bA 0 n none]))(hr:∀j,j<=n->(M j)[bA]? =some (.cells oA 1 (iN .u64 A)))(Q:∀j,j<n->((M j).take m0).all (fun s=>(s.refs m0).isEmpty)=false)(hy:∀j,j<n->gV prog y [.int .i64 (j:Int),.int .u64 ((A.getD j 0:Nat):Int)] (M (j+1)) (.bool true) (M j))(ks:List Nat)(R:pg m0 (M 0) 1000 (((M 0).take m0).flatMap (af6.refs m0)) []=ks)(Y:E5 m0 (M 0).length ks=true):
  kO prog 265 [.yield y,.ptr H 0] (M n) (.tuple []) (((M 0).take m0).map (af6.ren (rho m0 ks))++agR m0 ks (M 0)):=by
 have hG:aS prog 265=some f265:=by kernel_rfl
 obtain⟨O,hO,S⟩:=gd (P:=prog) (fun j:Nat=>j<n) (fun _=>.yld y) (fun j=>[.int .i64 (j:Int),.int .u64 ((A.getD j 0:Nat):Int)]) (fun j=>M (j+1)) (fun j=>⟨.bool true,some ((M j).take (M (j+1)).length),(M j).drop (M (j+1)).length⟩)
  (fun j u=>⟨by simpa [afA.mem] using hy j u,fun q hq=>by cases hq;rw[P3];have:=(Do j u).1;omega⟩)
  (fun i j _ _ _ h _=>by
   simp only[List.cons.injEq,AV.int.injEq] at h;have:i=j:=by omega
   rw[this])
 obtain⟨b,V⟩:∃b,ag f265=[b]:=⟨_,rfl⟩
 have loop:∃F:Env->Env,∀Z,(ad Z 0=.yield y/\ad Z 1=.ptr H 0/\ad Z 3=.int .i64 ((n:Int)-1))->
   aT (aU prog) (fun _=>[3]) O (n+1) 19 m0 true (.loop b) ⟨Z,M n,false⟩=some (.exit 0,⟨F Z,M 0,true⟩)/\True:=by
  refine mL rfl false true (fun Z=>ad Z 0=.yield y/\ad Z 1=.ptr H 0/\ad Z 3=.int .i64 ((n:Int)-1)) (fun _ _=>True) ?_;rintro Z ⟨h0,K,h3⟩;simp[ag,aH,f265] at V;have W:au [3] (ab b) Z ((3,.int .i64 ((n:Int)-1))::Z)=au [3] (ab b) Z Z:=by simp[au,h3]
  rw[<-W];have m:(⟨au [3] (ab b) Z ((3,.int .i64 ((n:Int)-1))::Z),M n,false⟩:XS)=⟨au [3] (ab b) Z ((3,.int .i64 ((n:Int)-1))::Z),M n,decide (n<n)⟩:=by simp
  rw[m];refine bW (α:=Nat) (fun k=>⟨au [3] (ab b) Z ((3,.int .i64 ((k:Int)-1))::Z),M k,decide (k<n)⟩) id (fun k=>k<=n) (.exit 0) (M 0) true (fun _=>True) (by simp) ?_ (n+1) n (L9 _) (by simp);intro k hk;clear W m;subst V;cases k with
  |zero=>
   right;simp[hn]
  |succ k=>
   left;have X:k<n:=by omega
   have e1:(((k+1:Nat):Int)-1)=(k:Int):=by omega
   have w1:IntKind.i64.wrap ((k:Int)-1)=(k:Int)-1:=ai;have l1:¬(M k).length<=m0:=by have:=(Do k X).2;omega
   have J:=hs (k+1) (by omega);have r1:=hr (k+1) (by omega);have o1:=S k X;have D:=Q k X;obtain⟨x,hx,C⟩:=fe (l:=A) (i:=k) (by omega);have hg:A.getD k 0=x:=by simp[List.getD,hx]
   rw[hg] at o1;rw[e1];refine⟨k,?_⟩;have aeP :(k:Int)<(n:Int):=by omega
   simp[h0,K,w1,l1,I,J,r1,C,hA,X,o1,-List.all_eq_false];refine⟨fun h=>?_,by omega⟩;exfalso;have:((List.take m0 (M k)).all fun s=>(af6.refs m0 s).isEmpty)=true:=List.all_eq_true.2 fun s hs=>by
    have K:=h s hs;have B:af6.refs m0 s=[]:=by cases s<;>exact K
    rw[B];rfl
   rw[D] at this;cases this
 obtain⟨F,hF⟩:=loop;simp[ag,aH,f265] at V;subst V;have w1:IntKind.i64.wrap ((n:Int)-1)=(n:Int)-1:=ai;have J:=hs n (by omega);have hc:∃AC,aT (aU prog) (fun _=>[3]) O (n+1) f265.ntmps (M n).length true (f265.body.getD .skip) ⟨dV 0 [.yield y,.ptr H 0],M n,false⟩=some (.normal,⟨AC,M 0,true⟩):=by simp[f265,J,w1,I,hF]
 obtain⟨AC,hc⟩:=hc;have z:aa (aU prog) (fun _=>[3]) (aS prog) O (n+1) 265 [.yield y,.ptr H 0] (M n)=some ⟨.tuple [],some (((M 0).take m0).map (af6.ren (rho m0 ks))),agR m0 ks (M 0)⟩:=by have:=Un (T:=aU prog) (G:=aS prog) (v:=.tuple []) hG rfl (by simp[f265]) (.inl rfl) hc rfl (ks:=ks) (by rw[I];simpa [AV.refs,AV.ago] using R) (by rw[I];exact Y);rw[I] at this;simpa [AV.ren,AV.agd] using this
 have B:=(ah ae (al _) hO (ao _) z).1;simpa [afA.mem] using B
end Go.Proofs
