/- See H38. -/
import Derived.Test.YthpgbelancmpjaaGreatDoorH10
import Derived.Shelf.Pu.ParseUintPublic10
import Derived.Ground.MpProg
import Derived.Lib.AppendIntMem
set_option linter.all false
set_option maxRecDepth 100000
set_option maxHeartbeats 40000000
namespace Go.Proofs
open Go.Eng Go.Shelf
open Tryz
def qF:Go.Shelf.Ren:=⟨fun | 14=>252 | 16=>277 | 17=>271 | 19=>295 | 20=>296 | 21=>286 | 22=>287 | 23=>288 | 24=>289 | 25=>299 | 27=>152 | 26=>300 | 28=>233 | 29=>272 | 30=>290 | 31=>291 | 32=>292 | 33=>293 | 35=>302 | 34=>301 | 36=>303 | 37=>304 | 38=>305 | 39=>308 | 40=>309 | n=>n,fun | 9=>9 | 3=>3 | 22=>293 | 24=>272 | 25=>294 | 4=>4 | 34=>321 | 5=>5 | 36=>320 | 37=>298 | 0=>0 | 39=>324 | 21=>21 | 44=>341 | 47=>318 | 50=>353 | 48=>351 | 2=>2 | 52=>327 | 55=>330 | 59=>344 | 60=>336 | 20=>20 | 61=>345 | 65=>355 | 66=>356 | 67=>306 | n=>n,fun | 0=>1 | 1=>2 | 2=>3 | 3=>4 | 4=>5 | n=>n⟩
theorem v8:Go.Proofs.LaysPu.n14 prog qF:={
 mixed:=by kernel_rfl
 f14:=func252.trans (congrArg some (by kernel_rfl))
 f16:=func277.trans (congrArg some (by kernel_rfl))
 f17:=func271.trans (congrArg some (by kernel_rfl))
 f19:=func295.trans (congrArg some (by kernel_rfl))
 f20:=func296.trans (congrArg some (by kernel_rfl))
 f21:=func286.trans (congrArg some (by kernel_rfl))
 f22:=func287.trans (congrArg some (by kernel_rfl))
 f23:=func288.trans (congrArg some (by kernel_rfl))
 f24:=func289.trans (congrArg some (by kernel_rfl))
 f25:=func299.trans (congrArg some (by kernel_rfl))
 f26:=func300.trans (congrArg some (by kernel_rfl))
 f27:=func152.trans (congrArg some (by kernel_rfl))
 f28:=func233.trans (congrArg some (by kernel_rfl))
 f29:=func272.trans (congrArg some (by kernel_rfl))
 f30:=func290.trans (congrArg some (by kernel_rfl))
 f31:=func291.trans (congrArg some (by kernel_rfl))
 f32:=func292.trans (congrArg some (by kernel_rfl))
 f33:=func293.trans (congrArg some (by kernel_rfl))
 f34:=func301.trans (congrArg some (by kernel_rfl))
 f35:=func302.trans (congrArg some (by kernel_rfl))
 f36:=func303.trans (congrArg some (by kernel_rfl))
 f37:=func304.trans (congrArg some (by kernel_rfl))
 f38:=func305.trans (congrArg some (by kernel_rfl))
 f39:=func308.trans (congrArg some (by kernel_rfl))
 f40:=func309.trans (congrArg some (by kernel_rfl))
 t0:=underlying0
 a0:=isAgg0
 z0:=sizeOf0
 v0:=zeroValue0
 i0:=by kernel_rfl
 t2:=underlying2
 a2:=isAgg2
 z2:=sizeOf2
 v2:=zeroValue2
 i2:=by kernel_rfl
 t3:=underlying3
 a3:=isAgg3
 z3:=sizeOf3
 v3:=zeroValue3
 i3:=by kernel_rfl
 t4:=underlying4
 a4:=isAgg4
 z4:=sizeOf4
 v4:=zeroValue4
 i4:=by kernel_rfl
 t5:=underlying5
 a5:=isAgg5
 z5:=sizeOf5
 v5:=zeroValue5
 i5:=by kernel_rfl
 t9:=underlying9
 a9:=isAgg9
 z9:=sizeOf9
 v9:=zeroValue9
 i9:=by kernel_rfl
 t20:=underlying20
 a20:=isAgg20
 z20:=sizeOf20
 v20:=zeroValue20
 i20:=by kernel_rfl
 t21:=underlying21
 a21:=isAgg21
 z21:=sizeOf21
 v21:=zeroValue21
 i21:=by kernel_rfl
 t22:=underlying293
 a22:=isAgg293
 z22:=sizeOf293
 v22:=zeroValue293
 i22:=by kernel_rfl
 t24:=underlying272
 a24:=isAgg272
 z24:=sizeOf272
 v24:=zeroValue272
 i24:=by kernel_rfl
 t25:=underlying294
 a25:=isAgg294
 z25:=sizeOf294
 v25:=zeroValue294
 i25:=by kernel_rfl
 t34:=underlying321
 a34:=isAgg321
 z34:=sizeOf321
 v34:=zeroValue321
 i34:=by kernel_rfl
 c34:=by kernel_rfl
 t36:=underlying320
 a36:=isAgg320
 z36:=sizeOf320
 v36:=zeroValue320
 i36:=by kernel_rfl
 t37:=underlying298
 a37:=isAgg298
 z37:=sizeOf298
 v37:=zeroValue298
 i37:=by kernel_rfl
 t39:=underlying324
 a39:=isAgg324
 z39:=sizeOf324
 v39:=zeroValue324
 i39:=by kernel_rfl
 t44:=underlying341
 a44:=isAgg341
 z44:=sizeOf341
 v44:=zeroValue341
 i44:=by kernel_rfl
 t47:=underlying318
 a47:=isAgg318
 z47:=sizeOf318
 v47:=zeroValue318
 i47:=by kernel_rfl
 t48:=underlying351
 a48:=isAgg351
 z48:=sizeOf351
 v48:=zeroValue351
 i48:=by kernel_rfl
 t50:=underlying353
 a50:=isAgg353
 z50:=sizeOf353
 v50:=zeroValue353
 i50:=by kernel_rfl
 t52:=underlying327
 a52:=isAgg327
 z52:=sizeOf327
 v52:=zeroValue327
 i52:=by kernel_rfl
 t55:=underlying330
 a55:=isAgg330
 z55:=sizeOf330
 v55:=zeroValue330
 i55:=by kernel_rfl
 t59:=underlying344
 a59:=isAgg344
 z59:=sizeOf344
 v59:=zeroValue344
 i59:=by kernel_rfl
 t60:=underlying336
 a60:=isAgg336
 z60:=sizeOf336
 v60:=zeroValue336
 i60:=by kernel_rfl
 t61:=underlying345
 a61:=isAgg345
 z61:=sizeOf345
 t65:=underlying355
 a65:=isAgg355
 z65:=sizeOf355
 v65:=zeroValue355
 i65:=by kernel_rfl
 t66:=underlying356
 a66:=isAgg356
 z66:=sizeOf356
 v66:=zeroValue356
 i66:=by kernel_rfl
 t67:=underlying306
 a67:=isAgg306
 z67:=sizeOf306
 v67:=zeroValue306
 i67:=by kernel_rfl
 g0:=by kernel_rfl
 m0:=by kernel_rfl
 g1:=by kernel_rfl
 m1:=by kernel_rfl
 g2:=by kernel_rfl
 m2:=by kernel_rfl
 g3:=by kernel_rfl
 m3:=by kernel_rfl
 g4:=by kernel_rfl
 m4:=by kernel_rfl }
theorem sz:∀(l:List UInt8) (a:Nat),l.all isD=true->(a+1)*10 ^ l.length<=1000000000000000000->Lib.parseUintM (2 ^ 64-1) a l=.ok (vN a l)
 | [],a,_,_=>by rw[dR];rfl
 |c::r,a,h,hb=>by
  simp only[QQX,Ar] at h;have U:=tW h.1;have Z:48<=c.toNat/\c.toNat<=57:=by have:=h.1;unfold isD at this;simpa using this
  rw[List.length_cons,Nat.pow_succ] at hb;have X:1<=10 ^ r.length:=Nat.one_le_pow _ _ (by omega);have V:(a+1)*(10 ^ r.length*10)=(10*a+10)*10 ^ r.length:=by rw[SP (10 ^ r.length) 10,<-QQk];congr 1;omega
  rw[V] at hb;have S:(10*a+10)*1<=(10*a+10)*10 ^ r.length:=Nat.mul_le_mul_left _ X;have e:a*10+(c.toNat-48)=10*a+(c.toNat-48):=by omega
  unfold Lib.parseUintM;rw[if_pos Z,if_neg (by omega),if_neg (by omega),eR,e];refine sz r _ h.2 (Y2 (QQe _ ?_) hb);omega
theorem Bo(s:List UInt8)(hs:s≠[])(hd:s.all isD=true)(H:s.length<=18)(mem:Mem):bz prog 252 [.str s,.int .i64 10,.int .i64 64] mem (.tuple [.int .u64 (eP s:Nat),.nilIface]) mem:=
 bz.aga (ic _ func252 (by kernel_rfl) (by kernel_rfl)) (Vs:=[.string ⟨s.toArray⟩,.int .i64 10,.int .i64 64]) (fun μ n Us h=>by simpa [afy,afx] using h) (V:=.tuple #[.int .u64 (eP s:Nat),.nilIface]) (fun μ n=>by simp only[afx,afy];exact⟨_,rfl,_,_,rfl,rfl,_,_,rfl,rfl,rfl⟩)
  (fun Z w X=>(Any.strconv_ParseUint_10_at64_ok v8 ⟨s.toArray⟩ (by simp[ByteArray.size];omega) (eP s) (by have U:10 ^ s.length<=10 ^ 18:=L9 (by omega) H;have:=sz s 0 hd (by omega);simp only[Lib.parseUintB];rw[if_neg (by simpa using hs)];exact this) w).mono fun e w' ⟨h1,h2⟩=>⟨h1,by rcases h2 with rfl | rfl;exact afZ.refl _;exact nV _ _ _⟩) mem
end Go.Proofs
namespace Go.Proofs
open Go.Eng Go.Shelf Go.RowKit Go.Sort
open Tryz
def qE:Go.Shelf.Ren:=⟨fun | 284=>291 | 129=>302 | 317=>301 | 318=>303 | n=>n,fun | 53=>293 | 3=>3 | 212=>344 | 0=>0 | 4=>4 | 46=>320 | 5=>5 | 9=>9 | n=>n,fun | 17=>3 | n=>n⟩
theorem v7:Go.Proofs.LaysM.n284 prog qE:={
 mixed:=by kernel_rfl
 f129:=func302.trans (congrArg some (by kernel_rfl))
 f284:=func291.trans (congrArg some (by kernel_rfl))
 f317:=func301.trans (congrArg some (by kernel_rfl))
 f318:=func303.trans (congrArg some (by kernel_rfl))
 t0:=underlying0
 a0:=isAgg0
 z0:=sizeOf0
 v0:=zeroValue0
 t3:=underlying3
 a3:=isAgg3
 z3:=sizeOf3
 v3:=zeroValue3
 t4:=underlying4
 a4:=isAgg4
 z4:=sizeOf4
 v4:=zeroValue4
 t5:=underlying5
 a5:=isAgg5
 z5:=sizeOf5
 v5:=zeroValue5
 t9:=underlying9
 a9:=isAgg9
 z9:=sizeOf9
 v9:=zeroValue9
 t46:=underlying320
 a46:=isAgg320
 z46:=sizeOf320
 v46:=zeroValue320
 t53:=underlying293
 a53:=isAgg293
 z53:=sizeOf293
 v53:=zeroValue293
 t212:=underlying344
 a212:=isAgg344
 z212:=sizeOf344
 v212:=zeroValue344
 g17:=by kernel_rfl
 i0:=by kernel_rfl
 i3:=by kernel_rfl
 i4:=by kernel_rfl
 i5:=by kernel_rfl
 i9:=by kernel_rfl
 i46:=by kernel_rfl
 i53:=by kernel_rfl
 i212:=by kernel_rfl
 m17:=by kernel_rfl }
def nr:Go.Shelf.Ren:=⟨fun | 285=>292 | n=>n,fun | 37=>298 | 53=>293 | 3=>3 | 4=>4 | 51=>336 | 9=>9 | 5=>5 | 0=>0 | n=>n,fun | n=>n⟩
theorem rC:Go.Proofs.Lays.n285 prog nr:={
 mixed:=by kernel_rfl
 f285:=func292.trans (congrArg some (by kernel_rfl))
 t0:=underlying0
 a0:=isAgg0
 z0:=sizeOf0
 v0:=zeroValue0
 t3:=underlying3
 a3:=isAgg3
 z3:=sizeOf3
 v3:=zeroValue3
 t4:=underlying4
 a4:=isAgg4
 z4:=sizeOf4
 v4:=zeroValue4
 t5:=underlying5
 a5:=isAgg5
 z5:=sizeOf5
 v5:=zeroValue5
 t9:=underlying9
 a9:=isAgg9
 z9:=sizeOf9
 v9:=zeroValue9
 t37:=underlying298
 a37:=isAgg298
 z37:=sizeOf298
 v37:=zeroValue298
 t51:=underlying336
 a51:=isAgg336
 z51:=sizeOf336
 v51:=zeroValue336
 t53:=underlying293
 a53:=isAgg293
 z53:=sizeOf293
 v53:=zeroValue293 }
def rD:Go.Shelf.Ren:=⟨fun | 283=>290 | n=>n,fun | 3=>3 | 9=>9 | 4=>4 | n=>n,fun | n=>n⟩
theorem ya:Go.Proofs.Lays.n283 prog rD:={
 mixed:=by kernel_rfl
 f283:=func290.trans (congrArg some (by kernel_rfl))
 t3:=underlying3
 a3:=isAgg3
 z3:=sizeOf3
 v3:=zeroValue3
 t4:=underlying4
 a4:=isAgg4
 z4:=sizeOf4
 v4:=zeroValue4
 t9:=underlying9
 a9:=isAgg9
 z9:=sizeOf9
 v9:=zeroValue9 }
section
variable (u:Nat)(acp:u<18446744073709551616)(w:World)(ade:∀s,yE=s->Lib.TabIs prog w s .u64 Lib.pow10Tab)
include u acp w ade
theorem nW:
  Calls prog 280 #[.int .u64 u,.int .i64 10] w fun e w' =>e=.returned (.string ⟨(Lib.decDigits u).toArray⟩)/\∃k S,w' =grow (w.drewN k) S:=by
 by_cases O:u<100
 .go_enter func280,ntmps280
  go_wp2_with (go_at_call 290;refine(Any.internal_strconv_small ya u O _).mono ?_;rintro e w' ⟨rfl,rfl⟩)
  go_ret
  exact⟨rfl,0,#[],by simp[World.drewN_zero]⟩
 .have X:1<=u:=by omega
  have N:Lib.nDigits u<=20:=by have:=Lib.numDigits_eq u X acp;split at this<;>omega
  have V:prog.arrayLen 327=24:=by kernel_rfl
  have M:∀W,(Instr.sliceAt 327 (.pointer (some ⟨w.heap.size,0,none⟩)) none (some (.int .i64 (Lib.nDigits u:Int))) none).run prog W=.ok (.slice (some ⟨w.heap.size,0,none⟩) (Lib.nDigits u) 24) W:=fun W=>by
   rw[run_sliceAt_array_h W 327 ⟨w.heap.size,0,none⟩ (by kernel_rfl) .i64 (Lib.nDigits u:Int) (by omega) (by rw[V];omega)]
   go_simp
  have Z:=Lib.holds_zero0 w 327 (Lib.nDigits u) (by omega);have U:=Any.internal_strconv_formatBase10 rC w.heap.size 0 24 u (Array.replicate (Lib.nDigits u) 0) (w.alloc (.cells Lib.zeros24 327)) Z (by rw[Array.size_replicate];exact Lib.lt_pow_nDigits u) acp (by rw[Array.size_replicate];omega);rw[Array.size_replicate] at U;have R:=Lib.hid Z;clear Z V
  go_enter func280,ntmps280
  go_wp2_with (first
   |(go_at_call 291;refine(Any.internal_strconv_numDigits v7 u X acp _ (Lib.tabIs_alloc (ade _ (by kernel_rfl)) _)).mono ?_;rintro e w' ⟨rfl,rfl⟩))
  go_at_call 292
  refine U.mono ?_;rintro e w' ⟨rfl,k,v',dk,rfl,hF⟩;have K:(convert 298 9 (.slice (some ⟨w.heap.size,0,none⟩) (Lib.nDigits u) 24)).run prog ((putRow (fun(b:UInt8)=>Value.int .u8 (b.toNat:Int)) (w.alloc (.cells Lib.zeros24 327)) w.heap.size 0 dk).drewN k)=.ok (.string ⟨(Lib.decDigits u).toArray⟩) ((putRow (fun(b:UInt8)=>Value.int .u8 (b.toNat:Int)) (w.alloc (.cells Lib.zeros24 327)) w.heap.size 0 dk).drewN k):=by
   have h:=run_convert_bytes_back (P:=prog) ((putRow (fun(b:UInt8)=>Value.int .u8 (b.toNat:Int)) (w.alloc (.cells Lib.zeros24 327)) w.heap.size 0 dk).drewN k) 298 9 5 ⟨w.heap.size,0,none⟩ 24 (Lib.decDigits u) (by kernel_rfl) (by kernel_rfl) (by kernel_rfl) (fun j Q=>by rw[Lib.row_is_numeral hF j Q,Lib.add_plain,World.cell?_drewN];exact cell?_putRow (fun(b:UInt8)=>Value.int .u8 (b.toNat:Int)) _ w.heap.size 0 _ dk R.out (by rw[hF.size,Array.size_replicate]) j (by rw[hF.size];rw[Lib.decDigits_length] at Q;exact Q))
   rw[Lib.decDigits_length] at h;exact h
  go_wp2
  go_ret
  obtain⟨S,G⟩:=Lib.fin_at w (.cells Lib.zeros24 327) dk k 0;exact⟨rfl,k,S,G⟩
theorem pN:
  Calls prog 256 #[.int .u64 u,.int .i64 10] w fun e w' =>e=.returned (.string ⟨(Lib.decDigits u).toArray⟩)/\∃k Z,w' =grow (w.drewN k) Z:=by
 go_enter func256,ntmps256
 go_wp2_with (go_at_call 280;refine(nW u acp _ ade).mono ?_;rintro e w' ⟨rfl,hw⟩)
 go_ret
 exact⟨rfl,hw⟩
end
theorem zO(u:Nat)(H:u<18446744073709551616)(mem:Mem):bz prog 256 [.int .u64 u,.int .i64 10] mem (.str (aj u)) mem:=
 bz.aga (ic _ func256 (by kernel_rfl) (by kernel_rfl)) (Vs:=[.int .u64 u,.int .i64 10]) (fun μ n Us h=>by simpa [afy,afx] using h) (V:=.string ⟨(aj u).toArray⟩) (fun μ n=>by simp[afx])
  (fun Z w X=>(pN u H w fun _ U=>X.ahC U).mono fun e w' ⟨h1,k,os,h2⟩=>⟨by rw[h1,vt],h2▸afZ.grow w k os⟩) mem
end Go.Proofs
namespace Go.Eng
def nw:Nat->List UInt8->List Nat
 |0,_=>[]
 |f+1,s=>if s=[] then [] else eP (s.drop (s.length-9))::nw f (s.take (s.length-9))
def iH(s:List UInt8):List Nat:=nw s.length s
theorem Ff:∀(f g:Nat) (s:List UInt8),s.length<=f->s.length<=g->nw f s=nw g s
 |0,0,s,_,_=>rfl
 |0,g+1,s,h,_=>by have:s=[]:=GT (by omega);subst this;simp[nw]
 |f+1,0,s,_,h=>by have:s=[]:=GT (by omega);subst this;simp[nw]
 |f+1,g+1,s,h1,h2=>by
  unfold nw;by_cases Z:s=[]
  .simp[Z]
  .have:0<s.length:=List.length_pos_iff.2 Z
   rw[if_neg Z,if_neg Z,Ff f g (s.take (s.length-9)) (by simp;omega) (by simp;omega)]
theorem Q8:iH []=[]:=rfl
variable{s:List UInt8}
theorem yw(h:s≠[]):iH s=eP (s.drop (s.length-9))::iH (s.take (s.length-9)):=by
 have X:0<s.length:=List.length_pos_iff.2 h;unfold iH;obtain⟨f,Z⟩:∃f,s.length=f+1:=⟨s.length-1,by omega⟩
 have e:nw s.length s=nw (f+1) s:=by rw[Z]
 rw[e,nw,if_neg h];congr 1;exact Ff _ _ _ (by simp;omega) (by simp)
theorem RO(l:List UInt8)(a:Nat):vN a l=a*10 ^ l.length+eP l:=by
 induction l generalizing a with
 |nil=>unfold eP;rw[dR,dR];simp
 |cons c r ih=>
  unfold eP;rw[eR,eR,ih,ih (10*0+_),List.length_cons,Nat.pow_succ];generalize 10 ^ r.length=p;have:(10*a+(c.toNat-48))*p=a*(p*10)+(c.toNat-48)*p:=by rw[Nat.add_mul,SP 10 a,QQk,SP 10 p]
  rw[this,Nat.mul_zero,QQY];omega
theorem vI(l r:List UInt8):eP (l++r)=eP l*10 ^ r.length+eP r:=by unfold eP;rw[vJ,RO];rfl
theorem DM{l:List UInt8}(h:l.all isD=true):eP l<10 ^ l.length:=by have:=vK l 0 h;unfold eP;omega
section
variable (h:s.all isD=true)
include h
theorem AK(k:Nat):(s.drop k).all isD=true:=by rw[List.all_eq_true] at h |-;exact fun c Z=>h c (List.mem_of_mem_drop Z)
theorem pR(k:Nat):(s.take k).all isD=true:=by rw[List.all_eq_true] at h |-;exact fun c Z=>h c (List.mem_of_mem_take Z)
theorem OD:eP (s.drop (s.length-9))<1000000000:=by
 have X:=DM (AK h (s.length-9));have Z:(s.drop (s.length-9)).length<=9:=by simp;omega
 have h3:10 ^ (s.drop (s.length-9)).length<=10 ^ 9:=L9 (by omega) Z;omega
end
theorem lW:∀(n:Nat) (s:List UInt8),s.length<=n->s.all isD=true->lok 1000000000 (iH s)=true/\aq 1000000000 (iH s)=eP s/\(iH s).length<=s.length
 |0,s,hn,_=>by have:s=[]:=GT (by omega);subst this;exact⟨rfl,by unfold eP;rw[dR];rfl,Es _⟩
 |n+1,s,hn,h=>by
  by_cases Z:s=[]
  .subst Z;exact⟨rfl,by unfold eP;rw[dR];rfl,Es _⟩
  .have S:0<s.length:=List.length_pos_iff.2 Z
   rw[yw Z];obtain⟨X,V,R⟩:=lW n (s.take (s.length-9)) (by simp;omega) (pR h _);have U:eP s=eP (s.take (s.length-9))*10 ^ (s.drop (s.length-9)).length+eP (s.drop (s.length-9)):=by
    conv=>lhs;rw[<-List.take_append_drop (s.length-9) s]
    exact vI _ _
   refine⟨?_,?_,?_⟩
   .rw[di,X];simp[OD h]
   .rw[aq,V,U]
    by_cases Q:s.length<=9
    .have e:s.length-9=0:=by omega
     rw[e,List.take_zero];have:eP []=0:=by unfold eP;rw[dR]
     rw[this];omega
    .have e:(s.drop (s.length-9)).length=9:=by simp;omega
     rw[e];omega
   .rw[List.length_cons]
    have:(s.take (s.length-9)).length=s.length-9:=by simp
    omega
end Go.Eng
