/- See Q54. -/
import Derived.Test.YtgafjliihahjgaaGreatDoorQ20
set_option linter.all false
namespace Go.Proofs
open Go.Eng
noncomputable def cC(f:FuncId) (args:List AV):Option AV:=
 match f,args with
 |34,[.int .i64 n,.int .i64 d]=>if 0<d∧n.natAbs<10 ^ 8∧d.toNat<10 ^ 8 then some (.str (ah (mkRat n d.toNat))) else none
 |81,[.str s,.str t]=>match cV s,cV t with
  |some a,some b=>if (ah a).length≤9∧(ah b).length≤9 then some (.str (ah (a+b))) else none
  |_,_=>none
 |44,[.int .i64 n]=>if n.natAbs<10 ^ 8 then some (.str (zS n)) else none
 |_,_=>none
theorem yb:OracleOk Tryz.prog (af cC):=bq fun f args v h mem=>by
 unfold cC at h;split at h
 ·rename_i n d
  split at h
  ·rename_i hc
   cases h;have:=Ep n d.toNat (by omega) hc.2.1 hc.2.2 mem;rw[Int.toNat_of_nonneg (by omega)] at this;exact this
  ·cases h
 ·split at h
  ·rename_i m n hm hn
   split at h
   ·rename_i hc;cases h;rw[au hm,au hn];exact AJ m n hc.1 hc.2 mem
   ·cases h
  ·cases h
 ·split at h
  ·rename_i hc;cases h;exact D9 _ hc mem
  ·cases h
 ·cases h
def eS:List AV:=[.str [65],.str [66],.str [67],.str [68],.str [69],.str [70]]
theorem Ee:ACallsTo Tryz.prog 80 [] [] (.slice 0 0 6 none) [.cells true 1 eS]:=by
 have hG:aL Tryz.prog 80=some Tryz.f80:=by kernel_rfl
 have h:aa (aM Tryz.prog) (fun _=>[]) (aL Tryz.prog) bJ 1 80 [] []=some ⟨.slice 0 0 6 none,none,[.cells true 1 eS]⟩:=by simp[aa,hG,Tryz.f80,eS]
 have:=(al ae (aw _) (ao _) (az _) h).1;simpa [CallRes.mem] using this
theorem IP(M:Mem):ACallsTo Tryz.prog 80 [] M (.slice M.length 0 6 none) (M++[.cells true 1 eS]):=by have:=ACallsTo.frame (M:=M) (new:=[.cells true 1 eS]) (args:=[]) [] (m:=[]) rfl (by simp) (by rfl) (fun i s hs=>by simp at hs) rfl Ee;simpa [AV.ren,AV.rens,ar,Slot.ren,eS] using this
noncomputable def dv:Oracle:=fun c args M=>match c,args with
 |.fn 80,[]=>some ⟨.slice M.length 0 6 none,none,[.cells true 1 eS]⟩
 |c,args=>af cC c args M
theorem qm:OracleOk Tryz.prog dv:=by
 refine cO fun c args M r h=>?_
 unfold dv at h;split at h
 ·cases h;exact ag (IP M)
 ·exact iu yb h
def TT(d:Deed) (n k:Nat) (u:List UInt8) (x:AV):Mem:=
 [.absent,.absent,.cells true 0 [.slice 0 0 n none,.slice 1 0 k none],.cells true 0 d.cells,.cells true 0 [.nilslice,.nilslice,.nilslice],.cells true 1 eS,.cells true 1 [.str u],.cells true 0 [x,.slice 6 0 1 none,.nilslice]]
def Aw(d:Deed) (n k:Nat) (u:List UInt8) (j:Nat):Mem:=if j=0 then TT d n k u .nilslice else TT d n k u (.slice 8 0 j none)++[.cells true 1 (qC (qH (bo d j)))]
theorem fV(d:Deed) (n:Nat):AV.refsL n d.cells=[]:=rfl
theorem Hr(d:Deed) (f:Nat→Bool):AV.refsOkL f d.cells=true:=rfl
theorem Bd(d:Deed) (f:Nat→Option Nat):AV.rens f d.cells=d.cells:=rfl
theorem u6(d:Deed):d.cells.length=12:=rfl
theorem Q7(d:Deed):d.cells[7]? =some (.int .i8 d.N):=rfl
theorem oq{d:Deed}{n k:Nat}{u:List UInt8}{j:Nat}(h:0<j):Aw d n k u j=[.absent,.absent,.cells true 0 [.slice 0 0 n none,.slice 1 0 k none],.cells true 0 d.cells,.cells true 0 [.nilslice,.nilslice,.nilslice],.cells true 1 eS,.cells true 1 [.str u],.cells true 0 [.slice 8 0 j none,.slice 6 0 1 none,.nilslice],.cells true 1 (qC (qH (bo d j)))]:=by unfold Aw;rw[if_neg (by omega)];rfl
def eA(c:Code):List Nat:=if (ad c).contains 24 then [24,24] else if (ad c).contains 54 then [9,9,54] else [11,59]
theorem M9(d:Deed) (j:Nat) (hj:j<3):d.cells[1+j]? =some (.int .i8 (RS d.A j)):=by
 have:j=0∨j=1∨j=2:=by omega
 rcases this with rfl | rfl | rfl<;>rfl
theorem Sq{v:Int×Int×Int}(h:Re v) (j:Nat):xh (RS v j):=by
 unfold RS;split
 ·exact h.1
 ·split
  ·exact h.2.1
  ·exact h.2.2
theorem xa{d:Deed}(k:Nat):(JK d k).natAbs≤8:=by have h1:=lQ d.N 4 (by decide);have h2:=lQ (RS d.A (k%3)) 3 (by decide);unfold JK;simp only[Int.cast_ofNat_Int] at h1 h2;omega
set_option maxRecDepth 8192 in
set_option maxHeartbeats 12800000 in
theorem kM{K:Nat}(d:Deed) (hd:d.Ok) (n k:Nat) (u:List UInt8) (hl:n≤1000) (hK:n<K) {b b2 b3:Code}(hb:ax Tryz.f47=[b,b2,b3]):
  ∃F:Env→Env,∀env0,(ab env0 4=.ptr 3 0∧ab env0 7=.ptr 7 0∧ab env0 23=.int .i64 n∧ab env0 24=.int .i64 0∧ab env0 6=.ptr 4 0)→
   aT (aM Tryz.prog) eA dv K 102 2 true (.loop b) ⟨env0,Aw d n k u 0,false⟩=some (.exit 0,⟨F env0,Aw d n k u n,decide (0<n)⟩)∧ab (F env0) 4=.ptr 3 0∧ab (F env0) 7=.ptr 7 0∧ab (F env0) 6=.ptr 4 0∧ab (F env0) 2=ab env0 2:=by
 refine rm (L:=[24,24]) (by simp[ax,aV,Tryz.f47] at hb;rw[←hb.1];rfl) false _ (fun env0=>ab env0 4=.ptr 3 0∧ab env0 7=.ptr 7 0∧ab env0 23=.int .i64 n∧ab env0 24=.int .i64 0∧ab env0 6=.ptr 4 0) (fun env0 env' =>ab env' 4=.ptr 3 0∧ab env' 7=.ptr 7 0∧ab env' 6=.ptr 4 0∧ab env' 2=ab env0 2) ?_;rintro env0 ⟨h4,h7,h23,h24,h6⟩;obtain⟨os,hops⟩:∃os,aE Tryz.f47=os:=⟨_,rfl⟩
 have hbs:=br hops (ls:=[[0,1,0,4,12,28,60,0,128,0,896,1920,3968,8064,16380,32764,65532,131071,262143,524287],[0,1,0,0,12,28,0,64,196,508,1020,2047,4095,8191]]) (by kernel_rfl);have k16:oh [0,1,0,4,12,28,60,0,128,0,896,1920,3968,8064,16380,32764,65532,131071,262143,524287] 20 16=true:=by decide
 have k17:oh [0,1,0,4,12,28,60,0,128,0,896,1920,3968,8064,16380,32764,65532,131071,262143,524287] 20 17=true:=by decide
 have k19:oh [0,1,0,4,12,28,60,0,128,0,896,1920,3968,8064,16380,32764,65532,131071,262143,524287] 20 19=true:=by decide
 have j17:aN [0,1,0,4,12,28,60,0,128,0,896,1920,3968,8064,16380,32764,65532,131071,262143,524287] 17=true:=by decide
 have j19:aN [0,1,0,4,12,28,60,0,128,0,896,1920,3968,8064,16380,32764,65532,131071,262143,524287] 19=true:=by decide
 simp only[aE,bC,Tryz.f47,List.nil_append,List.append_nil,List.cons_append] at hops;subst hops;simp only[List.map_cons,List.map_nil,List.cons.injEq,and_true] at hbs;obtain⟨hb1,-⟩:=hbs;simp[ax,aV,Tryz.f47] at hb;obtain⟨hb,-⟩:=hb;have hn0:aI [24,24] (ad b) env0 ((24,.int .i64 ((0:Nat):Int))::env0)=aI [24,24] (ad b) env0 env0:=by simp[aI,h24]
 rw[←hn0];have hm1:(Aw d n k u 0).length=8:=rfl;refine cG (α:=Nat) (fun j=>⟨aI [24,24] (ad b) env0 ((24,.int .i64 (j:Int))::env0),Aw d n k u j,decide (0<j)⟩) (fun j=>n-j) (fun j=>j≤n) (.exit 0) _ _ _ (by simp) ?_ K 0 (by omega) (by omega);intro j hn1;clear hn0;subst hb;by_cases hlt:j<n
 ·left
  have q1:=M9 d (j%3) (Nat.mod_lt _ (by decide));have q2:=Sq hd.A (j%3);have q3:=lQ d.N 4 (by decide);have q4:=lQ (RS d.A (j%3)) 3 (by decide);simp only[Int.cast_ofNat_Int] at q3 q4;have hbz:=xa (d:=d) j;have hbs:=MK d j;have hz:JK d j=2*d.N.tmod 4+(RS d.A (j%3)).tmod 3:=rfl;obtain⟨X,hX⟩:∃x,x=RS d.A (j%3):=⟨_,rfl⟩
  rw[←hX] at q1 q2 q4 hz;obtain⟨x,hx⟩:∃y,y=X.tmod 3:=⟨_,rfl⟩
  obtain⟨y,hy⟩:∃y,y=d.N.tmod 4:=⟨_,rfl⟩
  rw[←hx] at q4 hz;rw[←hy] at q3 hz;have hadd:=SU y x;rw[←hz] at hadd;have l1:=eW (n:=y) (by omega);have l2:=yW (z:=x) (by omega);have hN:=hd.N;unfold xh at q2 hN;have wX:IntKind.i64.wrap X=X:=bF (by omega) (by omega);have wN:IntKind.i64.wrap d.N=d.N:=bF (by omega) (by omega);have g1:x.natAbs<100000000:=by omega
  have g2:y.natAbs<100000000:=by omega
  have t3:(j:Int).tmod 3=((j%3:Nat):Int):=rfl;have hj3:j%3<3:=Nat.mod_lt _ (by decide);obtain⟨r,hr⟩:∃r,r=j%3:=⟨_,rfl⟩
  rw[←hr] at t3 hj3 q1;have hp:=fX y;have w1:IntKind.i64.wrap ((j:Int)+1)=((j+1:Nat):Int):=by rw[aj (by omega) (by omega)];omega
  obtain⟨m,hm⟩:∃m,m=j+1:=⟨_,rfl⟩
  rw[←hm] at w1 hbs;refine⟨m,?_⟩;have hmp:0<m:=by omega
  rw[oq hmp];have hsimp:qC (qH (bo d m))=qC (qH (bo d j))++[.str (ah (hQ (JK d j)))]:=by rw[hbs];simp[qH,qC]
  have hQl:(qC (qH (bo d j))).length=j:=by rw[H0];simp[qH,da]
  have hx2:cV (ah (mkRat x 2))=some (hQ x):=ay _;have l2' :(ah (mkRat x 2)).length≤9:=l2;have eQ:mkRat x 2=hQ x:=rfl;rw[hsimp];have hN7:=Q7 d;by_cases hj0:j=0
  ·subst hj0
   have hm0:m=1:=by omega
   have w0:IntKind.i64.wrap 1=1:=rfl;have hr0:r=0:=by omega
   subst hr0;have e0:Aw d n k u 0=[.absent,.absent,.cells true 0 [.slice 0 0 n none,.slice 1 0 k none],.cells true 0 d.cells,.cells true 0 [.nilslice,.nilslice,.nilslice],.cells true 1 eS,.cells true 1 [.str u],.cells true 0 [.nilslice,.slice 6 0 1 none,.nilslice]]:=rfl;have b0:qC (qH (bo d 0))=[]:=rfl;simp only[Nat.add_zero] at q1;rw[b0,e0,hm0];simp[h4,h7,h23,hlt,hN7,q1,fV,Bd,eS,wX,wN,w0,←hx,←hy,zS,l1,l2,eQ,hadd,g1,g2,ay,dv,af,cC,-aD,ir hb1,jf,oC,vg,cj,k16,k17,k19,j17,j19,Nat.testBit];omega
  ·have hpos:0<j:=by omega
   have hd1:decide (0<j)=true:=by simpa using hpos
   rw[oq hpos,hd1];obtain⟨Q,hQ0⟩:∃Q,Q=qH (bo d j):=⟨_,rfl⟩
   rw[←hQ0] at hQl ⊢;have g3:(qC Q).take j=qC Q:=List.take_of_length_le (by omega);have g4:m*16≤140737488355328:=by omega
   have g5:m≤140737488355328:=by omega
   have hj3' :(r:Int)<3:=by omega
   have hmd:decide (0<m)=true:=by simpa using hmp
   simp[h4,h7,h23,hlt,hN7,q1,hj3',hm1,t3,fV,Bd,eS,wX,wN,w1,←hx,←hy,←hm,zS,l1,l2,eQ,hadd,g1,g2,g3,g4,g5,hQl,hmd,ay,fm,dL,H2,dv,af,cC,-aD,ir hb1,jf,oC,vg,cj,k16,k17,k19,j17,j19,Nat.testBit];omega
 ·right
  have e:j=n:=by omega
  subst e;simp[h4,h7,h6,h23]
theorem uC(d:Deed) (j:Nat) (hj:j<4):d.cells[8+j]? =some (.int .u8 (HT d.K j:Nat)):=by
 have:j=0∨j=1∨j=2∨j=3:=by omega
 rcases this with rfl | rfl | rfl | rfl<;>rfl
theorem Ka{v:Nat×Nat×Nat×Nat}(h:Tk v) (j:Nat):HT v j<256:=by
 unfold HT;split
 ·exact h.1
 ·split
  ·exact h.2.1
  ·split
   ·exact h.2.2.1
   ·exact h.2.2.2
def iz(Z:List Int):Slot:=.cells true 1 (qC (qH Z))
def Ax(d:Deed) (n k:Nat) (u:List UInt8) (L:List Int):Mem:=
 [.absent,.absent,.cells true 0 [.slice 0 0 n none,.slice 1 0 k none],.cells true 0 d.cells,.cells true 0 [.nilslice,.nilslice,.nilslice],.cells true 1 eS,.cells true 1 [.str u],.cells true 0 [.slice 8 0 n none,.slice 6 0 1 none,.nilslice],.cells true 1 (qC (qH L))]
def C9(d:Deed) (n k:Nat) (u u2:List UInt8) (L0 L:List Int):Mem:=
 [.absent,.absent,.cells true 0 [.slice 0 0 n none,.slice 1 0 k none],.cells true 0 d.cells,.cells true 0 [.nilslice,.nilslice,.nilslice],.cells true 1 eS,.absent,.cells true 0 [.slice 8 0 n none,.slice 10 0 2 none,.slice 11 0 1 none],.cells true 1 (qC (qH L0)),.cells true 1 (qC (qH L)),.cells true 1 [.str u,.str u2],.cells true 1 [.slice 9 0 n none]]
theorem Tb{L:List Int}{k:Nat}(h:k<L.length):(qC (qH L))[k]? =some (.str (ah (hQ (L.getD k 0)))):=by
 have h1:L[k]? =some (L.getD k 0):=by rw[List.getD_eq_getElem?_getD,List.getElem?_eq_getElem h];rfl
 exact Ta (by simp only[qH,List.getElem?_map,h1];rfl)
theorem K5(L:List Int):(qC (qH L)).length=L.length:=by rw[H0];simp[qH]
def Bn(k:Nat):AV:=if k=0 then .nilslice else .slice 9 0 k none
def Bl(d:Deed) (n k:Nat) (u:List UInt8) (L:List Int) (i:Nat):Mem:=if i=0 then Ax d n k u L else Ax d n k u L++[.cells true 1 (qC (qH (bU d 0 L i)))]
set_option maxRecDepth 8192 in
set_option maxHeartbeats 12800000 in
theorem uV{K:Nat}(d:Deed) (hd:d.Ok) (n k:Nat) (u:List UInt8) (L:List Int) (hL:L.length=n) (hb9:∀z∈L,z.natAbs≤100) (hn0:0<n) (hl:n≤1000) (hK:n<K) {b b2 b3:Code}(hb:ax Tryz.f47=[b2,b3,b]):
  ∃F:Env→Bool→Env,∀env0 df,(ab env0 4=.ptr 3 0∧ab env0 57=.slice 8 0 n none∧ab env0 58=.int .i64 n∧ab env0 59=.int .i64 0∧ab env0 10=.int .i64 0∧ab env0 11=.nilslice)→
   aT (aM Tryz.prog) eA dv K 102 2 true (.loop b) ⟨env0,Ax d n k u L,df⟩=some (.exit 4,⟨F env0 df,Ax d n k u L++[.cells true 1 (qC (qH (bU d 0 L n)))],df⟩)∧ab (F env0 df) 11=.slice 9 0 n none∧
    (∀t,t∈[2,4,6,7,9,10,53,54]→ab (F env0 df) t=ab env0 t):=by
 refine cg (L:=[11,59]) (by simp[ax,aV,Tryz.f47] at hb;rw[←hb.2.2];rfl) (fun env0=>ab env0 4=.ptr 3 0∧ab env0 57=.slice 8 0 n none∧ab env0 58=.int .i64 n∧ab env0 59=.int .i64 0∧ab env0 10=.int .i64 0∧ab env0 11=.nilslice) (fun env0 env' =>ab env' 11=.slice 9 0 n none∧(∀t,t∈[2,4,6,7,9,10,53,54]→ab env' t=ab env0 t)) ?_;rintro env0 df ⟨h4,h57,h58,h59,h10,h11⟩;simp[ax,aV,Tryz.f47] at hb;obtain⟨-,-,hb⟩:=hb;have hnE:aI [11,59] (ad b) env0 ((11,Bn 0)::(59,.int .i64 ((0:Nat):Int))::env0)=aI [11,59] (ad b) env0 env0:=by simp[aI,h59,h11,Bn]
 rw[←hnE];have hm1:(Ax d n k u L).length=9:=rfl;have hfin:Ax d n k u L++[.cells true 1 (qC (qH (bU d 0 L n)))]=Bl d n k u L n:=by unfold Bl;rw[if_neg (by omega)]
 rw[hfin];refine cG (α:=Nat) (fun i=>⟨aI [11,59] (ad b) env0 ((11,Bn i)::(59,.int .i64 (i:Int))::env0),Bl d n k u L i,df⟩) (fun i=>n-i) (fun i=>i≤n) (.exit 4) _ df _ (by simp) ?_ K 0 (by omega) (by omega);intro i hi;clear hnE hfin;subst hb;by_cases hlt:i<n
 ·left
  have hr4:(0+i)%4<4:=Nat.mod_lt _ (by decide);have q1:=uC d ((0+i)%4) hr4;have q2:=Ka hd.K ((0+i)%4);have hs:=BJ d 0 L i;have hz:Ie d 0 i=((HT d.K ((0+i)%4)%4:Nat):Int):=rfl;have t4:(((0+i:Nat):Int)).tmod 4=(((0+i)%4:Nat):Int):=rfl;obtain⟨v,hv⟩:∃v,v=0+i:=⟨_,rfl⟩
  rw[←hv] at hr4 q1 q2 hz t4;obtain⟨r,hr⟩:∃r,r=v%4:=⟨_,rfl⟩
  rw[←hr] at hr4 q1 q2 hz t4;obtain⟨X,hX⟩:∃X,X=HT d.K r:=⟨_,rfl⟩
  rw[←hX] at q1 q2 hz;have t5:(X:Int).tmod 4=((X%4:Nat):Int):=rfl;have hx4:X%4<4:=Nat.mod_lt _ (by decide);obtain⟨x,hx⟩:∃x,x=X%4:=⟨_,rfl⟩
  rw[←hx] at t5 hx4 hz;have k1:=Tb (L:=L) (k:=i) (by omega);have hzl:(L.getD i 0).natAbs≤100:=by
   have:L.getD i 0∈L:=by rw[List.getD_eq_getElem?_getD,List.getElem?_eq_getElem (by omega)];exact List.getElem_mem _
   exact hb9 _ this
  obtain⟨z,hzz⟩:∃z,z=L.getD i 0:=⟨_,rfl⟩
  rw[←hzz] at k1 hzl hs;rw[hz] at hs;have hadd:=RN z (x:Int);have l1:=yW (z:=z) (by omega);have l2:=yW (z:=(x:Int)) (by omega);have g1:x<100000000:=by omega
  have hn' :=K5 L;have k1' :∀h,(qC (qH L))[i]'h=.str (ah (hQ z)):=fun h=>by rw[List.getElem?_eq_getElem h] at k1;exact Option.some.inj k1
  rw[hL] at hn';have hr4' :(r:Int)<4:=by omega
  have eQ:mkRat (x:Int) 2=hQ (x:Int):=rfl;have w1:IntKind.i64.wrap ((i:Int)+1)=((i+1:Nat):Int):=by rw[aj (by omega) (by omega)];omega
  have w2:IntKind.i64.wrap ((i:Int))=(v:Int):=by rw[aj (by omega) (by omega)];omega
  have w3:IntKind.i64.wrap (x:Int)=(x:Int):=bF (by omega) (by omega);obtain⟨m,hm⟩:∃m,m=i+1:=⟨_,rfl⟩
  rw[←hm] at w1 hs;refine⟨m,?_⟩;have hmp:¬m=0:=by omega
  have hsimp:qC (qH (bU d 0 L m))=qC (qH (bU d 0 L i))++[.str (ah (hQ (z+(x:Int))))]:=by rw[hs];simp[qH,qC]
  by_cases hi0:i=0
  ·subst hi0
   have hm0:m=1:=by omega
   have w0:IntKind.i64.wrap 1=1:=rfl;have b0:qC (qH (bU d 0 L 0))=[]:=rfl;rw[b0,hm0,List.nil_append] at hsimp;have hrj:r=0:=by omega
   subst hrj;have q1' :d.cells[8+0]? =some (.int .u8 (X:Nat)):=q1;simp only[Nat.reduceAdd] at q1';have wj:IntKind.i64.wrap 0=0:=rfl;have tj:Int.tmod 0 4=0:=rfl;simp[Bl,Bn,hsimp,hm0,h4,h57,h58,h10,hlt,q1,wj,tj,k1',fV,eS,w0,w3,t5,l1,l2,eQ,hadd,g1,ay,Ax,fm,hn',dv,af,cC];omega
  ·obtain⟨Q,hQ0⟩:∃Q,Q=qH (bU d 0 L i):=⟨_,rfl⟩
   have hQl:(qC Q).length=i:=by rw[hQ0,K5,dE]
   rw[←hQ0] at hsimp;have g3:(qC Q).take i=qC Q:=List.take_of_length_le (by omega);have g4:m*16≤140737488355328:=by omega
   have g5:m≤140737488355328:=by omega
   simp[Bl,Bn,hi0,hmp,hsimp,←hQ0,←hm,h4,h57,h58,h10,hlt,q1,k1',fV,eS,w1,w2,w3,hr4',t4,t5,l1,l2,eQ,hadd,g1,g3,g4,g5,hQl,ay,Ax,fm,dL,hn',dv,af,cC];omega
 ·right
  have e:i=n:=by omega
  subst e;have hi0:¬i=0:=by omega
  simp[Bl,Bn,hi0,h58]
def Bo(k:Nat):AV:=if k=0 then .nilslice else .slice 12 0 k none
def Bm(d:Deed) (n k:Nat) (u u2:List UInt8) (L0 L:List Int) (i:Nat):Mem:=if i=0 then C9 d n k u u2 L0 L else C9 d n k u u2 L0 L++[.cells true 1 (qC (qH (bU d 1 L i)))]
set_option maxRecDepth 8192 in
set_option maxHeartbeats 12800000 in
theorem Ev{K:Nat}(d:Deed) (hd:d.Ok) (n k:Nat) (u u2:List UInt8) (L0 L:List Int) (hL:L.length=n) (hb9:∀z∈L,z.natAbs≤100) (hn0:0<n) (hl:n≤1000) (hK:n<K) {b b2 b3:Code}(hb:ax Tryz.f47=[b2,b3,b]):
  ∃F:Env→Bool→Env,∀env0 df,(ab env0 4=.ptr 3 0∧ab env0 57=.slice 9 0 n none∧ab env0 58=.int .i64 n∧ab env0 59=.int .i64 0∧ab env0 10=.int .i64 1∧ab env0 11=.nilslice)→
   aT (aM Tryz.prog) eA dv K 102 2 true (.loop b) ⟨env0,C9 d n k u u2 L0 L,df⟩=some (.exit 4,⟨F env0 df,C9 d n k u u2 L0 L++[.cells true 1 (qC (qH (bU d 1 L n)))],df⟩)∧ab (F env0 df) 11=.slice 12 0 n none∧
    (∀t,t∈[2,4,6,7,9,10,53,54]→ab (F env0 df) t=ab env0 t):=by
 refine cg (L:=[11,59]) (by simp[ax,aV,Tryz.f47] at hb;rw[←hb.2.2];rfl) (fun env0=>ab env0 4=.ptr 3 0∧ab env0 57=.slice 9 0 n none∧ab env0 58=.int .i64 n∧ab env0 59=.int .i64 0∧ab env0 10=.int .i64 1∧ab env0 11=.nilslice) (fun env0 env' =>ab env' 11=.slice 12 0 n none∧(∀t,t∈[2,4,6,7,9,10,53,54]→ab env' t=ab env0 t)) ?_;rintro env0 df ⟨h4,h57,h58,h59,h10,h11⟩;simp[ax,aV,Tryz.f47] at hb;obtain⟨-,-,hb⟩:=hb;have hnE:aI [11,59] (ad b) env0 ((11,Bo 0)::(59,.int .i64 ((0:Nat):Int))::env0)=aI [11,59] (ad b) env0 env0:=by simp[aI,h59,h11,Bo]
 rw[←hnE];have hm1:(C9 d n k u u2 L0 L).length=12:=rfl;have hfin:C9 d n k u u2 L0 L++[.cells true 1 (qC (qH (bU d 1 L n)))]=Bm d n k u u2 L0 L n:=by unfold Bm;rw[if_neg (by omega)]
 rw[hfin];refine cG (α:=Nat) (fun i=>⟨aI [11,59] (ad b) env0 ((11,Bo i)::(59,.int .i64 (i:Int))::env0),Bm d n k u u2 L0 L i,df⟩) (fun i=>n-i) (fun i=>i≤n) (.exit 4) _ df _ (by simp) ?_ K 0 (by omega) (by omega);intro i hi;clear hnE hfin;subst hb;by_cases hlt:i<n
 ·left
  have hr4:(1+i)%4<4:=Nat.mod_lt _ (by decide);have q1:=uC d ((1+i)%4) hr4;have q2:=Ka hd.K ((1+i)%4);have hs:=BJ d 1 L i;have hz:Ie d 1 i=((HT d.K ((1+i)%4)%4:Nat):Int):=rfl;have t4:(((1+i:Nat):Int)).tmod 4=(((1+i)%4:Nat):Int):=rfl;obtain⟨v,hv⟩:∃v,v=1+i:=⟨_,rfl⟩
  rw[←hv] at hr4 q1 q2 hz t4;obtain⟨r,hr⟩:∃r,r=v%4:=⟨_,rfl⟩
  rw[←hr] at hr4 q1 q2 hz t4;obtain⟨X,hX⟩:∃X,X=HT d.K r:=⟨_,rfl⟩
  rw[←hX] at q1 q2 hz;have t5:(X:Int).tmod 4=((X%4:Nat):Int):=rfl;have hx4:X%4<4:=Nat.mod_lt _ (by decide);obtain⟨x,hx⟩:∃x,x=X%4:=⟨_,rfl⟩
  rw[←hx] at t5 hx4 hz;have k1:=Tb (L:=L) (k:=i) (by omega);have hzl:(L.getD i 0).natAbs≤100:=by
   have:L.getD i 0∈L:=by rw[List.getD_eq_getElem?_getD,List.getElem?_eq_getElem (by omega)];exact List.getElem_mem _
   exact hb9 _ this
  obtain⟨z,hzz⟩:∃z,z=L.getD i 0:=⟨_,rfl⟩
  rw[←hzz] at k1 hzl hs;rw[hz] at hs;have hadd:=RN z (x:Int);have l1:=yW (z:=z) (by omega);have l2:=yW (z:=(x:Int)) (by omega);have g1:x<100000000:=by omega
  have hn' :=K5 L;have k1' :∀h,(qC (qH L))[i]'h=.str (ah (hQ z)):=fun h=>by rw[List.getElem?_eq_getElem h] at k1;exact Option.some.inj k1
  rw[hL] at hn';have hr4' :(r:Int)<4:=by omega
  have eQ:mkRat (x:Int) 2=hQ (x:Int):=rfl;have w1:IntKind.i64.wrap ((i:Int)+1)=((i+1:Nat):Int):=by rw[aj (by omega) (by omega)];omega
  have w2:IntKind.i64.wrap (1+(i:Int))=(v:Int):=by rw[aj (by omega) (by omega)];omega
  have w3:IntKind.i64.wrap (x:Int)=(x:Int):=bF (by omega) (by omega);obtain⟨m,hm⟩:∃m,m=i+1:=⟨_,rfl⟩
  rw[←hm] at w1 hs;refine⟨m,?_⟩;have hmp:¬m=0:=by omega
  have hsimp:qC (qH (bU d 1 L m))=qC (qH (bU d 1 L i))++[.str (ah (hQ (z+(x:Int))))]:=by rw[hs];simp[qH,qC]
  by_cases hi0:i=0
  ·subst hi0
   have hm0:m=1:=by omega
   have w0:IntKind.i64.wrap 1=1:=rfl;have b0:qC (qH (bU d 1 L 0))=[]:=rfl;rw[b0,hm0,List.nil_append] at hsimp;have hrj:r=1:=by omega
   subst hrj;have q1' :d.cells[8+1]? =some (.int .u8 (X:Nat)):=q1;simp only[Nat.reduceAdd] at q1';have wj:IntKind.i64.wrap 1=1:=rfl;have tj:Int.tmod 1 4=1:=rfl;simp[Bm,Bo,hsimp,hm0,h4,h57,h58,h10,hlt,q1,wj,tj,k1',fV,eS,w3,t5,l1,l2,eQ,hadd,g1,ay,C9,fm,hn',dv,af,cC];omega
  ·obtain⟨Q,hQ0⟩:∃Q,Q=qH (bU d 1 L i):=⟨_,rfl⟩
   have hQl:(qC Q).length=i:=by rw[hQ0,K5,dE]
   rw[←hQ0] at hsimp;have g3:(qC Q).take i=qC Q:=List.take_of_length_le (by omega);have g4:m*16≤140737488355328:=by omega
   have g5:m≤140737488355328:=by omega
   simp[Bm,Bo,hi0,hmp,hsimp,←hQ0,←hm,h4,h57,h58,h10,hlt,q1,k1',fV,eS,w1,w2,w3,hr4',t4,t5,l1,l2,eQ,hadd,g1,g3,g4,g5,hQl,ay,C9,fm,dL,hn',dv,af,cC];omega
 ·right
  have e:i=n:=by omega
  subst e;have hi0:¬i=0:=by omega
  simp[Bm,Bo,hi0,h58]
theorem Pw(n:Nat):AV.refsL n eS=[]:=rfl
theorem S6(f:Nat→Bool):AV.refsOkL f eS=true:=rfl
theorem RQ(f:Nat→Option Nat):AV.rens f eS=eS:=rfl
def bW(i:Nat):UInt8:=UInt8.ofNat (65+i)
theorem So{i:Nat}(hi:i<6):eS[i]? =some (.str [bW i]):=by
 have:i=0∨i=1∨i=2∨i=3∨i=4∨i=5:=by omega
 rcases this with rfl | rfl | rfl | rfl | rfl | rfl<;>rfl
def bj(i:Nat):Nat→List (List UInt8)
 |0=>[[bW i,49]]
 |1=>[[bW i,49],[bW i,50]]
 |_=>[[bW i,49],[bW i,50],[bW i,51]]
def OY(n:Nat):Nat→AV
 |0=>.agg [.slice 2 0 n none,.slice 3 0 1 none,.nilslice]
 |1=>.agg [.slice 2 0 n none,.slice 3 0 2 none,.slice 4 0 1 none]
 |_=>.agg [.slice 2 0 n none,.slice 3 0 3 none,.slice 4 0 2 none]
def mZ(d:Deed) (n i:Nat):Nat→Mem
 |0=>[iz (bo d n),.cells true 1 ((bj i 0).map .str)]
 |1=>[iz (bo d n),.cells true 1 ((bj i 1).map .str),.cells true 1 [.slice 5 0 n none],iz (bU d 0 (bo d n) n)]
 |_=>[iz (bo d n),.cells true 1 ((bj i 2).map .str),.cells true 1 [.slice 5 0 n none,.slice 6 0 n none],iz (bU d 0 (bo d n) n),iz (bU d 1 (bU d 0 (bo d n) n) n)]
set_option maxRecDepth 8192 in
set_option maxHeartbeats 12800000 in
theorem xz(d:Deed) (hd:d.Ok) (n k i:Nat) (hi:i<6) (hn:0<n) (hl:n≤1000) (hJ:d.K.1%3=0):
  ACallsTo Tryz.prog 47 [.agg [.slice 0 0 n none,.slice 1 0 k none],.agg d.cells,.int .i64 i] [.absent,.absent] (OY n 0) ([.absent,.absent]++mZ d n i 0):=by
 have hG:aL Tryz.prog 47=some Tryz.f47:=by kernel_rfl
 obtain⟨b,b2,b3,hb⟩:∃b b2 b3,ax Tryz.f47=[b,b2,b3]:=⟨_,_,_,rfl⟩
 obtain⟨K,hK⟩:∃K,K=n+1:=⟨_,rfl⟩
 obtain⟨F,hF⟩:=kM (K:=K+5) d hd n k [bW i,49] hl (by omega) hb;have e0:Aw d n k [bW i,49] 0=[.absent,.absent,.cells true 0 [.slice 0 0 n none,.slice 1 0 k none],.cells true 0 d.cells,.cells true 0 [.nilslice,.nilslice,.nilslice],.cells true 1 eS,.cells true 1 [.str [bW i,49]],.cells true 0 [.nilslice,.slice 6 0 1 none,.nilslice]]:=rfl;have hdn:decide (0<n)=true:=by simpa using hn
 rw[oq hn,e0,hdn] at hF;have hF1:=fun env0 h=>(hF env0 h).1
 have hG4:=fun env0 h=>(hF env0 h).2.1
 have hG7:=fun env0 h=>(hF env0 h).2.2.1
 have hG6:=fun env0 h=>(hF env0 h).2.2.2.1
 have hG2:=fun env0 h=>(hF env0 h).2.2.2.2
 clear hF;simp[ax,aV,Tryz.f47] at hb;obtain⟨rfl,rfl,rfl⟩:=hb;have hna:=So hi;have hK8:d.cells[8]? =some (.int .u8 (d.K.1:Nat)):=rfl;have t3:((d.K.1:Nat):Int).tmod 3=0:=by have:((d.K.1:Nat):Int).tmod 3=((d.K.1%3:Nat):Int):=rfl;rw[this,hJ];rfl
 have w0:IntKind.i64.wrap 0=0:=rfl;have hi' :(i:Int)<6:=by omega
 have h:aa (aM Tryz.prog) eA (aL Tryz.prog) dv (K+5) 47 [.agg [.slice 0 0 n none,.slice 1 0 k none],.agg d.cells,.int .i64 i] [.absent,.absent]=some ⟨OY n 0,some [.absent,.absent],mZ d n i 0⟩:=by simp[aa,hG,Tryz.f47,hF1,hG4,hG7,hG6,dv,hna,hi',hK8,t3,w0,fm,dL,aB,dV,eA,OY,mZ,bj,iz,fx,bO,aH];exact⟨rfl,rfl⟩
 have:=(al ae (aw _) qm (az _) h).1;simpa [CallRes.mem] using this
end Go.Proofs
