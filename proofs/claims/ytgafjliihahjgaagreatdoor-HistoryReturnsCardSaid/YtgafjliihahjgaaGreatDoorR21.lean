/- See R54. -/
import Derived.Test.YtgafjliihahjgaaGreatDoorR20
set_option linter.all false
set_option maxRecDepth 100000
set_option maxHeartbeats 40000000
namespace Go.Proofs
open Go.Eng
open Tryz
noncomputable def cQ(f:FuncId) (args:List AV):Option AV:=
 match f,args with
 |34,[.int .i64 n,.int .i64 d]=>if 0<d∧n.natAbs<10 ^ 8∧d.toNat<10 ^ 8 then some (.str (aw (mkRat n d.toNat))) else none
 |81,[.str s,.str t]=>match dJ s,dJ t with
  |some a,some b=>if (aw a).length≤9∧(aw b).length≤9 then some (.str (aw (a+b))) else none
  |_,_=>none
 |44,[.int .i64 n]=>if n.natAbs<10 ^ 8 then some (.str (zS n)) else none
 |_,_=>none
theorem zY:kP prog (ag cQ):=bK fun f args v h mem=>by
 unfold cQ at h;split at h
 ·rename_i n d
  split at h
  ·rename_i hc
   cases h;have:=Gm n d.toNat (by omega) hc.2.1 hc.2.2 mem;rw[Int.toNat_of_nonneg (by omega)] at this;exact this
  ·cases h
 ·split at h
  ·rename_i m n hm hn
   split at h
   ·rename_i hc;cases h;rw[aA hm,aA hn];exact CE m n hc.1 hc.2 mem
   ·cases h
  ·cases h
 ·split at h
  ·rename_i hc;cases h;exact F9 _ hc mem
  ·cases h
 ·cases h
def fP:List AV:=[.str [65],.str [66],.str [67],.str [68],.str [69],.str [70]]
theorem Ge:kF prog 80 [] [] (.slice 0 0 6 none) [.cells true 1 fP]:=by
 have hG:aT prog 80=some f80:=by kernel_rfl
 have h:ad (aM prog) (fun _=>[]) (aT prog) bq 1 80 [] []=some ⟨.slice 0 0 6 none,none,[.cells true 1 fP]⟩:=by simp[ad,hG,f80,fP]
 have:=(ak ae (aq _) (ah _) (au _) h).1;simpa [HS.mem] using this
theorem Ld(M:Mem):kF prog 80 [] M (.slice M.length 0 6 none) (M++[.cells true 1 fP]):=by have:=kF.frame (M:=M) (new:=[.cells true 1 fP]) (args:=[]) [] (m:=[]) rfl (by simp) (by rfl) (fun i s hs=>by simp at hs) rfl Ge;simpa [AV.ren,AV.aeM,aF,aeD.ren,fP] using this
noncomputable def dT:adM:=fun c args M=>match c,args with
 |.fn 80,[]=>some ⟨.slice M.length 0 6 none,none,[.cells true 1 fP]⟩
 |c,args=>ag cQ c args M
theorem ss:kP prog dT:=by
 refine dq fun c args M r h=>?_
 unfold dT at h;split at h
 ·cases h;exact af (Ld M)
 ·exact jr zY h
def XH(d:aeN) (n k:Nat) (u:List UInt8) (x:AV):Mem:=
 [.kO,.kO,.cells true 0 [.slice 0 0 n none,.slice 1 0 k none],.cells true 0 d.cells,.cells true 0 [.kK,.kK,.kK],.cells true 1 fP,.cells true 1 [.str u],.cells true 0 [x,.slice 6 0 1 none,.kK]]
def Cq(d:aeN) (n k:Nat) (u:List UInt8) (j:Nat):Mem:=if j=0 then XH d n k u .kK else XH d n k u (.slice 8 0 j none)++[.cells true 1 (qC (qH (bE d j)))]
theorem gR(d:aeN)(n:Nat):AV.aeR n d.cells=[]:=rfl
theorem JP(d:aeN)(f:Nat→Bool):AV.aeB f d.cells=true:=rfl
theorem Dc(d:aeN)(f:Nat→Option Nat):AV.aeM f d.cells=d.cells:=rfl
theorem xm(d:aeN):d.cells.length=12:=rfl
theorem Uq(d:aeN):d.cells[7]? =some (.int .i8 d.N):=rfl
variable{d:aeN}{k:Nat}
theorem qh{n:Nat}{u:List UInt8}{j:Nat}(h:0<j):Cq d n k u j=[.kO,.kO,.cells true 0 [.slice 0 0 n none,.slice 1 0 k none],.cells true 0 d.cells,.cells true 0 [.kK,.kK,.kK],.cells true 1 fP,.cells true 1 [.str u],.cells true 0 [.slice 8 0 j none,.slice 6 0 1 none,.kK],.cells true 1 (qC (qH (bE d j)))]:=by unfold Cq;rw[if_neg (by omega)];rfl
def fD(c:Code):List Nat:=if (aa c).contains 24 then [24,24] else if (aa c).contains 54 then [9,9,54] else [11,59]
theorem PQ(d:aeN)(j:Nat)(hj:j<3):d.cells[1+j]? =some (.int .i8 (Vo d.A j)):=by
 have:j=0∨j=1∨j=2:=by omega
 rcases this with rfl | rfl | rfl<;>rfl
theorem Wb{v:Int×Int×Int}(h:UB v)(j:Nat):yY (Vo v j):=by
 unfold Vo;split
 ·exact h.1
 ·split
  ·exact h.2.1
  ·exact h.2.2
theorem yR(k:Nat):(Mb d k).natAbs≤8:=by have h1:=nv d.N 4 (by decide);have h2:=nv (Vo d.A (k%3)) 3 (by decide);unfold Mb;simp only[Int.cast_ofNat_Int] at h1 h2;omega
variable{K:Nat}{b b2 b3:Code}
theorem mD(d:aeN)(hd:d.Ok)(n k:Nat)(u:List UInt8)(hl:n≤1000)(hK:n<K)(hb:ai f47=[b,b2,b3]):
  ∃F:Env→Env,∀z',(ab z' 4=.ptr 3 0∧ab z' 7=.ptr 7 0∧ab z' 23=.int .i64 n∧ab z' 24=.int .i64 0∧ab z' 6=.ptr 4 0)→
   aN (aM prog) fD dT K 102 2 true (.loop b) ⟨z',Cq d n k u 0,false⟩=some (.exit 0,⟨F z',Cq d n k u n,decide (0<n)⟩)∧ab (F z') 4=.ptr 3 0∧ab (F z') 7=.ptr 7 0∧ab (F z') 6=.ptr 4 0∧ab (F z') 2=ab z' 2:=by
 refine tM (L:=[24,24]) (by simp[ai,aK,f47] at hb;rw[←hb.1];rfl) false _ (fun z'=>ab z' 4=.ptr 3 0∧ab z' 7=.ptr 7 0∧ab z' 23=.int .i64 n∧ab z' 24=.int .i64 0∧ab z' 6=.ptr 4 0) (fun z' AC =>ab AC 4=.ptr 3 0∧ab AC 7=.ptr 7 0∧ab AC 6=.ptr 4 0∧ab AC 2=ab z' 2) ?_;rintro z' ⟨h4,h7,h23,h24,h6⟩;obtain⟨os,FS⟩:∃os,aG f47=os:=⟨_,rfl⟩
 have IR:=bj FS (ls:=[[0,1,0,4,12,28,60,0,128,0,896,1920,3968,8064,16380,32764,65532,131071,262143,524287],[0,1,0,0,12,28,0,64,196,508,1020,2047,4095,8191]]) (by kernel_rfl);have k16:qf [0,1,0,4,12,28,60,0,128,0,896,1920,3968,8064,16380,32764,65532,131071,262143,524287] 20 16=true:=by decide
 have k17:qf [0,1,0,4,12,28,60,0,128,0,896,1920,3968,8064,16380,32764,65532,131071,262143,524287] 20 17=true:=by decide
 have k19:qf [0,1,0,4,12,28,60,0,128,0,896,1920,3968,8064,16380,32764,65532,131071,262143,524287] 20 19=true:=by decide
 have j17:aX [0,1,0,4,12,28,60,0,128,0,896,1920,3968,8064,16380,32764,65532,131071,262143,524287] 17=true:=by decide
 have j19:aX [0,1,0,4,12,28,60,0,128,0,896,1920,3968,8064,16380,32764,65532,131071,262143,524287] 19=true:=by decide
 simp only[aG,bF,f47,List.nil_append,List.append_nil,List.cons_append] at FS;subst FS;simp only[List.map_cons,List.map_nil,List.cons.injEq,and_true] at IR;obtain⟨hb1,-⟩:=IR;simp[ai,aK,f47] at hb;obtain⟨hb,-⟩:=hb;have YF:aD [24,24] (aa b) z' ((24,.int .i64 ((0:Nat):Int))::z')=aD [24,24] (aa b) z' z':=by simp[aD,h24]
 rw[←YF];have YY:(Cq d n k u 0).length=8:=rfl;refine cV (α:=Nat) (fun j=>⟨aD [24,24] (aa b) z' ((24,.int .i64 (j:Int))::z'),Cq d n k u j,decide (0<j)⟩) (fun j=>n-j) (fun j=>j≤n) (.exit 0) _ _ _ (by simp) ?_ K 0 (by omega) (by omega);intro j Za;clear YF;subst hb;by_cases A':j<n
 ·left
  have q1:=PQ d (j%3) (Nat.mod_lt _ (by decide));have q2:=Wb hd.A (j%3);have q3:=nv d.N 4 (by decide);have q4:=nv (Vo d.A (j%3)) 3 (by decide);simp only[Int.cast_ofNat_Int] at q3 q4;have Zo:=yR (d:=d) j;have IR:=Pp d j;have hz:Mb d j=2*d.N.tmod 4+(Vo d.A (j%3)).tmod 3:=rfl;obtain⟨X,hX⟩:∃x,x=Vo d.A (j%3):=⟨_,rfl⟩
  rw[←hX] at q1 q2 q4 hz;obtain⟨x,hx⟩:∃y,y=X.tmod 3:=⟨_,rfl⟩
  obtain⟨y,hy⟩:∃y,y=d.N.tmod 4:=⟨_,rfl⟩
  rw[←hx] at q4 hz;rw[←hy] at q3 hz;have Z9:=WL y x;rw[←hz] at Z9;have l1:=fQ (n:=y) (by omega);have l2:=AT (z:=x) (by omega);have hN:=hd.N;unfold yY at q2 hN;have wX:IntKind.i64.wrap X=X:=bN (by omega) (by omega);have wN:IntKind.i64.wrap d.N=d.N:=bN (by omega) (by omega);have g1:x.natAbs<100000000:=by omega
  have g2:y.natAbs<100000000:=by omega
  have t3:(j:Int).tmod 3=((j%3:Nat):Int):=rfl;have hj3:j%3<3:=Nat.mod_lt _ (by decide);obtain⟨r,hr⟩:∃r,r=j%3:=⟨_,rfl⟩
  rw[←hr] at t3 hj3 q1;have hp:=gU y;have w1:IntKind.i64.wrap ((j:Int)+1)=((j+1:Nat):Int):=by rw[al (by omega) (by omega)];omega
  obtain⟨m,hm⟩:∃m,m=j+1:=⟨_,rfl⟩
  rw[←hm] at w1 IR;refine⟨m,?_⟩;have hmp:0<m:=by omega
  rw[qh hmp];have YG:qC (qH (bE d m))=qC (qH (bE d j))++[.str (aw (hQ (Mb d j)))]:=by rw[IR];simp[qH,qC]
  have hQl:(qC (qH (bE d j))).length=j:=by rw[Kv];simp[qH,dG]
  have hx2:dJ (aw (mkRat x 2))=some (hQ x):=aB _;have l2' :(aw (mkRat x 2)).length≤9:=l2;have eQ:mkRat x 2=hQ x:=rfl;rw[YG];have hN7:=Uq d;by_cases hj0:j=0
  ·subst hj0
   have Yt:m=1:=by omega
   have w0:IntKind.i64.wrap 1=1:=rfl;have hr0:r=0:=by omega
   subst hr0;have e0:Cq d n k u 0=[.kO,.kO,.cells true 0 [.slice 0 0 n none,.slice 1 0 k none],.cells true 0 d.cells,.cells true 0 [.kK,.kK,.kK],.cells true 1 fP,.cells true 1 [.str u],.cells true 0 [.kK,.slice 6 0 1 none,.kK]]:=rfl;have b0:qC (qH (bE d 0))=[]:=rfl;simp only[Nat.add_zero] at q1;rw[b0,e0,Yt];simp[h4,h7,h23,A',hN7,q1,gR,Dc,fP,wX,wN,w0,←hx,←hy,zS,l1,l2,eQ,Z9,g1,g2,aB,dT,ag,cQ,-aE,jo hb1,j9,qv,xw,bW,k16,k17,k19,j17,j19,Nat.testBit];omega
  ·have XQ:0<j:=by omega
   have hd1:decide (0<j)=true:=by simpa using XQ
   rw[qh XQ,hd1];obtain⟨Q,hQ0⟩:∃Q,Q=qH (bE d j):=⟨_,rfl⟩
   rw[←hQ0] at hQl ⊢;have g3:(qC Q).take j=qC Q:=List.take_of_length_le (by omega);have g4:m*16≤140737488355328:=by omega
   have g5:m≤140737488355328:=by omega
   have acL :(r:Int)<3:=by omega
   have hmd:decide (0<m)=true:=by simpa using hmp
   simp[h4,h7,h23,A',hN7,q1,acL,YY,t3,gR,Dc,fP,wX,wN,w1,←hx,←hy,←hm,zS,l1,l2,eQ,Z9,g1,g2,g3,g4,g5,hQl,hmd,aB,gg,eJ,Kw,dT,ag,cQ,-aE,jo hb1,j9,qv,xw,bW,k16,k17,k19,j17,j19,Nat.testBit];omega
 ·right
  have e:j=n:=by omega
  subst e;simp[h4,h7,h6,h23]
theorem wK(d:aeN)(j:Nat)(hj:j<4):d.cells[8+j]? =some (.int .u8 (Kp d.K j:Nat)):=by
 have:j=0∨j=1∨j=2∨j=3:=by omega
 rcases this with rfl | rfl | rfl | rfl<;>rfl
theorem ME{v:Nat×Nat×Nat×Nat}(h:Xe v)(j:Nat):Kp v j<256:=by
 unfold Kp;split
 ·exact h.1
 ·split
  ·exact h.2.1
  ·split
   ·exact h.2.2.1
   ·exact h.2.2.2
def jx(Z:List Int):aeD:=.cells true 1 (qC (qH Z))
def Cr(d:aeN) (n k:Nat) (u:List UInt8) (L:List Int):Mem:=
 [.kO,.kO,.cells true 0 [.slice 0 0 n none,.slice 1 0 k none],.cells true 0 d.cells,.cells true 0 [.kK,.kK,.kK],.cells true 1 fP,.cells true 1 [.str u],.cells true 0 [.slice 8 0 n none,.slice 6 0 1 none,.kK],.cells true 1 (qC (qH L))]
def E9(d:aeN) (n k:Nat) (u u2:List UInt8) (L0 L:List Int):Mem:=
 [.kO,.kO,.cells true 0 [.slice 0 0 n none,.slice 1 0 k none],.cells true 0 d.cells,.cells true 0 [.kK,.kK,.kK],.cells true 1 fP,.kO,.cells true 0 [.slice 8 0 n none,.slice 10 0 2 none,.slice 11 0 1 none],.cells true 1 (qC (qH L0)),.cells true 1 (qC (qH L)),.cells true 1 [.str u,.str u2],.cells true 1 [.slice 9 0 n none]]
theorem W3{L:List Int}(h:k<L.length):(qC (qH L))[k]? =some (.str (aw (hQ (L.getD k 0)))):=by
 have h1:L[k]? =some (L.getD k 0):=by rw[List.getD_eq_getElem?_getD,List.getElem?_eq_getElem h];rfl
 exact W2 (by simp only[qH,List.getElem?_map,h1];rfl)
theorem NK(L:List Int):(qC (qH L)).length=L.length:=by rw[Kv];simp[qH]
def Dm(k:Nat):AV:=if k=0 then .kK else .slice 9 0 k none
def Dk(d:aeN) (n k:Nat) (u:List UInt8) (L:List Int) (i:Nat):Mem:=if i=0 then Cr d n k u L else Cr d n k u L++[.cells true 1 (qC (qH (cg d 0 L i)))]
theorem xb(d:aeN)(hd:d.Ok)(n k:Nat)(u:List UInt8)(L:List Int)(hL:L.length=n)(hb9:∀z∈L,z.natAbs≤100)(YF:0<n)(hl:n≤1000)(hK:n<K)(hb:ai f47=[b2,b3,b]):
  ∃F:Env→Bool→Env,∀z' df,(ab z' 4=.ptr 3 0∧ab z' 57=.slice 8 0 n none∧ab z' 58=.int .i64 n∧ab z' 59=.int .i64 0∧ab z' 10=.int .i64 0∧ab z' 11=.kK)→
   aN (aM prog) fD dT K 102 2 true (.loop b) ⟨z',Cr d n k u L,df⟩=some (.exit 4,⟨F z' df,Cr d n k u L++[.cells true 1 (qC (qH (cg d 0 L n)))],df⟩)∧ab (F z' df) 11=.slice 9 0 n none∧
    (∀t,t∈[2,4,6,7,9,10,53,54]→ab (F z' df) t=ab z' t):=by
 refine cv (L:=[11,59]) (by simp[ai,aK,f47] at hb;rw[←hb.2.2];rfl) (fun z'=>ab z' 4=.ptr 3 0∧ab z' 57=.slice 8 0 n none∧ab z' 58=.int .i64 n∧ab z' 59=.int .i64 0∧ab z' 10=.int .i64 0∧ab z' 11=.kK) (fun z' AC =>ab AC 11=.slice 9 0 n none∧(∀t,t∈[2,4,6,7,9,10,53,54]→ab AC t=ab z' t)) ?_;rintro z' df ⟨h4,h57,h58,h59,Zv,h11⟩;simp[ai,aK,f47] at hb;obtain⟨-,-,hb⟩:=hb;have hnE:aD [11,59] (aa b) z' ((11,Dm 0)::(59,.int .i64 ((0:Nat):Int))::z')=aD [11,59] (aa b) z' z':=by simp[aD,h59,h11,Dm]
 rw[←hnE];have YY:(Cr d n k u L).length=9:=rfl;have Z5:Cr d n k u L++[.cells true 1 (qC (qH (cg d 0 L n)))]=Dk d n k u L n:=by unfold Dk;rw[if_neg (by omega)]
 rw[Z5];refine cV (α:=Nat) (fun i=>⟨aD [11,59] (aa b) z' ((11,Dm i)::(59,.int .i64 (i:Int))::z'),Dk d n k u L i,df⟩) (fun i=>n-i) (fun i=>i≤n) (.exit 4) _ df _ (by simp) ?_ K 0 (by omega) (by omega);intro i hi;clear hnE Z5;subst hb;by_cases A':i<n
 ·left
  have hr4:(0+i)%4<4:=Nat.mod_lt _ (by decide);have q1:=wK d ((0+i)%4) hr4;have q2:=ME hd.K ((0+i)%4);have hs:=DL d 0 L i;have hz:KK d 0 i=((Kp d.K ((0+i)%4)%4:Nat):Int):=rfl;have t4:(((0+i:Nat):Int)).tmod 4=(((0+i)%4:Nat):Int):=rfl;obtain⟨v,hv⟩:∃v,v=0+i:=⟨_,rfl⟩
  rw[←hv] at hr4 q1 q2 hz t4;obtain⟨r,hr⟩:∃r,r=v%4:=⟨_,rfl⟩
  rw[←hr] at hr4 q1 q2 hz t4;obtain⟨X,hX⟩:∃X,X=Kp d.K r:=⟨_,rfl⟩
  rw[←hX] at q1 q2 hz;have t5:(X:Int).tmod 4=((X%4:Nat):Int):=rfl;have hx4:X%4<4:=Nat.mod_lt _ (by decide);obtain⟨x,hx⟩:∃x,x=X%4:=⟨_,rfl⟩
  rw[←hx] at t5 hx4 hz;have k1:=W3 (L:=L) (k:=i) (by omega);have hzl:(L.getD i 0).natAbs≤100:=by
   have:L.getD i 0∈L:=by rw[List.getD_eq_getElem?_getD,List.getElem?_eq_getElem (by omega)];exact List.getElem_mem _
   exact hb9 _ this
  obtain⟨z,hzz⟩:∃z,z=L.getD i 0:=⟨_,rfl⟩
  rw[←hzz] at k1 hzl hs;rw[hz] at hs;have Z9:=Vh z (x:Int);have l1:=AT (z:=z) (by omega);have l2:=AT (z:=(x:Int)) (by omega);have g1:x<100000000:=by omega
  have hn' :=NK L;have k1' :∀h,(qC (qH L))[i]'h=.str (aw (hQ z)):=fun h=>by rw[List.getElem?_eq_getElem h] at k1;exact Option.some.inj k1
  rw[hL] at hn';have abW :(r:Int)<4:=by omega
  have eQ:mkRat (x:Int) 2=hQ (x:Int):=rfl;have w1:IntKind.i64.wrap ((i:Int)+1)=((i+1:Nat):Int):=by rw[al (by omega) (by omega)];omega
  have w2:IntKind.i64.wrap ((i:Int))=(v:Int):=by rw[al (by omega) (by omega)];omega
  have w3:IntKind.i64.wrap (x:Int)=(x:Int):=bN (by omega) (by omega);obtain⟨m,hm⟩:∃m,m=i+1:=⟨_,rfl⟩
  rw[←hm] at w1 hs;refine⟨m,?_⟩;have hmp:¬m=0:=by omega
  have YG:qC (qH (cg d 0 L m))=qC (qH (cg d 0 L i))++[.str (aw (hQ (z+(x:Int))))]:=by rw[hs];simp[qH,qC]
  by_cases hi0:i=0
  ·subst hi0
   have Yt:m=1:=by omega
   have w0:IntKind.i64.wrap 1=1:=rfl;have b0:qC (qH (cg d 0 L 0))=[]:=rfl;rw[b0,Yt,List.nil_append] at YG;have hrj:r=0:=by omega
   subst hrj;have q1' :d.cells[8+0]? =some (.int .u8 (X:Nat)):=q1;simp only[Nat.reduceAdd] at q1';have wj:IntKind.i64.wrap 0=0:=rfl;have tj:Int.tmod 0 4=0:=rfl;simp[Dk,Dm,YG,Yt,h4,h57,h58,Zv,A',q1,wj,tj,k1',gR,fP,w0,w3,t5,l1,l2,eQ,Z9,g1,aB,Cr,gg,hn',dT,ag,cQ];omega
  ·obtain⟨Q,hQ0⟩:∃Q,Q=qH (cg d 0 L i):=⟨_,rfl⟩
   have hQl:(qC Q).length=i:=by rw[hQ0,NK,eh]
   rw[←hQ0] at YG;have g3:(qC Q).take i=qC Q:=List.take_of_length_le (by omega);have g4:m*16≤140737488355328:=by omega
   have g5:m≤140737488355328:=by omega
   simp[Dk,Dm,hi0,hmp,YG,←hQ0,←hm,h4,h57,h58,Zv,A',q1,k1',gR,fP,w1,w2,w3,abW,t4,t5,l1,l2,eQ,Z9,g1,g3,g4,g5,hQl,aB,Cr,gg,eJ,hn',dT,ag,cQ];omega
 ·right
  have e:i=n:=by omega
  subst e;have hi0:¬i=0:=by omega
  simp[Dk,Dm,hi0,h58]
def Dp(k:Nat):AV:=if k=0 then .kK else .slice 12 0 k none
def Dl(d:aeN) (n k:Nat) (u u2:List UInt8) (L0 L:List Int) (i:Nat):Mem:=if i=0 then E9 d n k u u2 L0 L else E9 d n k u u2 L0 L++[.cells true 1 (qC (qH (cg d 1 L i)))]
theorem Gv(d:aeN)(hd:d.Ok)(n k:Nat)(u u2:List UInt8)(L0 L:List Int)(hL:L.length=n)(hb9:∀z∈L,z.natAbs≤100)(YF:0<n)(hl:n≤1000)(hK:n<K)(hb:ai f47=[b2,b3,b]):
  ∃F:Env→Bool→Env,∀z' df,(ab z' 4=.ptr 3 0∧ab z' 57=.slice 9 0 n none∧ab z' 58=.int .i64 n∧ab z' 59=.int .i64 0∧ab z' 10=.int .i64 1∧ab z' 11=.kK)→
   aN (aM prog) fD dT K 102 2 true (.loop b) ⟨z',E9 d n k u u2 L0 L,df⟩=some (.exit 4,⟨F z' df,E9 d n k u u2 L0 L++[.cells true 1 (qC (qH (cg d 1 L n)))],df⟩)∧ab (F z' df) 11=.slice 12 0 n none∧
    (∀t,t∈[2,4,6,7,9,10,53,54]→ab (F z' df) t=ab z' t):=by
 refine cv (L:=[11,59]) (by simp[ai,aK,f47] at hb;rw[←hb.2.2];rfl) (fun z'=>ab z' 4=.ptr 3 0∧ab z' 57=.slice 9 0 n none∧ab z' 58=.int .i64 n∧ab z' 59=.int .i64 0∧ab z' 10=.int .i64 1∧ab z' 11=.kK) (fun z' AC =>ab AC 11=.slice 12 0 n none∧(∀t,t∈[2,4,6,7,9,10,53,54]→ab AC t=ab z' t)) ?_;rintro z' df ⟨h4,h57,h58,h59,Zv,h11⟩;simp[ai,aK,f47] at hb;obtain⟨-,-,hb⟩:=hb;have hnE:aD [11,59] (aa b) z' ((11,Dp 0)::(59,.int .i64 ((0:Nat):Int))::z')=aD [11,59] (aa b) z' z':=by simp[aD,h59,h11,Dp]
 rw[←hnE];have YY:(E9 d n k u u2 L0 L).length=12:=rfl;have Z5:E9 d n k u u2 L0 L++[.cells true 1 (qC (qH (cg d 1 L n)))]=Dl d n k u u2 L0 L n:=by unfold Dl;rw[if_neg (by omega)]
 rw[Z5];refine cV (α:=Nat) (fun i=>⟨aD [11,59] (aa b) z' ((11,Dp i)::(59,.int .i64 (i:Int))::z'),Dl d n k u u2 L0 L i,df⟩) (fun i=>n-i) (fun i=>i≤n) (.exit 4) _ df _ (by simp) ?_ K 0 (by omega) (by omega);intro i hi;clear hnE Z5;subst hb;by_cases A':i<n
 ·left
  have hr4:(1+i)%4<4:=Nat.mod_lt _ (by decide);have q1:=wK d ((1+i)%4) hr4;have q2:=ME hd.K ((1+i)%4);have hs:=DL d 1 L i;have hz:KK d 1 i=((Kp d.K ((1+i)%4)%4:Nat):Int):=rfl;have t4:(((1+i:Nat):Int)).tmod 4=(((1+i)%4:Nat):Int):=rfl;obtain⟨v,hv⟩:∃v,v=1+i:=⟨_,rfl⟩
  rw[←hv] at hr4 q1 q2 hz t4;obtain⟨r,hr⟩:∃r,r=v%4:=⟨_,rfl⟩
  rw[←hr] at hr4 q1 q2 hz t4;obtain⟨X,hX⟩:∃X,X=Kp d.K r:=⟨_,rfl⟩
  rw[←hX] at q1 q2 hz;have t5:(X:Int).tmod 4=((X%4:Nat):Int):=rfl;have hx4:X%4<4:=Nat.mod_lt _ (by decide);obtain⟨x,hx⟩:∃x,x=X%4:=⟨_,rfl⟩
  rw[←hx] at t5 hx4 hz;have k1:=W3 (L:=L) (k:=i) (by omega);have hzl:(L.getD i 0).natAbs≤100:=by
   have:L.getD i 0∈L:=by rw[List.getD_eq_getElem?_getD,List.getElem?_eq_getElem (by omega)];exact List.getElem_mem _
   exact hb9 _ this
  obtain⟨z,hzz⟩:∃z,z=L.getD i 0:=⟨_,rfl⟩
  rw[←hzz] at k1 hzl hs;rw[hz] at hs;have Z9:=Vh z (x:Int);have l1:=AT (z:=z) (by omega);have l2:=AT (z:=(x:Int)) (by omega);have g1:x<100000000:=by omega
  have hn' :=NK L;have k1' :∀h,(qC (qH L))[i]'h=.str (aw (hQ z)):=fun h=>by rw[List.getElem?_eq_getElem h] at k1;exact Option.some.inj k1
  rw[hL] at hn';have abW :(r:Int)<4:=by omega
  have eQ:mkRat (x:Int) 2=hQ (x:Int):=rfl;have w1:IntKind.i64.wrap ((i:Int)+1)=((i+1:Nat):Int):=by rw[al (by omega) (by omega)];omega
  have w2:IntKind.i64.wrap (1+(i:Int))=(v:Int):=by rw[al (by omega) (by omega)];omega
  have w3:IntKind.i64.wrap (x:Int)=(x:Int):=bN (by omega) (by omega);obtain⟨m,hm⟩:∃m,m=i+1:=⟨_,rfl⟩
  rw[←hm] at w1 hs;refine⟨m,?_⟩;have hmp:¬m=0:=by omega
  have YG:qC (qH (cg d 1 L m))=qC (qH (cg d 1 L i))++[.str (aw (hQ (z+(x:Int))))]:=by rw[hs];simp[qH,qC]
  by_cases hi0:i=0
  ·subst hi0
   have Yt:m=1:=by omega
   have w0:IntKind.i64.wrap 1=1:=rfl;have b0:qC (qH (cg d 1 L 0))=[]:=rfl;rw[b0,Yt,List.nil_append] at YG;have hrj:r=1:=by omega
   subst hrj;have q1' :d.cells[8+1]? =some (.int .u8 (X:Nat)):=q1;simp only[Nat.reduceAdd] at q1';have wj:IntKind.i64.wrap 1=1:=rfl;have tj:Int.tmod 1 4=1:=rfl;simp[Dl,Dp,YG,Yt,h4,h57,h58,Zv,A',q1,wj,tj,k1',gR,fP,w3,t5,l1,l2,eQ,Z9,g1,aB,E9,gg,hn',dT,ag,cQ];omega
  ·obtain⟨Q,hQ0⟩:∃Q,Q=qH (cg d 1 L i):=⟨_,rfl⟩
   have hQl:(qC Q).length=i:=by rw[hQ0,NK,eh]
   rw[←hQ0] at YG;have g3:(qC Q).take i=qC Q:=List.take_of_length_le (by omega);have g4:m*16≤140737488355328:=by omega
   have g5:m≤140737488355328:=by omega
   simp[Dl,Dp,hi0,hmp,YG,←hQ0,←hm,h4,h57,h58,Zv,A',q1,k1',gR,fP,w1,w2,w3,abW,t4,t5,l1,l2,eQ,Z9,g1,g3,g4,g5,hQl,aB,E9,gg,eJ,hn',dT,ag,cQ];omega
 ·right
  have e:i=n:=by omega
  subst e;have hi0:¬i=0:=by omega
  simp[Dl,Dp,hi0,h58]
theorem SC(n:Nat):AV.aeR n fP=[]:=rfl
theorem WX(f:Nat→Bool):AV.aeB f fP=true:=rfl
theorem Vm(f:Nat→Option Nat):AV.aeM f fP=fP:=rfl
def cn(i:Nat):UInt8:=UInt8.ofNat (65+i)
theorem V9{i:Nat}(hi:i<6):fP[i]? =some (.str [cn i]):=by
 have:i=0∨i=1∨i=2∨i=3∨i=4∨i=5:=by omega
 rcases this with rfl | rfl | rfl | rfl | rfl | rfl<;>rfl
def bu(i:Nat):Nat→List (List UInt8)
 |0=>[[cn i,49]]
 |1=>[[cn i,49],[cn i,50]]
 |_=>[[cn i,49],[cn i,50],[cn i,51]]
def RR(n:Nat):Nat→AV
 |0=>.agg [.slice 2 0 n none,.slice 3 0 1 none,.kK]
 |1=>.agg [.slice 2 0 n none,.slice 3 0 2 none,.slice 4 0 1 none]
 |_=>.agg [.slice 2 0 n none,.slice 3 0 3 none,.slice 4 0 2 none]
def oI(d:aeN) (n i:Nat):Nat→Mem
 |0=>[jx (bE d n),.cells true 1 ((bu i 0).map .str)]
 |1=>[jx (bE d n),.cells true 1 ((bu i 1).map .str),.cells true 1 [.slice 5 0 n none],jx (cg d 0 (bE d n) n)]
 |_=>[jx (bE d n),.cells true 1 ((bu i 2).map .str),.cells true 1 [.slice 5 0 n none,.slice 6 0 n none],jx (cg d 0 (bE d n) n),jx (cg d 1 (cg d 0 (bE d n) n) n)]
theorem zn(d:aeN)(hd:d.Ok)(n k i:Nat)(hi:i<6)(hn:0<n)(hl:n≤1000)(hJ:d.K.1%3=0):
  kF prog 47 [.agg [.slice 0 0 n none,.slice 1 0 k none],.agg d.cells,.int .i64 i] [.kO,.kO] (RR n 0) ([.kO,.kO]++oI d n i 0):=by
 have hG:aT prog 47=some f47:=by kernel_rfl
 obtain⟨b,b2,b3,hb⟩:∃b b2 b3,ai f47=[b,b2,b3]:=⟨_,_,_,rfl⟩
 obtain⟨K,hK⟩:∃K,K=n+1:=⟨_,rfl⟩
 obtain⟨F,hF⟩:=mD (K:=K+5) d hd n k [cn i,49] hl (by omega) hb;have e0:Cq d n k [cn i,49] 0=[.kO,.kO,.cells true 0 [.slice 0 0 n none,.slice 1 0 k none],.cells true 0 d.cells,.cells true 0 [.kK,.kK,.kK],.cells true 1 fP,.cells true 1 [.str [cn i,49]],.cells true 0 [.kK,.slice 6 0 1 none,.kK]]:=rfl;have hdn:decide (0<n)=true:=by simpa using hn
 rw[qh hn,e0,hdn] at hF;have I':=fun z' h=>(hF z' h).1
 have hG4:=fun z' h=>(hF z' h).2.1
 have hG7:=fun z' h=>(hF z' h).2.2.1
 have hG6:=fun z' h=>(hF z' h).2.2.2.1
 have hG2:=fun z' h=>(hF z' h).2.2.2.2
 clear hF;simp[ai,aK,f47] at hb;obtain⟨rfl,rfl,rfl⟩:=hb;have hna:=V9 hi;have hK8:d.cells[8]? =some (.int .u8 (d.K.1:Nat)):=rfl;have t3:((d.K.1:Nat):Int).tmod 3=0:=by have:((d.K.1:Nat):Int).tmod 3=((d.K.1%3:Nat):Int):=rfl;rw[this,hJ];rfl
 have hi' :(i:Int)<6:=by omega
 have h:ad (aM prog) fD (aT prog) dT (K+5) 47 [.agg [.slice 0 0 n none,.slice 1 0 k none],.agg d.cells,.int .i64 i] [.kO,.kO]=some ⟨RR n 0,some [.kO,.kO],oI d n i 0⟩:=by simp[ad,hG,f47,I',hG4,hG7,hG6,dT,hna,hi',hK8,t3,w0,gg,eJ,aI,ej,fD,RR,oI,bu,jx,gk,cM,aR];exact⟨rfl,rfl⟩
 have:=(ak ae (aq _) ss (au _) h).1;simpa [HS.mem] using this
end Go.Proofs
