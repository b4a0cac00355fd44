/- See I36. -/
import Derived.Test.YtgafjliihahjgaaGreatDoorI17
set_option linter.all false
set_option maxRecDepth 100000
set_option maxHeartbeats 40000000
namespace Go.Proofs
open Go.Eng
open Tryz
noncomputable def dF(f:FuncId)(args:List AV):Option AV:=
 match f,args with
 |34,[.int .i64 n,.int .i64 d]=>if 0<d/\n.natAbs<10 ^ 8/\d.toNat<10 ^ 8 then some (.str (aB (mkRat n d.toNat))) else none
 |81,[.str s,.str t]=>match eS s,eS t with
  |some a,some b=>if (aB a).length<=9/\(aB b).length<=9 then some (.str (aB (a+b))) else none
  |_,_=>none
 |44,[.int .i64 n]=>if n.natAbs<10 ^ 8 then some (.str (zS n)) else none
 |_,_=>none
theorem Cm:adM prog (af dF):=bX fun f Z v h mem=>by
 unfold dF at h;split at h
 .rename_i n d
  split at h
  .rename_i hc
   cases h;have:=I7 n d.toNat (by omega) hc.2.1 hc.2.2 mem;rw[QQe (by omega)] at this;exact this
  .cases h
 .split at h
  .rename_i m n X W
   split at h
   next hc=>cases h;rw[aA X,aA W];exact Fh m n hc.1 hc.2 mem
   .cases h
  .cases h
 .split at h
  next hc=>cases h;exact IP _ hc mem
  .cases h
 .cases h
def gF:List AV:=[.str [65],.str [66],.str [67],.str [68],.str [69],.str [70]]
theorem IW:kO prog 80 [] [] (.slice 0 0 6 none) [.cells true 1 gF]:=by
 have Z:aS prog 80=some f80:=by kernel_rfl
 have h:aa (aU prog) (fun _=>[]) (aS prog) bD 1 80 [] []=some ⟨.slice 0 0 6 none,none,[.cells true 1 gF]⟩:=by simp[aa,Z,f80,gF]
 have:=(ah ae (al _) (aj _) (ao _) h).1;simpa [afA.mem] using this
theorem NM(M:Mem):kO prog 80 [] M (.slice M.length 0 6 none) (M++[.cells true 1 gF]):=by have:=kO.frame (M:=M) (new:=[.cells true 1 gF]) (args:=[]) [] (m:=[]) rfl (by simp) (by rfl) (fun i s Z=>by simp at Z) rfl IW;simpa [AV.ren,AV.agd,eg,af6.ren,gF] using this
noncomputable def fu:af3:=fun c Z M=>match c,Z with
 |.fn 80,[]=>some ⟨.slice M.length 0 6 none,none,[.cells true 1 gF]⟩
 |c,Z=>af dF c Z M
theorem uU:adM prog fu:=by
 refine cP fun c Z M r h=>?_
 unfold fu at h;split at h
 .cases h;exact aC (NM M)
 .exact fK Cm h
def aab(d:agf)(n k:Nat)(u:List UInt8)(x:AV):Mem:=
 [.HS,.HS,.cells true 0 [.slice 0 0 n none,.slice 1 0 k none],.cells true 0 d.cells,.cells true 0 [.y9,.y9,.y9],.cells true 1 gF,.cells true 1 [.str u],.cells true 0 [x,.slice 6 0 1 none,.y9]]
def EY(d:agf)(n k:Nat)(u:List UInt8)(j:Nat):Mem:=if j=0 then aab d n k u .y9 else aab d n k u (.slice 8 0 j none)++[.cells true 1 (qC (qH (bI d j)))]
theorem iX(d:agf)(n:Nat):AV.ago n d.cells=[]:=rfl
theorem Mn(d:agf)(f:Nat->Bool):AV.af7 f d.cells=true:=rfl
theorem FO(d:agf)(f:Nat->Option Nat):AV.agd f d.cells=d.cells:=rfl
theorem zH(d:agf):d.cells.length=12:=rfl
theorem WS(d:agf):d.cells[7]? =some (.int .i8 d.N):=rfl
variable{d:agf}{k:Nat}
theorem sG{n:Nat}{u:List UInt8}{j:Nat}(h:0<j):EY d n k u j=[.HS,.HS,.cells true 0 [.slice 0 0 n none,.slice 1 0 k none],.cells true 0 d.cells,.cells true 0 [.y9,.y9,.y9],.cells true 1 gF,.cells true 1 [.str u],.cells true 0 [.slice 8 0 j none,.slice 6 0 1 none,.y9],.cells true 1 (qC (qH (bI d j)))]:=by unfold EY;rw[if_neg (by omega)];rfl
def gv(c:Code):List Nat:=if (ab c).contains 24 then [24,24] else if (ab c).contains 54 then [9,9,54] else [11,59]
theorem SN(d:agf)(j:Nat)(y:j<3):d.cells[1+j]? =some (.int .i8 (XV d.A j)):=by
 have:j=0\/j=1\/j=2:=by omega
 rcases this with rfl | rfl | rfl<;>rfl
variable{v:Int×Int×Int}
theorem YF(h:W1 v)(j:Nat):Nx (XV v j):=by
 unfold XV;split
 .exact h.1
 .split
  .exact h.2.1
  .exact h.2.2
theorem Bl(k:Nat):(OQ d k).natAbs<=8:=by have Z:=pq d.N 4 (by decide);have X:=pq (XV d.A (k%3)) 3 (by decide);unfold OQ;simp only[Int.cast_ofNat_Int] at Z X;omega
variable{K:Nat}{b b2 b3:Code}
theorem nZ(d:agf)(hd:d.Ok)(n k:Nat)(u:List UInt8)(hl:n<=1000)(hK:n<K)(H:ag f47=[b,b2,b3]):
  ∃F:Env->Env,∀Z,(ad Z 4=.ptr 3 0/\ad Z 7=.ptr 7 0/\ad Z 23=.int .i64 n/\ad Z 24=.int .i64 0/\ad Z 6=.ptr 4 0)->
   aT (aU prog) gv fu K 102 2 true (.loop b) ⟨Z,EY d n k u 0,false⟩=some (.exit 0,⟨F Z,EY d n k u n,decide (0<n)⟩)/\ad (F Z) 4=.ptr 3 0/\ad (F Z) 7=.ptr 7 0/\ad (F Z) 6=.ptr 4 0/\ad (F Z) 2=ad Z 2:=by
 refine mL (L:=[24,24]) (by simp[ag,aH,f47] at H;rw[<-H.1];rfl) false _ (fun Z=>ad Z 4=.ptr 3 0/\ad Z 7=.ptr 7 0/\ad Z 23=.int .i64 n/\ad Z 24=.int .i64 0/\ad Z 6=.ptr 4 0) (fun Z AC =>ad AC 4=.ptr 3 0/\ad AC 7=.ptr 7 0/\ad AC 6=.ptr 4 0/\ad AC 2=ad Z 2) ?_;rintro Z ⟨h4,h7,h23,h24,h6⟩;obtain⟨os,A'⟩:∃os,aN f47=os:=⟨_,rfl⟩
 have S:=bP A' (ls:=[[0,1,0,4,12,28,60,0,128,0,896,1920,3968,8064,16380,32764,65532,131071,262143,524287],[0,1,0,0,12,28,0,64,196,508,1020,2047,4095,8191]]) (by kernel_rfl);have O:su [0,1,0,4,12,28,60,0,128,0,896,1920,3968,8064,16380,32764,65532,131071,262143,524287] 20 16=true:=by decide
 have M:su [0,1,0,4,12,28,60,0,128,0,896,1920,3968,8064,16380,32764,65532,131071,262143,524287] 20 17=true:=by decide
 have J:su [0,1,0,4,12,28,60,0,128,0,896,1920,3968,8064,16380,32764,65532,131071,262143,524287] 20 19=true:=by decide
 have G:be [0,1,0,4,12,28,60,0,128,0,896,1920,3968,8064,16380,32764,65532,131071,262143,524287] 17=true:=by decide
 have D:be [0,1,0,4,12,28,60,0,128,0,896,1920,3968,8064,16380,32764,65532,131071,262143,524287] 19=true:=by decide
 simp only[aN,cj,f47,lA] at A';subst A';simp only[lB] at S;obtain⟨C,-⟩:=S;simp[ag,aH,f47] at H;obtain⟨H,-⟩:=H;have B:au [24,24] (ab b) Z ((24,.int .i64 ((0:Nat):Int))::Z)=au [24,24] (ab b) Z Z:=by simp[au,h24]
 rw[<-B];have hm1:(EY d n k u 0).length=8:=rfl;refine bW (α:=Nat) (fun j=>⟨au [24,24] (ab b) Z ((24,.int .i64 (j:Int))::Z),EY d n k u j,decide (0<j)⟩) (fun j=>n-j) (fun j=>j<=n) (.exit 0) _ _ _ (by simp) ?_ K 0 (by omega) (by omega);intro j hn1;clear B;subst H;by_cases B':j<n
 .left
  have Y:=SN d (j%3) (Nat.mod_lt _ (by decide));have q2:=YF hd.A (j%3);have q3:=pq d.N 4 (by decide);have q4:=pq (XV d.A (j%3)) 3 (by decide);simp only[Int.cast_ofNat_Int] at q3 q4;have hbz:=Bl (d:=d) j;have S:=Sf d j;have hz:OQ d j=2*d.N.tmod 4+(XV d.A (j%3)).tmod 3:=rfl;obtain⟨X,hX⟩:=xE (XV d.A (j%3));rw[<-hX] at Y q2 q4 hz;obtain⟨x,hx⟩:=xE (X.tmod 3);obtain⟨y,hy⟩:=xE (d.N.tmod 4);rw[<-hx] at q4 hz;rw[<-hy] at q3 hz;have V:=Zg y x;rw[<-hz] at V;have l1:=gG (n:=y) (by omega);have l2:=Di (z:=x) (by omega);have hN:=hd.N;unfold Nx at q2 hN;have wX:IntKind.i64.wrap X=X:=cd (by omega) (by omega);have wN:IntKind.i64.wrap d.N=d.N:=cd (by omega) (by omega);have g1:x.natAbs<100000000:=by omega
  have g2:y.natAbs<100000000:=by omega
  have t3:(j:Int).tmod 3=((j%3:Nat):Int):=rfl;have hj3:j%3<3:=Nat.mod_lt _ (by decide);obtain⟨r,hr⟩:=xE (j%3);rw[<-hr] at t3 hj3 Y;have hp:=jf y;have w1:IntKind.i64.wrap ((j:Int)+1)=((j+1:Nat):Int):=by rw[ai];omega
  obtain⟨m,hm⟩:=xE (j+1);rw[<-hm] at w1 S;refine⟨m,?_⟩;have R:0<m:=by omega
  rw[sG R];have aaA:qC (qH (bI d m))=qC (qH (bI d j))++[.str (aB (hQ (OQ d j)))]:=by rw[S];simp[qH,qC]
  have I:(qC (qH (bI d j))).length=j:=by rw[M4];simp[qH,eK]
  have hx2:eS (aB (mkRat x 2))=some (hQ x):=aw _;have l2' :(aB (mkRat x 2)).length<=9:=l2;have eQ:mkRat x 2=hQ x:=rfl;rw[aaA];have hN7:=WS d;by_cases hj0:j=0
  .subst hj0
   have hm0:m=1:=by omega
   have w0:IntKind.i64.wrap 1=1:=rfl;have hr0:r=0:=by omega
   subst hr0;have e0:EY d n k u 0=[.HS,.HS,.cells true 0 [.slice 0 0 n none,.slice 1 0 k none],.cells true 0 d.cells,.cells true 0 [.y9,.y9,.y9],.cells true 1 gF,.cells true 1 [.str u],.cells true 0 [.y9,.slice 6 0 1 none,.y9]]:=rfl;have b0:qC (qH (bI d 0))=[]:=rfl;simp only[Nat.add_zero] at Y;rw[b0,e0,hm0];simp[h4,h7,h23,B',hN7,Y,iX,FO,gF,wX,wN,w0,<-hx,<-hy,zS,l1,l2,eQ,V,g1,g2,aw,fu,af,dF,-aJ,kK C,mc,sT,zP,dm,O,M,J,G,D,Nat.testBit];omega
  .have W:0<j:=by omega
   have hd1:decide (0<j)=true:=by simpa using W
   rw[sG W,hd1];obtain⟨Q,hQ0⟩:=xE (qH (bI d j));rw[<-hQ0] at I |-;have g3:(qC Q).take j=qC Q:=GE (by omega);have g4:m*16<=140737488355328:=by omega
   have g5:m<=140737488355328:=by omega
   have aej :(r:Int)<3:=by omega
   have hmd:decide (0<m)=true:=by simpa using R
   simp[h4,h7,h23,B',hN7,Y,aej,hm1,t3,iX,FO,gF,wX,wN,w1,<-hx,<-hy,<-hm,zS,l1,l2,eQ,V,g1,g2,g3,g4,g5,I,hmd,aw,ir,fO,M5,fu,af,dF,-aJ,kK C,mc,sT,zP,dm,O,M,J,G,D,Nat.testBit];omega
 .right
  have e:j=n:=by omega
  subst e;simp[h4,h7,h6,h23]
theorem zh(d:agf)(j:Nat)(y:j<4):d.cells[8+j]? =some (.int .u8 (MW d.K j:Nat)):=by
 have:j=0\/j=1\/j=2\/j=3:=by omega
 rcases this with rfl | rfl | rfl | rfl<;>rfl
theorem Pk{v:Nat×Nat×Nat×Nat}(h:ZH v)(j:Nat):MW v j<256:=by
 unfold MW;split
 .exact h.1
 .split
  .exact h.2.1
  .split
   .exact h.2.2.1
   .exact h.2.2.2
def kR(Z:List Int):af6:=.cells true 1 (qC (qH Z))
def EZ(d:agf)(n k:Nat)(u:List UInt8)(L:List Int):Mem:=
 [.HS,.HS,.cells true 0 [.slice 0 0 n none,.slice 1 0 k none],.cells true 0 d.cells,.cells true 0 [.y9,.y9,.y9],.cells true 1 gF,.cells true 1 [.str u],.cells true 0 [.slice 8 0 n none,.slice 6 0 1 none,.y9],.cells true 1 (qC (qH L))]
def HP(d:agf)(n k:Nat)(u y:List UInt8)(H L:List Int):Mem:=
 [.HS,.HS,.cells true 0 [.slice 0 0 n none,.slice 1 0 k none],.cells true 0 d.cells,.cells true 0 [.y9,.y9,.y9],.cells true 1 gF,.HS,.cells true 0 [.slice 8 0 n none,.slice 10 0 2 none,.slice 11 0 1 none],.cells true 1 (qC (qH H)),.cells true 1 (qC (qH L)),.cells true 1 [.str u,.str y],.cells true 1 [.slice 9 0 n none]]
theorem Zw{L:List Int}(h:k<L.length):(qC (qH L))[k]? =some (.str (aB (hQ (L.getD k 0)))):=by
 have Z:L[k]? =some (L.getD k 0):=by rw[List.getD_eq_getElem?_getD,GT h];rfl
 exact Zv (by simp only[qH,QQX,Z];rfl)
theorem Qv(L:List Int):(qC (qH L)).length=L.length:=by rw[M4];simp[qH]
def FY(k:Nat):AV:=if k=0 then .y9 else .slice 9 0 k none
def FW(d:agf)(n k:Nat)(u:List UInt8)(L:List Int)(i:Nat):Mem:=if i=0 then EZ d n k u L else EZ d n k u L++[.cells true 1 (qC (qH (cR d 0 L i)))]
theorem zv(d:agf)(hd:d.Ok)(n k:Nat)(u:List UInt8)(L:List Int)(hL:L.length=n)(H:∀z∈L,z.natAbs<=100)(hn0:0<n)(hl:n<=1000)(hK:n<K)(y:ag f47=[b2,b3,b]):
  ∃F:Env->Bool->Env,∀Z S,(ad Z 4=.ptr 3 0/\ad Z 57=.slice 8 0 n none/\ad Z 58=.int .i64 n/\ad Z 59=.int .i64 0/\ad Z 10=.int .i64 0/\ad Z 11=.y9)->
   aT (aU prog) gv fu K 102 2 true (.loop b) ⟨Z,EZ d n k u L,S⟩=some (.exit 4,⟨F Z S,EZ d n k u L++[.cells true 1 (qC (qH (cR d 0 L n)))],S⟩)/\ad (F Z S) 11=.slice 9 0 n none/\
    (∀t,t∈[2,4,6,7,9,10,53,54]->ad (F Z S) t=ad Z t):=by
 refine bG (L:=[11,59]) (by simp[ag,aH,f47] at y;rw[<-y.2.2];rfl) (fun Z=>ad Z 4=.ptr 3 0/\ad Z 57=.slice 8 0 n none/\ad Z 58=.int .i64 n/\ad Z 59=.int .i64 0/\ad Z 10=.int .i64 0/\ad Z 11=.y9) (fun Z AC =>ad AC 11=.slice 9 0 n none/\(∀t,t∈[2,4,6,7,9,10,53,54]->ad AC t=ad Z t)) ?_;rintro Z S ⟨h4,h57,h58,h59,h10,h11⟩;simp[ag,aH,f47] at y;obtain⟨-,-,y⟩:=y;have hnE:au [11,59] (ab b) Z ((11,FY 0)::(59,.int .i64 ((0:Nat):Int))::Z)=au [11,59] (ab b) Z Z:=by simp[au,h59,h11,FY]
 rw[<-hnE];have hm1:(EZ d n k u L).length=9:=rfl;have D:EZ d n k u L++[.cells true 1 (qC (qH (cR d 0 L n)))]=FW d n k u L n:=by unfold FW;rw[if_neg (by omega)]
 rw[D];refine bW (α:=Nat) (fun i=>⟨au [11,59] (ab b) Z ((11,FY i)::(59,.int .i64 (i:Int))::Z),FW d n k u L i,S⟩) (fun i=>n-i) (fun i=>i<=n) (.exit 4) _ S _ (by simp) ?_ K 0 (by omega) (by omega);intro i hi;clear hnE D;subst y;by_cases B':i<n
 .left
  have O:(0+i)%4<4:=Nat.mod_lt _ (by decide);have G:=zh d ((0+i)%4) O;have R:=Pk hd.K ((0+i)%4);have Y:=Gq d 0 L i;have C:Nj d 0 i=((MW d.K ((0+i)%4)%4:Nat):Int):=rfl;have t4:(((0+i:Nat):Int)).tmod 4=(((0+i)%4:Nat):Int):=rfl;obtain⟨v,hv⟩:=xE (0+i);rw[<-hv] at O G R C t4;obtain⟨r,hr⟩:=xE (v%4);rw[<-hr] at O G R C t4;obtain⟨X,hX⟩:=xE (MW d.K r);rw[<-hX] at G R C;have t5:(X:Int).tmod 4=((X%4:Nat):Int):=rfl;have I:X%4<4:=Nat.mod_lt _ (by decide);obtain⟨x,hx⟩:=xE (X%4);rw[<-hx] at t5 I C;have k1:=Zw (L:=L) (k:=i) (by omega);have hzl:(L.getD i 0).natAbs<=100:=by
   have:L.getD i 0∈L:=by rw[List.getD_eq_getElem?_getD,GT (by omega)];exact List.getElem_mem _
   exact H _ this
  obtain⟨z,hzz⟩:=xE (L.getD i 0);rw[<-hzz] at k1 hzl Y;rw[C] at Y;have B:=XL z (x:Int);have l1:=Di (z:=z) (by omega);have l2:=Di (z:=(x:Int)) (by omega);have g1:x<100000000:=by omega
  have M :=Qv L;have A :∀h,(qC (qH L))[i]'h=.str (aB (hQ z)):=fun h=>by rw[GT h] at k1;exact QQb k1
  rw[hL] at M;have ads :(r:Int)<4:=by omega
  have eQ:mkRat (x:Int) 2=hQ (x:Int):=rfl;have w1:IntKind.i64.wrap ((i:Int)+1)=((i+1:Nat):Int):=by rw[ai];omega
  have w2:IntKind.i64.wrap ((i:Int))=(v:Int):=by rw[ai];omega
  have w3:IntKind.i64.wrap (x:Int)=(x:Int):=cd (by omega) (by omega);obtain⟨m,hm⟩:=xE (i+1);rw[<-hm] at w1 Y;refine⟨m,?_⟩;have hmp:¬m=0:=by omega
  have W:qC (qH (cR d 0 L m))=qC (qH (cR d 0 L i))++[.str (aB (hQ (z+(x:Int))))]:=by rw[Y];simp[qH,qC]
  by_cases V:i=0
  .subst V
   have j:m=1:=by omega
   have w0:IntKind.i64.wrap 1=1:=rfl;have b0:qC (qH (cR d 0 L 0))=[]:=rfl;rw[b0,j,List.nil_append] at W;have hrj:r=0:=by omega
   subst hrj;have q1' :d.cells[8+0]? =some (.int .u8 (X:Nat)):=G;simp only[Nat.reduceAdd] at q1';have wj:IntKind.i64.wrap 0=0:=rfl;have tj:Int.tmod 0 4=0:=rfl;simp[FW,FY,W,j,h4,h57,h58,h10,B',G,wj,tj,A,iX,gF,w0,w3,t5,l1,l2,eQ,B,g1,aw,EZ,ir,M,fu,af,dF];omega
  .obtain⟨Q,J⟩:=xE (qH (cR d 0 L i))
   have hQl:(qC Q).length=i:=by rw[J,Qv,fI]
   rw[<-J] at W;have g3:(qC Q).take i=qC Q:=GE (by omega);have g4:m*16<=140737488355328:=by omega
   have g5:m<=140737488355328:=by omega
   simp[FW,FY,V,hmp,W,<-J,<-hm,h4,h57,h58,h10,B',G,A,iX,gF,w1,w2,w3,ads,t4,t5,l1,l2,eQ,B,g1,g3,g4,g5,hQl,aw,EZ,ir,fO,M,fu,af,dF];omega
 .right
  have e:i=n:=by omega
  subst e;have V:¬i=0:=by omega
  simp[FW,FY,V,h58]
def FZ(k:Nat):AV:=if k=0 then .y9 else .slice 12 0 k none
def FX(d:agf)(n k:Nat)(u y:List UInt8)(H L:List Int)(i:Nat):Mem:=if i=0 then HP d n k u y H L else HP d n k u y H L++[.cells true 1 (qC (qH (cR d 1 L i)))]
theorem Jh(d:agf)(hd:d.Ok)(n k:Nat)(u y:List UInt8)(H L:List Int)(hL:L.length=n)(R:∀z∈L,z.natAbs<=100)(hn0:0<n)(hl:n<=1000)(hK:n<K)(I:ag f47=[b2,b3,b]):
  ∃F:Env->Bool->Env,∀Z S,(ad Z 4=.ptr 3 0/\ad Z 57=.slice 9 0 n none/\ad Z 58=.int .i64 n/\ad Z 59=.int .i64 0/\ad Z 10=.int .i64 1/\ad Z 11=.y9)->
   aT (aU prog) gv fu K 102 2 true (.loop b) ⟨Z,HP d n k u y H L,S⟩=some (.exit 4,⟨F Z S,HP d n k u y H L++[.cells true 1 (qC (qH (cR d 1 L n)))],S⟩)/\ad (F Z S) 11=.slice 12 0 n none/\
    (∀t,t∈[2,4,6,7,9,10,53,54]->ad (F Z S) t=ad Z t):=by
 refine bG (L:=[11,59]) (by simp[ag,aH,f47] at I;rw[<-I.2.2];rfl) (fun Z=>ad Z 4=.ptr 3 0/\ad Z 57=.slice 9 0 n none/\ad Z 58=.int .i64 n/\ad Z 59=.int .i64 0/\ad Z 10=.int .i64 1/\ad Z 11=.y9) (fun Z AC =>ad AC 11=.slice 12 0 n none/\(∀t,t∈[2,4,6,7,9,10,53,54]->ad AC t=ad Z t)) ?_;rintro Z S ⟨h4,h57,h58,h59,h10,h11⟩;simp[ag,aH,f47] at I;obtain⟨-,-,I⟩:=I;have hnE:au [11,59] (ab b) Z ((11,FZ 0)::(59,.int .i64 ((0:Nat):Int))::Z)=au [11,59] (ab b) Z Z:=by simp[au,h59,h11,FZ]
 rw[<-hnE];have hm1:(HP d n k u y H L).length=12:=rfl;have D:HP d n k u y H L++[.cells true 1 (qC (qH (cR d 1 L n)))]=FX d n k u y H L n:=by unfold FX;rw[if_neg (by omega)]
 rw[D];refine bW (α:=Nat) (fun i=>⟨au [11,59] (ab b) Z ((11,FZ i)::(59,.int .i64 (i:Int))::Z),FX d n k u y H L i,S⟩) (fun i=>n-i) (fun i=>i<=n) (.exit 4) _ S _ (by simp) ?_ K 0 (by omega) (by omega);intro i hi;clear hnE D;subst I;by_cases B':i<n
 .left
  have O:(1+i)%4<4:=Nat.mod_lt _ (by decide);have G:=zh d ((1+i)%4) O;have q2:=Pk hd.K ((1+i)%4);have Y:=Gq d 1 L i;have C:Nj d 1 i=((MW d.K ((1+i)%4)%4:Nat):Int):=rfl;have t4:(((1+i:Nat):Int)).tmod 4=(((1+i)%4:Nat):Int):=rfl;obtain⟨v,hv⟩:=xE (1+i);rw[<-hv] at O G q2 C t4;obtain⟨r,hr⟩:=xE (v%4);rw[<-hr] at O G q2 C t4;obtain⟨X,hX⟩:=xE (MW d.K r);rw[<-hX] at G q2 C;have t5:(X:Int).tmod 4=((X%4:Nat):Int):=rfl;have hx4:X%4<4:=Nat.mod_lt _ (by decide);obtain⟨x,hx⟩:=xE (X%4);rw[<-hx] at t5 hx4 C;have k1:=Zw (L:=L) (k:=i) (by omega);have hzl:(L.getD i 0).natAbs<=100:=by
   have:L.getD i 0∈L:=by rw[List.getD_eq_getElem?_getD,GT (by omega)];exact List.getElem_mem _
   exact R _ this
  obtain⟨z,hzz⟩:=xE (L.getD i 0);rw[<-hzz] at k1 hzl Y;rw[C] at Y;have B:=XL z (x:Int);have l1:=Di (z:=z) (by omega);have l2:=Di (z:=(x:Int)) (by omega);have g1:x<100000000:=by omega
  have M :=Qv L;have A :∀h,(qC (qH L))[i]'h=.str (aB (hQ z)):=fun h=>by rw[GT h] at k1;exact QQb k1
  rw[hL] at M;have ads :(r:Int)<4:=by omega
  have eQ:mkRat (x:Int) 2=hQ (x:Int):=rfl;have w1:IntKind.i64.wrap ((i:Int)+1)=((i+1:Nat):Int):=by rw[ai];omega
  have w2:IntKind.i64.wrap (1+(i:Int))=(v:Int):=by rw[ai];omega
  have w3:IntKind.i64.wrap (x:Int)=(x:Int):=cd (by omega) (by omega);obtain⟨m,hm⟩:=xE (i+1);rw[<-hm] at w1 Y;refine⟨m,?_⟩;have hmp:¬m=0:=by omega
  have W:qC (qH (cR d 1 L m))=qC (qH (cR d 1 L i))++[.str (aB (hQ (z+(x:Int))))]:=by rw[Y];simp[qH,qC]
  by_cases V:i=0
  .subst V
   have j:m=1:=by omega
   have w0:IntKind.i64.wrap 1=1:=rfl;have b0:qC (qH (cR d 1 L 0))=[]:=rfl;rw[b0,j,List.nil_append] at W;have hrj:r=1:=by omega
   subst hrj;have q1' :d.cells[8+1]? =some (.int .u8 (X:Nat)):=G;simp only[Nat.reduceAdd] at q1';have wj:IntKind.i64.wrap 1=1:=rfl;have tj:Int.tmod 1 4=1:=rfl;simp[FX,FZ,W,j,h4,h57,h58,h10,B',G,wj,tj,A,iX,gF,w3,t5,l1,l2,eQ,B,g1,aw,HP,ir,M,fu,af,dF];omega
  .obtain⟨Q,J⟩:=xE (qH (cR d 1 L i))
   have hQl:(qC Q).length=i:=by rw[J,Qv,fI]
   rw[<-J] at W;have g3:(qC Q).take i=qC Q:=GE (by omega);have g4:m*16<=140737488355328:=by omega
   have g5:m<=140737488355328:=by omega
   simp[FX,FZ,V,hmp,W,<-J,<-hm,h4,h57,h58,h10,B',G,A,iX,gF,w1,w2,w3,ads,t4,t5,l1,l2,eQ,B,g1,g3,g4,g5,hQl,aw,HP,ir,fO,M,fu,af,dF];omega
 .right
  have e:i=n:=by omega
  subst e;have V:¬i=0:=by omega
  simp[FX,FZ,V,h58]
theorem Vh(n:Nat):AV.ago n gF=[]:=rfl
theorem Zr(f:Nat->Bool):AV.af7 f gF=true:=rfl
theorem XU(f:Nat->Option Nat):AV.agd f gF=gF:=rfl
def cU(i:Nat):UInt8:=UInt8.ofNat (65+i)
theorem YC{i:Nat}(y:i<6):gF[i]? =some (.str [cU i]):=by
 have:i=0\/i=1\/i=2\/i=3\/i=4\/i=5:=by omega
 rcases this with rfl | rfl | rfl | rfl | rfl | rfl<;>rfl
def bE(i:Nat):Nat->List (List UInt8)
 |0=>[[cU i,49]]
 |1=>[[cU i,49],[cU i,50]]
 |_=>[[cU i,49],[cU i,50],[cU i,51]]
def Uw(n:Nat):Nat->AV
 |0=>.agg [.slice 2 0 n none,.slice 3 0 1 none,.y9]
 |1=>.agg [.slice 2 0 n none,.slice 3 0 2 none,.slice 4 0 1 none]
 |_=>.agg [.slice 2 0 n none,.slice 3 0 3 none,.slice 4 0 2 none]
def qG(d:agf)(n i:Nat):Nat->Mem
 |0=>[kR (bI d n),.cells true 1 ((bE i 0).map .str)]
 |1=>[kR (bI d n),.cells true 1 ((bE i 1).map .str),.cells true 1 [.slice 5 0 n none],kR (cR d 0 (bI d n) n)]
 |_=>[kR (bI d n),.cells true 1 ((bE i 2).map .str),.cells true 1 [.slice 5 0 n none,.slice 6 0 n none],kR (cR d 0 (bI d n) n),kR (cR d 1 (cR d 0 (bI d n) n) n)]
theorem ah1:aS prog 47=some f47:=by kernel_rfl
theorem BJ(d:agf)(hd:d.Ok)(n k i:Nat)(H:i<6)(y:0<n)(I:n<=1000)(Q:d.K.1%3=0):
  kO prog 47 [.agg [.slice 0 0 n none,.slice 1 0 k none],.agg d.cells,.int .i64 i] [.HS,.HS] (Uw n 0) ([.HS,.HS]++qG d n i 0):=by
 obtain⟨b,b2,b3,W⟩:∃b b2 b3,ag f47=[b,b2,b3]:=⟨_,_,_,rfl⟩
 obtain⟨K,z⟩:=xE (n+1);obtain⟨F,X⟩:=nZ (K:=K+5) d hd n k [cU i,49] I (by omega) W;have C:EY d n k [cU i,49] 0=[.HS,.HS,.cells true 0 [.slice 0 0 n none,.slice 1 0 k none],.cells true 0 d.cells,.cells true 0 [.y9,.y9,.y9],.cells true 1 gF,.cells true 1 [.str [cU i,49]],.cells true 0 [.y9,.slice 6 0 1 none,.y9]]:=rfl;have V:decide (0<n)=true:=by simpa using y
 rw[sG y,C,V] at X;have B:=fun Z h=>(X Z h).1
 have S:=fun Z h=>(X Z h).2.1
 have O:=fun Z h=>(X Z h).2.2.1
 have M:=fun Z h=>(X Z h).2.2.2.1
 have A:=fun Z h=>(X Z h).2.2.2.2
 clear X;simp[ag,aH,f47] at W;obtain⟨rfl,rfl,rfl⟩:=W;have J:=YC H;have G:d.cells[8]? =some (.int .u8 (d.K.1:Nat)):=rfl;have t3:((d.K.1:Nat):Int).tmod 3=0:=by have:((d.K.1:Nat):Int).tmod 3=((d.K.1%3:Nat):Int):=rfl;rw[this,Q];rfl
 have D :(i:Int)<6:=by omega
 have h:aa (aU prog) gv (aS prog) fu (K+5) 47 [.agg [.slice 0 0 n none,.slice 1 0 k none],.agg d.cells,.int .i64 i] [.HS,.HS]=some ⟨Uw n 0,some [.HS,.HS],qG d n i 0⟩:=by simp[aa,ah1,f47,B,S,O,M,fu,J,D,G,t3,w0,ir,fO,aR,fW,gv,Uw,qG,bE,kR,ix,bZ,aF];exact⟨rfl,rfl⟩
 have:=(ah ae (al _) uU (ao _) h).1;simpa [afA.mem] using this
theorem CZ(d:agf)(n:Nat):∀z∈bI d n,z.natAbs<=100:=by intro z Z;unfold bI at Z;obtain⟨k,_,rfl⟩:=QQj.1 Z;have:=Bl (d:=d) k;omega
theorem PG(d:agf)(n:Nat):∀z∈cR d 0 (bI d n) n,z.natAbs<=100:=by
 intro z X;unfold cR at X;obtain⟨k,Z,rfl⟩:=QQj.1 X;have Z:=List.mem_range.1 Z;have W:(bI d n).getD k 0=OQ d k:=by simp[bI,List.getD_eq_getElem?_getD,Z]
 rw[W];have V:=Bl (d:=d) k;unfold Nj;have h3:MW d.K ((0+k)%4)%4<4:=Nat.mod_lt _ (by decide);omega
theorem BK(d:agf)(hd:d.Ok)(n k i:Nat)(I:i<6)(y:0<n)(H:n<=1000)(Q:d.K.1%3=1):
  kO prog 47 [.agg [.slice 0 0 n none,.slice 1 0 k none],.agg d.cells,.int .i64 i] [.HS,.HS] (Uw n 1) ([.HS,.HS]++qG d n i 1):=by
 obtain⟨b,b2,b3,S⟩:∃b b2 b3,ag f47=[b,b2,b3]:=⟨_,_,_,rfl⟩
 obtain⟨K,hK⟩:=xE (n+1);obtain⟨F,V⟩:=nZ (K:=K+5) d hd n k [cU i,49] H (by omega) S;have R:EY d n k [cU i,49] 0=[.HS,.HS,.cells true 0 [.slice 0 0 n none,.slice 1 0 k none],.cells true 0 d.cells,.cells true 0 [.y9,.y9,.y9],.cells true 1 gF,.cells true 1 [.str [cU i,49]],.cells true 0 [.y9,.slice 6 0 1 none,.y9]]:=rfl;have O:decide (0<n)=true:=by simpa using y
 rw[sG y,R,O] at V;have S':=fun Z h=>(V Z h).1
 have M:=fun Z h=>(V Z h).2.1
 have J:=fun Z h=>(V Z h).2.2.1
 have G:=fun Z h=>(V Z h).2.2.2.1
 have D:=fun Z h=>(V Z h).2.2.2.2
 clear V;obtain⟨I0,W⟩:=zv (K:=K+5) d hd n k [cU i,49] (bI d n) (eK d n) (CZ d n) y H (by omega) S;have hu:=fun s=>aR (aU prog) gv fu (K+5) 102 2 true s b2
 simp only[EZ] at W;have p1:=fun Z X h=>(W Z X h).1
 have C:=fun Z X h=>(W Z X h).2.1
 have B:=fun Z X h=>(W Z X h).2.2 2 (by simp)
 have pt4:=fun Z X h=>(W Z X h).2.2 4 (by simp)
 have pt6:=fun Z X h=>(W Z X h).2.2 6 (by simp)
 have A:=fun Z X h=>(W Z X h).2.2 7 (by simp)
 have pt9:=fun Z X h=>(W Z X h).2.2 9 (by simp)
 have z:=fun Z X h=>(W Z X h).2.2 10 (by simp)
 have ae3:=fun Z X h=>(W Z X h).2.2 53 (by simp)
 have u:=fun Z X h=>(W Z X h).2.2 54 (by simp)
 clear W;simp[ag,aH,f47] at S;obtain⟨rfl,rfl,rfl⟩:=S;have m:=YC I;have j:d.cells[8]? =some (.int .u8 (d.K.1:Nat)):=rfl;have t3:((d.K.1:Nat):Int).tmod 3=1:=by have:((d.K.1:Nat):Int).tmod 3=((d.K.1%3:Nat):Int):=rfl;rw[this,Q];rfl
 have z2:zS 2=[50]:=rfl;have z3:zS 3=[51]:=rfl;have w1' :IntKind.i64.wrap (1+1)=2:=rfl;have w3' :IntKind.i64.wrap (1+2)=3:=rfl;have w2' :IntKind.i64.wrap (0+2)=2:=rfl;have Y :(i:Int)<6:=by omega
 have h:aa (aU prog) gv (aS prog) fu (K+5) 47 [.agg [.slice 0 0 n none,.slice 1 0 k none],.agg d.cells,.int .i64 i] [.HS,.HS]=some ⟨Uw n 1,some [.HS,.HS],qG d n i 1⟩:=by
  simp[aa,ah1,f47,S',M,J,G,D,fu,m,Y,j,t3,iX,FO,Vh,Zr,XU,ir,fO,hu,fW,p1,C,B,A,z,u,w1,w2,z2,af,dF,Nat.testBit,List.idxOf?_cons,List.idxOf?_cons,gv,Uw,qG,bE,kR,ix,bZ,aF]
  repeat' (first | rfl | apply And.intro)
 have:=(ah ae (al _) uU (ao _) h).1;simpa [afA.mem] using this
theorem BL(d:agf)(hd:d.Ok)(n k i:Nat)(hi:i<6)(y:0<n)(H:n<=1000)(hJ:d.K.1%3=2):
  kO prog 47 [.agg [.slice 0 0 n none,.slice 1 0 k none],.agg d.cells,.int .i64 i] [.HS,.HS] (Uw n 2) ([.HS,.HS]++qG d n i 2):=by
 obtain⟨b,b2,b3,O⟩:∃b b2 b3,ag f47=[b,b2,b3]:=⟨_,_,_,rfl⟩
 obtain⟨K,hK⟩:=xE (n+1);obtain⟨F,S⟩:=nZ (K:=K+5) d hd n k [cU i,49] H (by omega) O;have e0:EY d n k [cU i,49] 0=[.HS,.HS,.cells true 0 [.slice 0 0 n none,.slice 1 0 k none],.cells true 0 d.cells,.cells true 0 [.y9,.y9,.y9],.cells true 1 gF,.cells true 1 [.str [cU i,49]],.cells true 0 [.y9,.slice 6 0 1 none,.y9]]:=rfl;have M:decide (0<n)=true:=by simpa using y
 rw[sG y,e0,M] at S;have S':=fun Z h=>(S Z h).1
 have J:=fun Z h=>(S Z h).2.1
 have G:=fun Z h=>(S Z h).2.2.1
 have D:=fun Z h=>(S Z h).2.2.2.1
 have C:=fun Z h=>(S Z h).2.2.2.2
 clear S;obtain⟨I0,V⟩:=zv (K:=K+5) d hd n k [cU i,49] (bI d n) (eK d n) (CZ d n) y H (by omega) O;obtain⟨I1,W⟩:=Jh (K:=K+5) d hd n k [cU i,49] [cU i,50] (bI d n) (cR d 0 (bI d n) n) (fI _ _ _ _) (PG d n) y H (by omega) O;have hu:=fun s=>aR (aU prog) gv fu (K+5) 102 2 true s b2
 simp only[EZ] at V;simp only[HP] at W;have p1:=fun Z X h=>(V Z X h).1
 have B:=fun Z X h=>(V Z X h).2.1
 have A:=fun Z X h=>(V Z X h).2.2 2 (by simp)
 have pt4:=fun Z X h=>(V Z X h).2.2 4 (by simp)
 have pt6:=fun Z X h=>(V Z X h).2.2 6 (by simp)
 have z:=fun Z X h=>(V Z X h).2.2 7 (by simp)
 have pt9:=fun Z X h=>(V Z X h).2.2 9 (by simp)
 have u:=fun Z X h=>(V Z X h).2.2 10 (by simp)
 have ae3:=fun Z X h=>(V Z X h).2.2 53 (by simp)
 have m:=fun Z X h=>(V Z X h).2.2 54 (by simp)
 have q1:=fun Z X h=>(W Z X h).1
 have j:=fun Z X h=>(W Z X h).2.1
 have Y:=fun Z X h=>(W Z X h).2.2 2 (by simp)
 have qt4:=fun Z X h=>(W Z X h).2.2 4 (by simp)
 have qt6:=fun Z X h=>(W Z X h).2.2 6 (by simp)
 have R:=fun Z X h=>(W Z X h).2.2 7 (by simp)
 have qt9:=fun Z X h=>(W Z X h).2.2 9 (by simp)
 have Q:=fun Z X h=>(W Z X h).2.2 10 (by simp)
 have afW:=fun Z X h=>(W Z X h).2.2 53 (by simp)
 have I:=fun Z X h=>(W Z X h).2.2 54 (by simp)
 clear V W;simp[ag,aH,f47] at O;obtain⟨rfl,rfl,rfl⟩:=O;have hna:=YC hi;have hK8:d.cells[8]? =some (.int .u8 (d.K.1:Nat)):=rfl;have t3:((d.K.1:Nat):Int).tmod 3=2:=by have:((d.K.1:Nat):Int).tmod 3=((d.K.1%3:Nat):Int):=rfl;rw[this,hJ];rfl
 have z2:zS 2=[50]:=rfl;have z3:zS 3=[51]:=rfl;have w1' :IntKind.i64.wrap (1+1)=2:=rfl;have w3' :IntKind.i64.wrap (1+2)=3:=rfl;have w2' :IntKind.i64.wrap (0+2)=2:=rfl;have hi' :(i:Int)<6:=by omega
 have h:aa (aU prog) gv (aS prog) fu (K+5) 47 [.agg [.slice 0 0 n none,.slice 1 0 k none],.agg d.cells,.int .i64 i] [.HS,.HS]=some ⟨Uw n 2,some [.HS,.HS],qG d n i 2⟩:=by
  simp[aa,ah1,f47,S',J,G,D,C,fu,hna,hi',hK8,t3,iX,FO,Vh,Zr,XU,ir,fO,hu,fW,p1,B,A,z,u,m,q1,j,Y,R,Q,I,w1,w2,w3,z2,z3,af,dF,Nat.testBit,List.idxOf?_cons,List.idxOf?_cons,gv,Uw,qG,bE,kR,ix,bZ,aF]
  repeat' (first | rfl | apply And.intro)
 have:=(ah ae (al _) uU (ao _) h).1;simpa [afA.mem] using this
def aZ(nm:List UInt8)(b u s:AV):List AV:=[.int .i64 1,.str nm,b,u,s,.str [],.str [],.str [],.str [],.str [],.str [],.str [],.str [],.str [],.str [],.y9,.str [],.str [],.str [],.str [],.str [],.str [],.str [],.str [],.str [],.int .i64 0,.int .i64 0,.int .i64 0,.int .i64 0,.str [],.str [],.str []]
def cO(nm:List UInt8)(n:Z3)(o:Int)(s:Z3):List AV:=[.int .i64 2,.str nm,.y9,.y9,.y9,.str (zS n.1),.str (zS n.2.1),.str (zS n.2.2),.str (zS o),.str (zS s.1),.str (zS s.2.1),.str (zS s.2.2),.str [],.str [],.str [],.y9,.str [],.str [],.str [],.str [],.str [],.str [],.str [],.str [],.str [],.int .i64 0,.int .i64 0,.int .i64 0,.int .i64 0,.str [],.str [],.str []]
def cn(nm:List UInt8)(n:Z3)(k:AV)(s:Z3):List AV:=[.int .i64 3,.str nm,.y9,.y9,.y9,.str [],.str [],.str [],.str [],.str [],.str [],.str [],.str (zS n.1),.str (zS n.2.1),.str (zS n.2.2),k,.str (zS s.1),.str (zS s.2.1),.str (zS s.2.2),.str [],.str [],.str [],.str [],.str [],.str [],.int .i64 0,.int .i64 0,.int .i64 0,.int .i64 0,.str [],.str [],.str []]
def dY(nm:List UInt8)(n:Z3)(o:Int)(w:Int)(u:List UInt8):List AV:=[.int .i64 4,.str nm,.y9,.y9,.y9,.str [],.str [],.str [],.str [],.str [],.str [],.str [],.str [],.str [],.str [],.y9,.str [],.str [],.str [],.str (zS n.1),.str (zS n.2.1),.str (zS n.2.2),.str (zS o),.str (aB (hQ w)),.str u,.int .i64 0,.int .i64 0,.int .i64 0,.int .i64 0,.str [],.str [],.str []]
def eG(nm:List UInt8)(t:Int×Int×Int×Int)(c:Z3):List AV:=[.int .i64 5,.str nm,.y9,.y9,.y9,.str [],.str [],.str [],.str [],.str [],.str [],.str [],.str [],.str [],.str [],.y9,.str [],.str [],.str [],.str [],.str [],.str [],.str [],.str [],.str [],.int .i64 t.1,.int .i64 t.2.1,.int .i64 t.2.2.1,.int .i64 t.2.2.2,.str (zS c.1),.str (zS c.2.1),.str (zS c.2.2)]
def bR(i:Nat):List UInt8:=101::zS i
def ju(i:Nat):List UInt8:=107::zS i
def cK:Nat->Int×Int×Int×Int
 |0=>(1,0,0,1)
 |1=>(2,1,0,0)
 |2=>(1,1,1,1)
 |3=>(3,0,1,0)
 |4=>(0,1,0,0)
 |_=>(1,0,0,0)
def Sl(m n:Nat):Nat->AV
 |0=>.agg [.slice m 0 n none,.slice (m+1) 0 1 none,.y9]
 |1=>.agg [.slice m 0 n none,.slice (m+1) 0 2 none,.slice (m+2) 0 1 none]
 |_=>.agg [.slice m 0 n none,.slice (m+1) 0 3 none,.slice (m+2) 0 2 none]
def jS(m:Nat)(d:agf)(n i:Nat):Nat->Mem
 |0=>[kR (bI d n),.cells true 1 ((bE i 0).map .str)]
 |1=>[kR (bI d n),.cells true 1 ((bE i 1).map .str),.cells true 1 [.slice (m+3) 0 n none],kR (cR d 0 (bI d n) n)]
 |_=>[kR (bI d n),.cells true 1 ((bE i 2).map .str),.cells true 1 [.slice (m+3) 0 n none,.slice (m+4) 0 n none],kR (cR d 0 (bI d n) n),kR (cR d 1 (cR d 0 (bI d n) n) n)]
theorem Ee(d:agf)(hd:d.Ok)(n k i:Nat)(y:i<6)(H:0<n)(I:n<=1000)(M:Mem)(b c:Nat)(Q:b<M.length)(hc:c<M.length):
  kO prog 47 [.agg [.slice b 0 n none,.slice c 0 k none],.agg d.cells,.int .i64 i] M (Sl M.length n (d.K.1%3)) (M++jS M.length d n i (d.K.1%3)):=by
 have S:d.K.1%3<3:=Nat.mod_lt _ (by decide);have V:∀J,d.K.1%3=J->J<3->kO prog 47 [.agg [.slice 0 0 n none,.slice 1 0 k none],.agg d.cells,.int .i64 i] [.HS,.HS] (Uw n J) ([.HS,.HS]++qG d n i J):=by
  intro J Z X;have:J=0\/J=1\/J=2:=by omega
  rcases this with rfl | rfl | rfl
  .exact BJ d hd n k i y H I Z
  .exact BK d hd n k i y H I Z
  .exact BL d hd n k i y H I Z
 have O:=V _ rfl S;obtain⟨J,Z⟩:=xE (d.K.1%3);rw[<-Z] at S O |-;have:=kO.frame (M:=M) (new:=qG d n i J) (args:=[.agg [.slice 0 0 n none,.slice 1 0 k none],.agg d.cells,.int .i64 i]) [b,c] (m:=[.HS,.HS]) rfl (by
  intro k G;simp only[lM] at G;rcases G with rfl | rfl
  .exact Q
  .exact hc) (by rfl) (fun i s W=>by
  match i with
  |0=>simp at W;subst W;trivial
  |1=>simp at W;subst W;trivial
  |i+2=>simp at W) (by
  have:J=0\/J=1\/J=2:=by omega
  rcases this with rfl | rfl | rfl<;>rfl) O
 have X:J=0\/J=1\/J=2:=by omega
 rcases X with rfl | rfl | rfl<;>simpa [AV.agd,AV.ren,eg,af6.ren,Uw,qG,Sl,jS,kR,fO,bE,FO] using this
open Classical in
noncomputable def eI(d:agf):af3:=fun c Z M=>match c,Z with
 |.fn 46,[.agg [.int .i8 a,.int .i8 b,.int .i8 c]]=>if fR 200 (a,b,c) then some ⟨zA (bQ (a,b,c)),none,[]⟩ else none
 |.fn 48,[.agg [.str s,.str t,.str u],.agg [.str s',.str t',.str u']]=>match eS s,eS t,eS u,eS s',eS t',eS u' with
  |some a,some b,some c,some d,some e,some f=>if (a.den=1/\b.den=1/\c.den=1/\d.den=1/\e.den=1/\f.den=1)/\fR 2 (a.num,b.num,c.num)/\fR 2 (d.num,e.num,f.num) then some ⟨zA (fx (a.num,b.num,c.num) (d.num,e.num,f.num)),none,[]⟩ else none
  |_,_,_,_,_,_=>none
 |.fn 25,[.int .i64 a,.int .i64 b,.int .i64 c]=>if a.natAbs<=10000/\b.natAbs<=10000/\c.natAbs<=10000 then some ⟨zA (a,b,c),none,[]⟩ else none
 |.fn 47,[.agg [.slice b 0 n none,.slice c 0 _ none],.agg cs,.int .i64 i]=>if cs=d.cells/\0<=i/\i<6/\0<n/\n<=1000/\b<M.length/\c<M.length then some ⟨Sl M.length n (d.K.1%3),none,jS M.length d n i.toNat (d.K.1%3)⟩ else none
 |c,Z=>af dF c Z M
theorem jA(d:agf)(hd:d.Ok):adM prog (eI d):=by
 refine cP fun c Z M r h=>?_
 unfold eI at h;split at h
 .split at h
  .rename_i hc
   cases h;refine aC ?_;rw[List.append_nil];exact GB _ hc M
  .cases h
 .split at h
  .rename_i a b c d e f X W hc hd he V
   split at h
   .rename_i S
    obtain⟨⟨d1,d2,d3,d4,d5,d6⟩,O,J⟩:=S;cases h;refine aC ?_;rw[List.append_nil];rw[aA X,aA W,aA hc,aA hd,aA he,aA V];have:=GA (a.num,b.num,c.num) (d.num,e.num,f.num) O J M;unfold zA at this;simp only at this;have k:∀q:Rat,q.den=1->zS q.num=aB q:=fun q hq=>by unfold zS;rw[<-iS hq]
    rw[k a d1,k b d2,k c d3,k d d4,k e d5,k f d6] at this;exact this
   .cases h
  .cases h
 .split at h
  .rename_i hc
   cases h;refine aC ?_;rw[List.append_nil];exact BV (_,_,_) hc M
  .cases h
 .rename_i b n c k B i
  split at h
  .rename_i hc
   obtain⟨rfl,G,A,h3,F,D,C⟩:=hc;cases h;refine aC ?_;have:=Ee d hd n k i.toNat (by omega) h3 F M b c D C;rw[QQe G] at this;exact this
  .cases h
 .exact fK Cm h
theorem Yn(d:agf):d.cells[8]? =some (.int .u8 (d.K.1:Nat)):=rfl
theorem Yj(d:agf):d.cells[0]? =some (.int .u8 (d.kind:Nat)):=rfl
theorem Yk(d:agf):d.cells[4]? =some (.int .i8 d.B.1):=rfl
theorem Yl(d:agf):d.cells[5]? =some (.int .i8 d.B.2.1):=rfl
theorem Ym(d:agf):d.cells[6]? =some (.int .i8 d.B.2.2):=rfl
theorem Yo(d:agf):d.cells.tail.take 3=[.int .i8 d.A.1,.int .i8 d.A.2.1,.int .i8 d.A.2.2]:=rfl
theorem xC(h:W1 v):fR 200 v:=by obtain⟨Z,X,h3⟩:=h;unfold Nx at Z X h3;exact⟨by omega,by omega,by omega⟩
theorem Ao(d:agf)(hd:d.Ok)(n k i:Nat)(hi:i<6)(hn:0<n)(hl:n<=1000)(hk:d.kind%5=1):
  kO prog 28 [.agg [.slice 0 0 n none,.slice 1 0 k none],.agg d.cells,.int .i64 i] [.HS,.HS] (.agg (cO (bR i) (bQ d.A) (d.N.tmod 5) (fx (bQ d.A) (uO d.B)))) ([.HS,.HS]++[]):=by
 have hG:aS prog 28=some f28:=by kernel_rfl
 obtain⟨os,u⟩:∃os,aN f28=os:=⟨_,rfl⟩
 have PP:=bP u (ls:=[[0,0,2,6,14,30,63,0,255],[0,1,3,7,15,0,32,96,255,0,1023],[0,0,0,4,12,28,60,0,128,384,896,1920,0,4096,12288,28672,61440,131068,262142,524287,1048575,2097151],[0,0,0,4,12,28,60,0,128,384,896,1920,0,4096,12288,28672,61440,131068,262142,524287,1048575,2097151],[0,1,3,0,8,24,56,0,128,504,1016,0,0,6144,14336,30720,63488,129024,0,262144,786432,1835008,3932160,8126464,16777208,33554424,67108856,134217727,268435455,536870911,1073741823],[0,0,2,6,14,30,62,126,0,510,1022,2047,4095,8191],[0,0,0,0,0,0,63,0,128,384,896,2047,4095,0,8192,24576,57344,122880,0,262144,786432,1835008,3932160,0,8388608,25165824,58720256,125829120,268427264,536870911,1073741823,2147483647]]) (by kernel_rfl);simp only[aN,cj,f28,lA] at u;subst u;simp only[lB] at PP;obtain⟨m,j,Y,hb3,hb4,hb5,hb6⟩:=PP;have R:be [0,0,2,6,14,30,63,0,255] 8=true:=by decide
 have Q:be [0,1,3,7,15,0,32,96,255,0,1023] 10=true:=by decide
 have I:be [0,0,0,4,12,28,60,0,128,384,896,1920,0,4096,12288,28672,61440,131068,262142,524287,1048575,2097151] 21=true:=by decide
 have ae7:be [0,0,2,6,14,30,62,126,0,510,1022,2047,4095,8191] 13=true:=by decide
 have ae8:be [0,0,0,0,0,0,63,0,128,384,896,2047,4095,0,8192,24576,57344,122880,0,262144,786432,1835008,3932160,0,8388608,25165824,58720256,125829120,268427264,536870911,1073741823,2147483647] 31=true:=by decide
 have hN:=hd.N;have hB:=xC hd.B;have hA:=xC hd.A;have H:=cL d.A;have z:=iq d.B;have y:=pq d.N 5 (by decide);have h8:=Yn d;have h0:=Yj d;have h4:=Yk d;have h5:=Yl d;have h6:=Ym d;have h7:=WS d;have h1:=Yo d;have l0:=zH d;have r0:=iX d;have o0:=Mn d;have okd:=jA d hd;clear hd;obtain⟨S,⟨O,M,J⟩,⟨Z,X,W⟩,N,⟨K1,K2,K3,K4⟩⟩:=d;simp only at hk hN hB hA H z y h8 h0 h4 h5 h6 h7 h1 |-;simp only[Int.cast_ofNat_Int] at y;unfold Nx at hN;obtain⟨hB1,hB2,hB3⟩:=hB;simp only at hB1 hB2 hB3;have wN:IntKind.i64.wrap N=N:=cd (by omega) (by omega);have wB1:IntKind.i64.wrap Z=Z:=cd (by omega) (by omega);have wB2:IntKind.i64.wrap X=X:=cd (by omega) (by omega);have wB3:IntKind.i64.wrap W=W:=cd (by omega) (by omega);have hkt:((S:Nat):Int).tmod 5=1:=by have:((S:Nat):Int).tmod 5=((S%5:Nat):Int):=rfl;rw[this,hk];rfl
 obtain⟨⟨nx,ny,nz⟩,e1⟩:∃v,v=bQ (O,M,J):=⟨_,rfl⟩
 rw[<-e1] at H;have e2:uO (Z,X,W)=(Z.tmod 3,X.tmod 3,W.tmod 3):=rfl;rw[e2] at z;obtain⟨o,ho⟩:=xE (N.tmod 5);rw[<-ho] at y;have go:o.natAbs<100000000:=by omega
 have gi:i<100000000:=by omega
 obtain⟨bx,G⟩:=xE (Z.tmod 3);obtain⟨V,F⟩:=xE (X.tmod 3);obtain⟨bz,D⟩:=xE (W.tmod 3);rw[<-G,<-F,<-D] at z e2;obtain⟨g1,g2,g3⟩:=z;simp only at g1 g2 g3;have g1' :bx.natAbs<=10000:=by omega
 have g2' :V.natAbs<=10000:=by omega
 have g3' :bz.natAbs<=10000:=by omega
 have m2:fR 2 (bx,V,bz):=⟨g1,g2,g3⟩;obtain⟨C,hC⟩:=xE (agf.cells ⟨S,(O,M,J),(Z,X,W),N,(K1,K2,K3,K4)⟩);rw[<-hC] at h8 h0 h4 h5 h6 h7 h1 l0 r0 o0;have hC' :agf.cells ⟨S,(O,M,J),(Z,X,W),N,(K1,K2,K3,K4)⟩=C:=hC.symm;have tk:C.take 12=C:=GE (by omega);have j8:∀h,C[8]'h=_:=gE h8
 have j0:∀h,C[0]'h=_:=gE h0
 have j4:∀h,C[4]'h=_:=gE h4
 have j5:∀h,C[5]'h=_:=gE h5
 have j6:∀h,C[6]'h=_:=gE h6
 have j7:∀h,C[7]'h=_:=gE h7
 have hp:=jf;have u12:IntKind.i64.wrap (1+1)=2:=rfl;have u13:IntKind.i64.wrap (1+2)=3:=rfl;have u14:IntKind.i64.wrap (1+3)=4:=rfl;have u15:IntKind.i64.wrap (1+4)=5:=rfl;have hip:=gG (n:=(i:Int)) (by omega);have ace :(zS (i:Int)).length+1<=9223372036854775807:=by unfold zS;omega
 have aa2:1+(zS (i:Int)).length<=9223372036854775807:=by omega
 have h:aa (aU prog) (fun _=>[]) (aS prog) (eI ⟨S,(O,M,J),(Z,X,W),N,(K1,K2,K3,K4)⟩) 1 28 [.agg [.slice 0 0 n none,.slice 1 0 k none],.agg C,.int .i64 i] [.HS,.HS]=some ⟨(.agg (cO (bR i) (bQ (O,M,J)) (N.tmod 5) (fx (bQ (O,M,J)) (uO (Z,X,W))))),none,[]⟩:=by
  rw[e2,<-e1,<-ho];obtain⟨⟨sx,sy,sz⟩,hs⟩:∃v,v=fx (nx,ny,nz) (bx,V,bz):=⟨_,rfl⟩
  rw[<-hs];simp[aa,hG,f28,eI,af,dF,zA,l0,j0,j4,j5,j6,j7,h1,hA,<-e1,hkt,wN,wB1,wB2,wB3,<-ho,<-G,<-F,<-D,go,gi,g1',g2',g3',hp,H,m2,w1,w2,aa2,ix,bZ,aF,-aJ,cV m,cV j,cV Y,kX,qM,D2,nV,dm,qS,bef,R,Q,I,Nat.testBit,<-hs,cO,bR]
 have:=(ah ae (al _) okd (ao _) h).1;rw[<-hC];simpa [afA.mem] using this
end Go.Proofs
