/- See F54. -/
import Derived.Test.YtgafjliihahjgaaGreatDoorF15
set_option linter.all false
set_option maxRecDepth 100000
set_option maxHeartbeats 40000000
namespace Go.Proofs
open Go.Eng
open Tryz
noncomputable def dm(f:FuncId)(args:List AV):Option AV:=
 match f,args with
 |34,[.int .i64 n,.int .i64 d]=>if 0<d∧n.natAbs<10 ^ 8∧d.toNat<10 ^ 8 then some (.str (ak (mkRat n d.toNat))) else none
 |81,[.str s,.str t]=>match dC s,dC t with
  |some a,some b=>if (ak a).length≤9∧(ak b).length≤9 then some (.str (ak (a+b))) else none
  |_,_=>none
 |44,[.int .i64 n]=>if n.natAbs<10 ^ 8 then some (.str (zS n)) else none
 |_,_=>none
theorem Bf:HS prog (af dm):=bH fun f Z v h mem=>by
 unfold dm at h;split at h
 ·rename_i n d
  split at h
  ·rename_i hc
   cases h;have:=Ij n d.toNat (by omega) hc.2.1 hc.2.2 mem;rw[Int.toNat_of_nonneg (by omega)] at this;exact this
  ·cases h
 ·split at h
  ·rename_i m n X W
   split at h
   next hc=>cases h;rw[aw X,aw W];exact DT m n hc.1 hc.2 mem
   ·cases h
  ·cases h
 ·split at h
  next hc=>cases h;exact HZ _ hc mem
  ·cases h
 ·cases h
def fW:List AV:=[.str [65],.str [66],.str [67],.str [68],.str [69],.str [70]]
theorem H9:kO prog 80 [] [] (.slice 0 0 6 none) [.cells true 1 fW]:=by
 have Z:aK prog 80=some f80:=by kernel_rfl
 have h:aa (aN prog) (fun _=>[]) (aK prog) bM 1 80 [] []=some ⟨.slice 0 0 6 none,none,[.cells true 1 fW]⟩:=by simp[aa,Z,f80,fW]
 have:=(ah ae (ar _) (al _) (au _) h).1;simpa [aeQ.mem] using this
theorem Ni(M:Mem):kO prog 80 [] M (.slice M.length 0 6 none) (M++[.cells true 1 fW]):=by have:=kO.frame (M:=M) (new:=[.cells true 1 fW]) (args:=[]) [] (m:=[]) rfl (by simp) (by rfl) (fun i s Z=>by simp at Z) rfl H9;simpa [AV.ren,AV.ae3,dL,aeY.ren,fW] using this
noncomputable def ez:aeT:=fun c Z M=>match c,Z with
 |.fn 80,[]=>some ⟨.slice M.length 0 6 none,none,[.cells true 1 fW]⟩
 |c,Z=>af dm c Z M
theorem tL:HS prog ez:=by
 refine dE fun c Z M r h=>?_
 unfold ez at h;split at h
 ·cases h;exact aI (Ni M)
 ·exact jx Bf h
def ZU(d:ae6)(n k:Nat)(u:List UInt8)(x:AV):Mem:=
 [.aeP,.aeP,.cells true 0 [.slice 0 0 n none,.slice 1 0 k none],.cells true 0 d.cells,.cells true 0 [.y9,.y9,.y9],.cells true 1 fW,.cells true 1 [.str u],.cells true 0 [x,.slice 6 0 1 none,.y9]]
def DE(d:ae6)(n k:Nat)(u:List UInt8)(j:Nat):Mem:=if j=0 then ZU d n k u .y9 else ZU d n k u (.slice 8 0 j none)++[.cells true 1 (qC (qH (bI d j)))]
theorem ia(d:ae6)(n:Nat):AV.afc n d.cells=[]:=rfl
theorem LD(d:ae6)(f:Nat→Bool):AV.aeW f d.cells=true:=rfl
theorem Eh(d:ae6)(f:Nat→Option Nat):AV.ae3 f d.cells=d.cells:=rfl
theorem yu(d:ae6):d.cells.length=12:=rfl
theorem Wy(d:ae6):d.cells[7]? =some (.int .i8 d.N):=rfl
variable{d:ae6}{k:Nat}
theorem qU{n:Nat}{u:List UInt8}{j:Nat}(h:0<j):DE d n k u j=[.aeP,.aeP,.cells true 0 [.slice 0 0 n none,.slice 1 0 k none],.cells true 0 d.cells,.cells true 0 [.y9,.y9,.y9],.cells true 1 fW,.cells true 1 [.str u],.cells true 0 [.slice 8 0 j none,.slice 6 0 1 none,.y9],.cells true 1 (qC (qH (bI d j)))]:=by unfold DE;rw[if_neg (by omega)];rfl
def fO(c:Code):List Nat:=if (ab c).contains 24 then [24,24] else if (ab c).contains 54 then [9,9,54] else [11,59]
theorem RZ(d:ae6)(j:Nat)(G:j<3):d.cells[1+j]? =some (.int .i8 (Xv d.A j)):=by
 have:j=0∨j=1∨j=2:=by omega
 rcases this with rfl | rfl | rfl<;>rfl
theorem Yl{v:Int×Int×Int}(h:WJ v)(j:Nat):Ak (Xv v j):=by
 unfold Xv;split
 ·exact h.1
 ·split
  ·exact h.2.1
  ·exact h.2.2
theorem Ae(k:Nat):(Ov d k).natAbs≤8:=by have Z:=nT d.N 4 (by decide);have X:=nT (Xv d.A (k%3)) 3 (by decide);unfold Ov;simp only[Int.cast_ofNat_Int] at Z X;omega
variable{K:Nat}{b b2 b3:Code}
theorem mQ(d:ae6)(hd:d.Ok)(n k:Nat)(u:List UInt8)(hl:n≤1000)(hK:n<K)(G:ai f47=[b,b2,b3]):
  ∃F:Env→Env,∀Z,(ad Z 4=.ptr 3 0∧ad Z 7=.ptr 7 0∧ad Z 23=.int .i64 n∧ad Z 24=.int .i64 0∧ad Z 6=.ptr 4 0)→
   aM (aN prog) fO ez K 102 2 true (.loop b) ⟨Z,DE d n k u 0,false⟩=some (.exit 0,⟨F Z,DE d n k u n,decide (0<n)⟩)∧ad (F Z) 4=.ptr 3 0∧ad (F Z) 7=.ptr 7 0∧ad (F Z) 6=.ptr 4 0∧ad (F Z) 2=ad Z 2:=by
 refine uJ (L:=[24,24]) (by simp[ai,aG,f47] at G;rw[←G.1];rfl) false _ (fun Z=>ad Z 4=.ptr 3 0∧ad Z 7=.ptr 7 0∧ad Z 23=.int .i64 n∧ad Z 24=.int .i64 0∧ad Z 6=.ptr 4 0) (fun Z AC =>ad AC 4=.ptr 3 0∧ad AC 7=.ptr 7 0∧ad AC 6=.ptr 4 0∧ad AC 2=ad Z 2) ?_;rintro Z ⟨h4,h7,h23,h24,h6⟩;obtain⟨os,Do⟩:∃os,aC f47=os:=⟨_,rfl⟩
 have V:=be Do (ls:=[[0,1,0,4,12,28,60,0,128,0,896,1920,3968,8064,16380,32764,65532,131071,262143,524287],[0,1,0,0,12,28,0,64,196,508,1020,2047,4095,8191]]) (by kernel_rfl);have S:qQ [0,1,0,4,12,28,60,0,128,0,896,1920,3968,8064,16380,32764,65532,131071,262143,524287] 20 16=true:=by decide
 have O:qQ [0,1,0,4,12,28,60,0,128,0,896,1920,3968,8064,16380,32764,65532,131071,262143,524287] 20 17=true:=by decide
 have M:qQ [0,1,0,4,12,28,60,0,128,0,896,1920,3968,8064,16380,32764,65532,131071,262143,524287] 20 19=true:=by decide
 have J:ba [0,1,0,4,12,28,60,0,128,0,896,1920,3968,8064,16380,32764,65532,131071,262143,524287] 17=true:=by decide
 have D:ba [0,1,0,4,12,28,60,0,128,0,896,1920,3968,8064,16380,32764,65532,131071,262143,524287] 19=true:=by decide
 simp only[aC,bn,f47,lA] at Do;subst Do;simp only[lB] at V;obtain⟨C,-⟩:=V;simp[ai,aG,f47] at G;obtain⟨G,-⟩:=G;have B:aD [24,24] (ab b) Z ((24,.int .i64 ((0:Nat):Int))::Z)=aD [24,24] (ab b) Z Z:=by simp[aD,h24]
 rw[←B];have hm1:(DE d n k u 0).length=8:=rfl;refine dh (α:=Nat) (fun j=>⟨aD [24,24] (ab b) Z ((24,.int .i64 (j:Int))::Z),DE d n k u j,decide (0<j)⟩) (fun j=>n-j) (fun j=>j≤n) (.exit 0) _ _ _ (by simp) ?_ K 0 (by omega) (by omega);intro j hn1;clear B;subst G;by_cases FS:j<n
 ·left
  have Y:=RZ d (j%3) (Nat.mod_lt _ (by decide));have q2:=Yl hd.A (j%3);have q3:=nT d.N 4 (by decide);have q4:=nT (Xv d.A (j%3)) 3 (by decide);simp only[Int.cast_ofNat_Int] at q3 q4;have hbz:=Ae (d:=d) j;have V:=RC d j;have hz:Ov d j=2*d.N.tmod 4+(Xv d.A (j%3)).tmod 3:=rfl;obtain⟨X,hX⟩:=xE (Xv d.A (j%3));rw[←hX] at Y q2 q4 hz;obtain⟨x,hx⟩:=xE (X.tmod 3);obtain⟨y,hy⟩:=xE (d.N.tmod 4);rw[←hx] at q4 hz;rw[←hy] at q3 hz;have W:=YV y x;rw[←hz] at W;have l1:=fX (n:=y) (by omega);have l2:=B6 (z:=x) (by omega);have hN:=hd.N;unfold Ak at q2 hN;have wX:IntKind.i64.wrap X=X:=bV (by omega) (by omega);have wN:IntKind.i64.wrap d.N=d.N:=bV (by omega) (by omega);have g1:x.natAbs<100000000:=by omega
  have g2:y.natAbs<100000000:=by omega
  have t3:(j:Int).tmod 3=((j%3:Nat):Int):=rfl;have hj3:j%3<3:=Nat.mod_lt _ (by decide);obtain⟨r,hr⟩:=xE (j%3);rw[←hr] at t3 hj3 Y;have hp:=ij y;have w1:IntKind.i64.wrap ((j:Int)+1)=((j+1:Nat):Int):=by rw[aq];omega
  obtain⟨m,hm⟩:=xE (j+1);rw[←hm] at w1 V;refine⟨m,?_⟩;have R:0<m:=by omega
  rw[qU R];have aaj:qC (qH (bI d m))=qC (qH (bI d j))++[.str (ak (hQ (Ov d j)))]:=by rw[V];simp[qH,qC]
  have I:(qC (qH (bI d j))).length=j:=by rw[Mo];simp[qH,dT]
  have hx2:dC (ak (mkRat x 2))=some (hQ x):=ao _;have l2' :(ak (mkRat x 2)).length≤9:=l2;have eQ:mkRat x 2=hQ x:=rfl;rw[aaj];have H:=Wy d;by_cases hj0:j=0
  ·subst hj0
   have hm0:m=1:=by omega
   have w0:IntKind.i64.wrap 1=1:=rfl;have hr0:r=0:=by omega
   subst hr0;have e0:DE d n k u 0=[.aeP,.aeP,.cells true 0 [.slice 0 0 n none,.slice 1 0 k none],.cells true 0 d.cells,.cells true 0 [.y9,.y9,.y9],.cells true 1 fW,.cells true 1 [.str u],.cells true 0 [.y9,.slice 6 0 1 none,.y9]]:=rfl;have b0:qC (qH (bI d 0))=[]:=rfl;simp only[Nat.add_zero] at Y;rw[b0,e0,hm0];simp[h4,h7,h23,FS,H,Y,ia,Eh,fW,wX,wN,w0,←hx,←hy,zS,l1,l2,eQ,W,g1,g2,ao,ez,af,dm,-aB,jv C,ky,rn,yD,bR,S,O,M,J,D,Nat.testBit];omega
  ·have Z6:0<j:=by omega
   have hd1:decide (0<j)=true:=by simpa using Z6
   rw[qU Z6,hd1];obtain⟨Q,hQ0⟩:=xE (qH (bI d j));rw[←hQ0] at I ⊢;have g3:(qC Q).take j=qC Q:=List.take_of_length_le (by omega);have g4:m*16≤140737488355328:=by omega
   have g5:m≤140737488355328:=by omega
   have adl :(r:Int)<3:=by omega
   have hmd:decide (0<m)=true:=by simpa using R
   simp[h4,h7,h23,FS,H,Y,adl,hm1,t3,ia,Eh,fW,wX,wN,w1,←hx,←hy,←hm,zS,l1,l2,eQ,W,g1,g2,g3,g4,g5,I,hmd,ao,gq,fj,Mq,ez,af,dm,-aB,jv C,ky,rn,yD,bR,S,O,M,J,D,Nat.testBit];omega
 ·right
  have e:j=n:=by omega
  subst e;simp[h4,h7,h6,h23]
theorem xI(d:ae6)(j:Nat)(A:j<4):d.cells[8+j]? =some (.int .u8 (Mf d.K j:Nat)):=by
 have:j=0∨j=1∨j=2∨j=3:=by omega
 rcases this with rfl | rfl | rfl | rfl<;>rfl
theorem OY{v:Nat×Nat×Nat×Nat}(h:Zm v)(j:Nat):Mf v j<256:=by
 unfold Mf;split
 ·exact h.1
 ·split
  ·exact h.2.1
  ·split
   ·exact h.2.2.1
   ·exact h.2.2.2
def jB(Z:List Int):aeY:=.cells true 1 (qC (qH Z))
def DG(d:ae6)(n k:Nat)(u:List UInt8)(L:List Int):Mem:=
 [.aeP,.aeP,.cells true 0 [.slice 0 0 n none,.slice 1 0 k none],.cells true 0 d.cells,.cells true 0 [.y9,.y9,.y9],.cells true 1 fW,.cells true 1 [.str u],.cells true 0 [.slice 8 0 n none,.slice 6 0 1 none,.y9],.cells true 1 (qC (qH L))]
def GK(d:ae6)(n k:Nat)(u A:List UInt8)(G L:List Int):Mem:=
 [.aeP,.aeP,.cells true 0 [.slice 0 0 n none,.slice 1 0 k none],.cells true 0 d.cells,.cells true 0 [.y9,.y9,.y9],.cells true 1 fW,.aeP,.cells true 0 [.slice 8 0 n none,.slice 10 0 2 none,.slice 11 0 1 none],.cells true 1 (qC (qH G)),.cells true 1 (qC (qH L)),.cells true 1 [.str u,.str A],.cells true 1 [.slice 9 0 n none]]
theorem Ze{L:List Int}(h:k<L.length):(qC (qH L))[k]? =some (.str (ak (hQ (L.getD k 0)))):=by
 have Z:L[k]? =some (L.getD k 0):=by rw[List.getD_eq_getElem?_getD,List.getElem?_eq_getElem h];rfl
 exact R5 (by simp only[qH,List.getElem?_map,Z];rfl)
theorem P4(L:List Int):(qC (qH L)).length=L.length:=by rw[Mo];simp[qH]
def Ey(k:Nat):AV:=if k=0 then .y9 else .slice 9 0 k none
def Ew(d:ae6)(n k:Nat)(u:List UInt8)(L:List Int)(i:Nat):Mem:=if i=0 then DG d n k u L else DG d n k u L++[.cells true 1 (qC (qH (cH d 0 L i)))]
theorem xZ(d:ae6)(hd:d.Ok)(n k:Nat)(u:List UInt8)(L:List Int)(hL:L.length=n)(G:∀z∈L,z.natAbs≤100)(hn0:0<n)(hl:n≤1000)(hK:n<K)(A:ai f47=[b2,b3,b]):
  ∃F:Env→Bool→Env,∀Z S,(ad Z 4=.ptr 3 0∧ad Z 57=.slice 8 0 n none∧ad Z 58=.int .i64 n∧ad Z 59=.int .i64 0∧ad Z 10=.int .i64 0∧ad Z 11=.y9)→
   aM (aN prog) fO ez K 102 2 true (.loop b) ⟨Z,DG d n k u L,S⟩=some (.exit 4,⟨F Z S,DG d n k u L++[.cells true 1 (qC (qH (cH d 0 L n)))],S⟩)∧ad (F Z S) 11=.slice 9 0 n none∧
    (∀t,t∈[2,4,6,7,9,10,53,54]→ad (F Z S) t=ad Z t):=by
 refine cD (L:=[11,59]) (by simp[ai,aG,f47] at A;rw[←A.2.2];rfl) (fun Z=>ad Z 4=.ptr 3 0∧ad Z 57=.slice 8 0 n none∧ad Z 58=.int .i64 n∧ad Z 59=.int .i64 0∧ad Z 10=.int .i64 0∧ad Z 11=.y9) (fun Z AC =>ad AC 11=.slice 9 0 n none∧(∀t,t∈[2,4,6,7,9,10,53,54]→ad AC t=ad Z t)) ?_;rintro Z S ⟨h4,h57,h58,h59,h10,h11⟩;simp[ai,aG,f47] at A;obtain⟨-,-,A⟩:=A;have C:aD [11,59] (ab b) Z ((11,Ey 0)::(59,.int .i64 ((0:Nat):Int))::Z)=aD [11,59] (ab b) Z Z:=by simp[aD,h59,h11,Ey]
 rw[←C];have hm1:(DG d n k u L).length=9:=rfl;have B:DG d n k u L++[.cells true 1 (qC (qH (cH d 0 L n)))]=Ew d n k u L n:=by unfold Ew;rw[if_neg (by omega)]
 rw[B];refine dh (α:=Nat) (fun i=>⟨aD [11,59] (ab b) Z ((11,Ey i)::(59,.int .i64 (i:Int))::Z),Ew d n k u L i,S⟩) (fun i=>n-i) (fun i=>i≤n) (.exit 4) _ S _ (by simp) ?_ K 0 (by omega) (by omega);intro i hi;clear C B;subst A;by_cases FS:i<n
 ·left
  have O:(0+i)%4<4:=Nat.mod_lt _ (by decide);have D:=xI d ((0+i)%4) O;have q2:=OY hd.K ((0+i)%4);have H:=EU d 0 L i;have j:MC d 0 i=((Mf d.K ((0+i)%4)%4:Nat):Int):=rfl;have t4:(((0+i:Nat):Int)).tmod 4=(((0+i)%4:Nat):Int):=rfl;obtain⟨v,hv⟩:=xE (0+i);rw[←hv] at O D q2 j t4;obtain⟨r,hr⟩:=xE (v%4);rw[←hr] at O D q2 j t4;obtain⟨X,hX⟩:=xE (Mf d.K r);rw[←hX] at D q2 j;have t5:(X:Int).tmod 4=((X%4:Nat):Int):=rfl;have hx4:X%4<4:=Nat.mod_lt _ (by decide);obtain⟨x,hx⟩:=xE (X%4);rw[←hx] at t5 hx4 j;have k1:=Ze (L:=L) (k:=i) (by omega);have hzl:(L.getD i 0).natAbs≤100:=by
   have:L.getD i 0∈L:=by rw[List.getD_eq_getElem?_getD,List.getElem?_eq_getElem (by omega)];exact List.getElem_mem _
   exact G _ this
  obtain⟨z,hzz⟩:=xE (L.getD i 0);rw[←hzz] at k1 hzl H;rw[j] at H;have Y:=Xp z (x:Int);have l1:=B6 (z:=z) (by omega);have l2:=B6 (z:=(x:Int)) (by omega);have g1:x<100000000:=by omega
  have M :=P4 L;have R :∀h,(qC (qH L))[i]'h=.str (ak (hQ z)):=fun h=>by rw[List.getElem?_eq_getElem h] at k1;exact Option.some.inj k1
  rw[hL] at M;have acC :(r:Int)<4:=by omega
  have eQ:mkRat (x:Int) 2=hQ (x:Int):=rfl;have w1:IntKind.i64.wrap ((i:Int)+1)=((i+1:Nat):Int):=by rw[aq];omega
  have w2:IntKind.i64.wrap ((i:Int))=(v:Int):=by rw[aq];omega
  have w3:IntKind.i64.wrap (x:Int)=(x:Int):=bV (by omega) (by omega);obtain⟨m,hm⟩:=xE (i+1);rw[←hm] at w1 H;refine⟨m,?_⟩;have hmp:¬m=0:=by omega
  have W:qC (qH (cH d 0 L m))=qC (qH (cH d 0 L i))++[.str (ak (hQ (z+(x:Int))))]:=by rw[H];simp[qH,qC]
  by_cases V:i=0
  ·subst V
   have I:m=1:=by omega
   have w0:IntKind.i64.wrap 1=1:=rfl;have b0:qC (qH (cH d 0 L 0))=[]:=rfl;rw[b0,I,List.nil_append] at W;have hrj:r=0:=by omega
   subst hrj;have q1' :d.cells[8+0]? =some (.int .u8 (X:Nat)):=D;simp only[Nat.reduceAdd] at q1';have wj:IntKind.i64.wrap 0=0:=rfl;have tj:Int.tmod 0 4=0:=rfl;simp[Ew,Ey,W,I,h4,h57,h58,h10,FS,D,wj,tj,R,ia,fW,w0,w3,t5,l1,l2,eQ,Y,g1,ao,DG,gq,M,ez,af,dm];omega
  ·obtain⟨Q,J⟩:=xE (qH (cH d 0 L i))
   have hQl:(qC Q).length=i:=by rw[J,P4,fc]
   rw[←J] at W;have g3:(qC Q).take i=qC Q:=List.take_of_length_le (by omega);have g4:m*16≤140737488355328:=by omega
   have g5:m≤140737488355328:=by omega
   simp[Ew,Ey,V,hmp,W,←J,←hm,h4,h57,h58,h10,FS,D,R,ia,fW,w1,w2,w3,acC,t4,t5,l1,l2,eQ,Y,g1,g3,g4,g5,hQl,ao,DG,gq,fj,M,ez,af,dm];omega
 ·right
  have e:i=n:=by omega
  subst e;have V:¬i=0:=by omega
  simp[Ew,Ey,V,h58]
def Ez(k:Nat):AV:=if k=0 then .y9 else .slice 12 0 k none
def Ex(d:ae6)(n k:Nat)(u A:List UInt8)(G L:List Int)(i:Nat):Mem:=if i=0 then GK d n k u A G L else GK d n k u A G L++[.cells true 1 (qC (qH (cH d 1 L i)))]
theorem Ip(d:ae6)(hd:d.Ok)(n k:Nat)(u A:List UInt8)(G L:List Int)(hL:L.length=n)(hb9:∀z∈L,z.natAbs≤100)(hn0:0<n)(hl:n≤1000)(hK:n<K)(H:ai f47=[b2,b3,b]):
  ∃F:Env→Bool→Env,∀Z S,(ad Z 4=.ptr 3 0∧ad Z 57=.slice 9 0 n none∧ad Z 58=.int .i64 n∧ad Z 59=.int .i64 0∧ad Z 10=.int .i64 1∧ad Z 11=.y9)→
   aM (aN prog) fO ez K 102 2 true (.loop b) ⟨Z,GK d n k u A G L,S⟩=some (.exit 4,⟨F Z S,GK d n k u A G L++[.cells true 1 (qC (qH (cH d 1 L n)))],S⟩)∧ad (F Z S) 11=.slice 12 0 n none∧
    (∀t,t∈[2,4,6,7,9,10,53,54]→ad (F Z S) t=ad Z t):=by
 refine cD (L:=[11,59]) (by simp[ai,aG,f47] at H;rw[←H.2.2];rfl) (fun Z=>ad Z 4=.ptr 3 0∧ad Z 57=.slice 9 0 n none∧ad Z 58=.int .i64 n∧ad Z 59=.int .i64 0∧ad Z 10=.int .i64 1∧ad Z 11=.y9) (fun Z AC =>ad AC 11=.slice 12 0 n none∧(∀t,t∈[2,4,6,7,9,10,53,54]→ad AC t=ad Z t)) ?_;rintro Z S ⟨h4,h57,h58,h59,h10,h11⟩;simp[ai,aG,f47] at H;obtain⟨-,-,H⟩:=H;have C:aD [11,59] (ab b) Z ((11,Ez 0)::(59,.int .i64 ((0:Nat):Int))::Z)=aD [11,59] (ab b) Z Z:=by simp[aD,h59,h11,Ez]
 rw[←C];have hm1:(GK d n k u A G L).length=12:=rfl;have B:GK d n k u A G L++[.cells true 1 (qC (qH (cH d 1 L n)))]=Ex d n k u A G L n:=by unfold Ex;rw[if_neg (by omega)]
 rw[B];refine dh (α:=Nat) (fun i=>⟨aD [11,59] (ab b) Z ((11,Ez i)::(59,.int .i64 (i:Int))::Z),Ex d n k u A G L i,S⟩) (fun i=>n-i) (fun i=>i≤n) (.exit 4) _ S _ (by simp) ?_ K 0 (by omega) (by omega);intro i hi;clear C B;subst H;by_cases FS:i<n
 ·left
  have O:(1+i)%4<4:=Nat.mod_lt _ (by decide);have D:=xI d ((1+i)%4) O;have q2:=OY hd.K ((1+i)%4);have hs:=EU d 1 L i;have j:MC d 1 i=((Mf d.K ((1+i)%4)%4:Nat):Int):=rfl;have t4:(((1+i:Nat):Int)).tmod 4=(((1+i)%4:Nat):Int):=rfl;obtain⟨v,hv⟩:=xE (1+i);rw[←hv] at O D q2 j t4;obtain⟨r,hr⟩:=xE (v%4);rw[←hr] at O D q2 j t4;obtain⟨X,hX⟩:=xE (Mf d.K r);rw[←hX] at D q2 j;have t5:(X:Int).tmod 4=((X%4:Nat):Int):=rfl;have hx4:X%4<4:=Nat.mod_lt _ (by decide);obtain⟨x,hx⟩:=xE (X%4);rw[←hx] at t5 hx4 j;have k1:=Ze (L:=L) (k:=i) (by omega);have hzl:(L.getD i 0).natAbs≤100:=by
   have:L.getD i 0∈L:=by rw[List.getD_eq_getElem?_getD,List.getElem?_eq_getElem (by omega)];exact List.getElem_mem _
   exact hb9 _ this
  obtain⟨z,hzz⟩:=xE (L.getD i 0);rw[←hzz] at k1 hzl hs;rw[j] at hs;have Y:=Xp z (x:Int);have l1:=B6 (z:=z) (by omega);have l2:=B6 (z:=(x:Int)) (by omega);have g1:x<100000000:=by omega
  have M :=P4 L;have R :∀h,(qC (qH L))[i]'h=.str (ak (hQ z)):=fun h=>by rw[List.getElem?_eq_getElem h] at k1;exact Option.some.inj k1
  rw[hL] at M;have acC :(r:Int)<4:=by omega
  have eQ:mkRat (x:Int) 2=hQ (x:Int):=rfl;have w1:IntKind.i64.wrap ((i:Int)+1)=((i+1:Nat):Int):=by rw[aq];omega
  have w2:IntKind.i64.wrap (1+(i:Int))=(v:Int):=by rw[aq];omega
  have w3:IntKind.i64.wrap (x:Int)=(x:Int):=bV (by omega) (by omega);obtain⟨m,hm⟩:=xE (i+1);rw[←hm] at w1 hs;refine⟨m,?_⟩;have hmp:¬m=0:=by omega
  have W:qC (qH (cH d 1 L m))=qC (qH (cH d 1 L i))++[.str (ak (hQ (z+(x:Int))))]:=by rw[hs];simp[qH,qC]
  by_cases V:i=0
  ·subst V
   have I:m=1:=by omega
   have w0:IntKind.i64.wrap 1=1:=rfl;have b0:qC (qH (cH d 1 L 0))=[]:=rfl;rw[b0,I,List.nil_append] at W;have hrj:r=1:=by omega
   subst hrj;have q1' :d.cells[8+1]? =some (.int .u8 (X:Nat)):=D;simp only[Nat.reduceAdd] at q1';have wj:IntKind.i64.wrap 1=1:=rfl;have tj:Int.tmod 1 4=1:=rfl;simp[Ex,Ez,W,I,h4,h57,h58,h10,FS,D,wj,tj,R,ia,fW,w3,t5,l1,l2,eQ,Y,g1,ao,GK,gq,M,ez,af,dm];omega
  ·obtain⟨Q,J⟩:=xE (qH (cH d 1 L i))
   have hQl:(qC Q).length=i:=by rw[J,P4,fc]
   rw[←J] at W;have g3:(qC Q).take i=qC Q:=List.take_of_length_le (by omega);have g4:m*16≤140737488355328:=by omega
   have g5:m≤140737488355328:=by omega
   simp[Ex,Ez,V,hmp,W,←J,←hm,h4,h57,h58,h10,FS,D,R,ia,fW,w1,w2,w3,acC,t4,t5,l1,l2,eQ,Y,g1,g3,g4,g5,hQl,ao,GK,gq,fj,M,ez,af,dm];omega
 ·right
  have e:i=n:=by omega
  subst e;have V:¬i=0:=by omega
  simp[Ex,Ez,V,h58]
theorem UM(n:Nat):AV.afc n fW=[]:=rfl
theorem Y9(f:Nat→Bool):AV.aeW f fW=true:=rfl
theorem Xt(f:Nat→Option Nat):AV.ae3 f fW=fW:=rfl
def cJ(i:Nat):UInt8:=UInt8.ofNat (65+i)
theorem Yh{i:Nat}(A:i<6):fW[i]? =some (.str [cJ i]):=by
 have:i=0∨i=1∨i=2∨i=3∨i=4∨i=5:=by omega
 rcases this with rfl | rfl | rfl | rfl | rfl | rfl<;>rfl
def bE(i:Nat):Nat→List (List UInt8)
 |0=>[[cJ i,49]]
 |1=>[[cJ i,49],[cJ i,50]]
 |_=>[[cJ i,49],[cJ i,50],[cJ i,51]]
def Ub(n:Nat):Nat→AV
 |0=>.agg [.slice 2 0 n none,.slice 3 0 1 none,.y9]
 |1=>.agg [.slice 2 0 n none,.slice 3 0 2 none,.slice 4 0 1 none]
 |_=>.agg [.slice 2 0 n none,.slice 3 0 3 none,.slice 4 0 2 none]
def pg(d:ae6)(n i:Nat):Nat→Mem
 |0=>[jB (bI d n),.cells true 1 ((bE i 0).map .str)]
 |1=>[jB (bI d n),.cells true 1 ((bE i 1).map .str),.cells true 1 [.slice 5 0 n none],jB (cH d 0 (bI d n) n)]
 |_=>[jB (bI d n),.cells true 1 ((bE i 2).map .str),.cells true 1 [.slice 5 0 n none,.slice 6 0 n none],jB (cH d 0 (bI d n) n),jB (cH d 1 (cH d 0 (bI d n) n) n)]
theorem AB(d:ae6)(G:d.Ok)(n k i:Nat)(H:i<6)(A:0<n)(I:n≤1000)(R:d.K.1%3=0):
  kO prog 47 [.agg [.slice 0 0 n none,.slice 1 0 k none],.agg d.cells,.int .i64 i] [.aeP,.aeP] (Ub n 0) ([.aeP,.aeP]++pg d n i 0):=by
 have B:aK prog 47=some f47:=by kernel_rfl
 obtain⟨b,b2,b3,W⟩:∃b b2 b3,ai f47=[b,b2,b3]:=⟨_,_,_,rfl⟩
 obtain⟨K,j⟩:=xE (n+1);obtain⟨F,X⟩:=mQ (K:=K+5) d G n k [cJ i,49] I (by omega) W;have z:DE d n k [cJ i,49] 0=[.aeP,.aeP,.cells true 0 [.slice 0 0 n none,.slice 1 0 k none],.cells true 0 d.cells,.cells true 0 [.y9,.y9,.y9],.cells true 1 fW,.cells true 1 [.str [cJ i,49]],.cells true 0 [.y9,.slice 6 0 1 none,.y9]]:=rfl;have V:decide (0<n)=true:=by simpa using A
 rw[qU A,z,V] at X;have u:=fun Z h=>(X Z h).1
 have S:=fun Z h=>(X Z h).2.1
 have O:=fun Z h=>(X Z h).2.2.1
 have M:=fun Z h=>(X Z h).2.2.2.1
 have m:=fun Z h=>(X Z h).2.2.2.2
 clear X;simp[ai,aG,f47] at W;obtain⟨rfl,rfl,rfl⟩:=W;have J:=Yh H;have D:d.cells[8]? =some (.int .u8 (d.K.1:Nat)):=rfl;have t3:((d.K.1:Nat):Int).tmod 3=0:=by have:((d.K.1:Nat):Int).tmod 3=((d.K.1%3:Nat):Int):=rfl;rw[this,R];rfl
 have C :(i:Int)<6:=by omega
 have h:aa (aN prog) fO (aK prog) ez (K+5) 47 [.agg [.slice 0 0 n none,.slice 1 0 k none],.agg d.cells,.int .i64 i] [.aeP,.aeP]=some ⟨Ub n 0,some [.aeP,.aeP],pg d n i 0⟩:=by simp[aa,B,f47,u,S,O,M,ez,J,C,D,t3,w0,gq,fj,aQ,er,fO,Ub,pg,bE,jB,gv,bW,aE];exact⟨rfl,rfl⟩
 have:=(ah ae (ar _) tL (au _) h).1;simpa [aeQ.mem] using this
end Go.Proofs
