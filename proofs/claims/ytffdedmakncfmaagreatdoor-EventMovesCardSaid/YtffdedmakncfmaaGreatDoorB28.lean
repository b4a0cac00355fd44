/- See B54. -/
import Derived.Test.YtffdedmakncfmaaGreatDoorB27
set_option linter.all false
set_option maxRecDepth 100000
set_option maxHeartbeats 40000000
namespace Go.Proofs
open Go.Eng
open Tryz
theorem o9(x:ae4)(n:Nat):∀z∈x.base.l n,z.natAbs≤300:=by intro z Z;unfold Hts.l at Z;obtain⟨k,_,rfl⟩:=List.mem_map.1 Z;have:=x.base.aha k;omega
theorem HT(x:ae4)(y:x.Ok)(n k:Nat)(H:0<n)(I:n≤1000)(hJ:ct3 (x.n 0)=2):
  kO prog 25 [.agg [.slice 0 0 n none,.slice 1 0 k none],.agg x.cells,.str [110]] [.qK,.qK] (.agg [.slice 2 0 n none,.slice 3 0 2 none,.slice 4 0 1 none]) ([.qK,.qK]++[.cells true 1 (qC (qH (x.base.l n))),.cells true 1 (stC (uNm 2)),.cells true 1 [.slice 5 0 n none],.cells true 1 (qC (qH (upL x.s0 (x.base.l n) n)))]):=by
 have hG:aT prog 25=some f25:=by kernel_rfl
 have W:=ae4.afc y;have J:=cp x.closed;have o0:=dc x.closed;have e0:=fun f=>aM (ρ:=f) x.closed
 have O:=ae4.aff y (k:=0) (by decide);simp only[Nat.reduceAdd] at O;have L:=cE O;have N:=ae4.afZ y;have G:=nn y.base;have S:=y.base;obtain⟨b0,c0⟩:=ae4.afK y (k:=0) (by decide);obtain⟨w3,w4⟩:=xS ⟨b0,c0⟩;rw[hJ] at w4;obtain⟨bo,bi,F⟩:∃b b2,ah f25=[b,b2]:=⟨_,_,rfl⟩
 obtain⟨I0,U⟩:=Bc (K:=n+5) x y n k (x.base.l n) (x.base.afB n) (o9 x n) H I (by omega) F;have q0:dq0 x n k (x.base.l n) 0=[.qK,.qK,.cells true 0 [.slice 0 0 n none,.slice 1 0 k none],.cells true 0 x.cells,.cells true 0 [.qF,.qF,.qF],.cells true 1 (qC (qH (x.base.l n))),.cells true 0 [.slice 5 0 n none,.slice 10 0 2 none,.qF],.qK,.cells true 1 [.str [95,97],.str [95,98],.str [95,99]],.cells true 1 [.str [110,95,98]],.cells true 1 [.str [110,95,97],.str [110,95,98]],.cells true 1 []]:=rfl;have q1:dq0 x n k (x.base.l n) n=[.qK,.qK,.cells true 0 [.slice 0 0 n none,.slice 1 0 k none],.cells true 0 x.cells,.cells true 0 [.qF,.qF,.qF],.cells true 1 (qC (qH (x.base.l n))),.cells true 0 [.slice 5 0 n none,.slice 10 0 2 none,.qF],.qK,.cells true 1 [.str [95,97],.str [95,98],.str [95,99]],.cells true 1 [.str [110,95,98]],.cells true 1 [.str [110,95,97],.str [110,95,98]],.qK,.cells true 1 (qC (qH (upL x.s0 (x.base.l n) n)))]:=if_neg (by omega);rw[q0,q1] at U;clear q0 q1;obtain⟨R,M⟩:=xE (qC (qH (upL x.s0 (x.base.l n) n)));have Rr:∀n,AV.afm n R=[]:=fun n=>by rw[M,fM]
 have Rn:∀f,AV.afp f R=R:=fun f=>by rw[M,j9]
 rw[←M] at U ⊢;clear M;obtain⟨C,hC⟩:=xE x.cells;rw[←hC] at U W J o0 e0 O L N ⊢;obtain⟨X,hX⟩:=xE (x.n 0);rw[←hX] at O L w3 w4 b0 c0;have wX:IntKind.i64.wrap X=X:=ji (by omega) (by omega);obtain⟨B,hB⟩:=xE x.base;rw[←hB] at U N G S ⊢;obtain⟨D,hD⟩:=xE B.cells;rw[←hD,List.drop_one] at N;rw[←hD] at G;obtain⟨Q,hQ⟩:=xE (qC (qH (B.l n)));have Qr:∀n,AV.afm n Q=[]:=fun n=>by rw[hQ,fM]
 have Qn:∀f,AV.afp f Q=Q:=fun f=>by rw[hQ,j9]
 rw[←hQ] at U ⊢;have p1:=fun Z V h=>(U Z V h).1
 have u:=fun Z V h=>(U Z V h).2.1
 have pt2:=fun Z V h=>(U Z V h).2.2 2 (by simp)
 have pt3:=fun Z V h=>(U Z V h).2.2 3 (by simp)
 have pt4:=fun Z V h=>(U Z V h).2.2 4 (by simp)
 have pt6:=fun Z V h=>(U Z V h).2.2 6 (by simp)
 have o:=fun Z V h=>(U Z V h).2.2 7 (by simp)
 have pt8:=fun Z V h=>(U Z V h).2.2 8 (by simp)
 have m:=fun Z V h=>(U Z V h).2.2 9 (by simp)
 clear U;have tk:C.take 34=C:=List.take_of_length_le (by omega);obtain⟨os,j⟩:∃os,aJ f25=os:=⟨_,rfl⟩
 have IR:=cw j (ls:=[[0,1,0,0,0,24,56,124,252,511,1023,2047],[0,0,0,6,14,0,0,64,0,448,960,2016,0,8160,16352,32736,65534,131070,262143,524287]]) (by kernel_rfl);simp only[aJ,bU,f25,lA] at j;subst j;simp only[lB] at IR;obtain⟨Y,YL⟩:=IR;have hu:=fun s=>bp (ba prog) ia fh (n+5) 78 2 true s bo
 simp[ah,aE,f25] at F;obtain⟨rfl,rfl⟩:=F;have h:aa (ba prog) ia (aT prog) fh (n+5) 25 [.agg [.slice 0 0 n none,.slice 1 0 k none],.agg C,.str [110]] [.qK,.qK]=some ⟨.agg [.slice 2 0 n none,.slice 3 0 2 none,.slice 4 0 1 none],some [.qK,.qK],[.cells true 1 Q,.cells true 1 (stC (uNm 2)),.cells true 1 [.slice 5 0 n none],.cells true 1 R]⟩:=by
  simp (maxSteps:=3000000) [aa,hG,f25,ia,fh,W,J,e0,L,N,G,S,wX,w1,w2,w3,w4,H,I,←hQ,Qr,Qn,hu,gi,p1,u,o,m,Rr,Rn,-aK,bT Y,dG,dP,fQ,dJ,dT,kk,bef,lQ,Nat.testBit,bW,aH,uNm,nmE,stC,eR,List.idxOf?_cons]
  repeat' (first | rfl | apply And.intro)
 have:=(ar aj (aI _) tK (aP _) h).1;simpa [y9.mem] using this
def dq1(x:ae4)(n k:Nat)(y L1:List Int)(i:Nat):Mem:=if i=0 then [.qK,.qK,.cells true 0 [.slice 0 0 n none,.slice 1 0 k none],.cells true 0 x.cells,.cells true 0 [.qF,.qF,.qF],.cells true 1 (qC (qH y)),.cells true 0 [.slice 5 0 n none,.slice 12 0 3 none,.slice 9 0 1 none],.cells true 1 (qC (qH L1)),.qK,.cells true 1 [.slice 7 0 n none],.cells true 1 [.str [95,97],.str [95,98],.str [95,99]],.cells true 1 [.str [110,95,99]],.cells true 1 [.str [110,95,97],.str [110,95,98],.str [110,95,99]],.cells true 1 []] else [.qK,.qK,.cells true 0 [.slice 0 0 n none,.slice 1 0 k none],.cells true 0 x.cells,.cells true 0 [.qF,.qF,.qF],.cells true 1 (qC (qH y)),.cells true 0 [.slice 5 0 n none,.slice 12 0 3 none,.slice 9 0 1 none],.cells true 1 (qC (qH L1)),.qK,.cells true 1 [.slice 7 0 n none],.cells true 1 [.str [95,97],.str [95,98],.str [95,99]],.cells true 1 [.str [110,95,99]],.cells true 1 [.str [110,95,97],.str [110,95,98],.str [110,95,99]],.qK,.cells true 1 (qC (qH (upL x.s1 L1 i)))]
def WK(i:Nat):AV:=if i=0 then .slice 13 0 0 none else .slice 14 0 i none
theorem MS{K:Nat}(x:ae4)(hx:x.Ok)(n k:Nat)(L0 L1:List Int)(hL:L1.length=n)(hb9:∀z∈L1,z.natAbs≤300)(Yi:0<n)(hl:n≤1000)(hK:n<K){b b2:Code}(H:ah f25=[b2,b]):
  ∃F:Env→Bool→Env,∀Z V,(ab Z 3=.ptr 2 0∧ab Z 4=.ptr 3 0∧ab Z 8=.slice 7 0 n none∧ab Z 9=.int .i64 2∧ab Z 10=.slice 13 0 0 none∧ab Z 11=.int .i64 0)→
   bh (ba prog) ia fh K 78 2 true (.loop b) ⟨Z,dq1 x n k L0 L1 0,V⟩=some (.exit 2,⟨F Z V,dq1 x n k L0 L1 n,V⟩)∧ab (F Z V) 10=.slice 14 0 n none∧
    (∀t,t∈[2,3,4,6,7,8,9]→ab (F Z V) t=ab Z t):=by
 refine bj (L:=[10,11]) (by simp[ah,aE,f25] at H;rw[←H.2];rfl) (fun Z=>ab Z 3=.ptr 2 0∧ab Z 4=.ptr 3 0∧ab Z 8=.slice 7 0 n none∧ab Z 9=.int .i64 2∧ab Z 10=.slice 13 0 0 none∧ab Z 11=.int .i64 0) (fun Z AC =>ab AC 10=.slice 14 0 n none∧(∀t,t∈[2,3,4,6,7,8,9]→ab AC t=ab Z t)) ?_;rintro Z V ⟨h3,h4,h8,h9,YT,h11⟩;obtain⟨os,A'⟩:∃os,aJ f25=os:=⟨_,rfl⟩
 have IR:=cw A' (ls:=[[0,1,0,0,0,24,56,124,252,511,1023,2047],[0,0,0,6,14,0,0,64,0,448,960,2016,0,8160,16352,32736,65534,131070,262143,524287]]) (by kernel_rfl);simp only[aJ,bU,f25,lA] at A';subst A';simp only[lB] at IR;obtain⟨-,YL⟩:=IR;simp[ah,aE,f25] at H;obtain⟨-,H⟩:=H;have o:ay [10,11] (ad b) Z ((10,WK 0)::(11,.int .i64 ((0:Nat):Int))::Z)=ay [10,11] (ad b) Z Z:=by simp[ay,YT,h11,WK]
 rw[←o];have Yu:(dq1 x n k L0 L1 0).length=14:=rfl;have l0:=ae4.afc hx;have r0:=cp x.closed;have o0:=dc x.closed;have e0:=fun f=>aM (ρ:=f) x.closed
 have j:=ae4.agP hx;have hP:=nn hx.s1;have U:=hx.s1;have tk:x.cells.take 34=x.cells:=List.take_of_length_le (by omega);refine bx (α:=Nat) (fun i=>⟨ay [10,11] (ad b) Z ((10,WK i)::(11,.int .i64 (i:Int))::Z),dq1 x n k L0 L1 i,V⟩) (fun i=>n-i) (fun i=>i≤n) (.exit 2) _ V _ (by simp) ?_ K 0 (by omega) (by omega);intro i hi;clear o;subst H;by_cases B':i<n
 ·left
  have k1:=Tu (L:=L1) (k:=i) (by omega);have hzl:(L1.getD i 0).natAbs≤300:=hb9 _ (sF (by omega));have hs:=Pg x.s1 L1 i;have hzz:=x.s1.aha i;have k2:=Tu (L:=x.s1.l n) (k:=i) (by rw[Hts.afB];exact B');have gl:(x.s1.l n).getD i 0=x.s1.z i:=by simp[Hts.l,List.getD_eq_getElem?_getD,B']
  rw[gl] at k2;have X:=CI (x.s1.l n);rw[Hts.afB] at X;obtain⟨R,G⟩:=xE (qC (qH (x.s1.l n)));rw[←G] at k2 X;have Rr:∀n,AV.afm n R=[]:=fun n=>by rw[G,fM]
  have Ro:∀f,AV.afa f R=true:=fun f=>by rw[G,Tt]
  obtain⟨z,hz⟩:=xE (L1.getD i 0);rw[←hz] at k1 hzl hs;obtain⟨y,hy⟩:=xE (x.s1.z i);rw[←hy] at k2 hzz hs;have S:=VI z (y.natAbs:Int);have l1:=Ca (z:=z) (by omega);have l2:=Ca (z:=(y.natAbs:Int)) (by omega);have Y:=SB y;have W:=VJ y;have O:y.natAbs<1000:=by omega
  have N :=CI L1;rw[hL] at N;have J :=cE k1;have I :=cE k2;have w1:IntKind.i64.wrap ((i:Int)+1)=((i+1:Nat):Int):=by rw[ae];omega
  obtain⟨m,hm⟩:=xE (i+1);rw[←hm] at w1 hs;refine⟨m,?_⟩;have hmp:¬m=0:=by omega
  have u:qC (qH (upL x.s1 L1 m))=qC (qH (upL x.s1 L1 i))++[.str (aB (hQ (z+(y.natAbs:Int))))]:=by rw[hs];simp[qH,qC]
  obtain⟨B,hB⟩:=xE x.s1;rw[←hB] at j hP U G u;obtain⟨D,hD⟩:=xE B.cells;have Dr:∀n,AV.afm n D=[]:=fun n=>by rw[hD];exact cp B.closed n
  have Do:∀f,AV.afa f D=true:=fun f=>by rw[hD];exact dc B.closed f
  rw[←hD] at j hP;obtain⟨C,hC⟩:=xE x.cells;rw[←hC] at l0 r0 o0 e0 j tk;obtain⟨y',Y7⟩:=xE y.natAbs;rw[←Y7] at S l2 u O;have w0:IntKind.i64.wrap 1=1:=rfl;have w00:IntKind.i64.wrap 0=0:=rfl;by_cases Z0:i=0
  ·subst Z0
   have Yn:m=1:=by omega
   have b0:qC (qH (upL B L1 0))=[]:=rfl;rw[b0,Yn,List.nil_append] at u;simp (maxSteps:=1000000) [dq1,WK,u,Yn,h3,h4,h8,h9,B',hl,←hB,←hC,←G,J,I,l0,r0,j,hP,U,Ro,Do,X,w0,l1,l2,S,Y,W,←Y7,O,az,fM,N,fh,af,eg,-aK,bT YL,dG,dP,fQ,dJ,dT,kk,bef,lQ,Nat.testBit];omega
  ·obtain⟨Q,M⟩:=xE (qH (upL B L1 i))
   have hQl:(qC Q).length=i:=by rw[M,CI,iJ]
   rw[←M] at u;have g3:(qC Q).take i=qC Q:=List.take_of_length_le (by omega);have g4:m*16≤140737488355328:=by omega
   have g5:m≤140737488355328:=by omega
   simp (maxSteps:=1000000) [dq1,WK,Z0,hmp,u,←M,←hm,h3,h4,h8,h9,B',Yi,hl,←hB,←hC,←G,J,I,l0,r0,j,hP,U,Ro,Do,X,w0,w1,l1,l2,S,Y,W,←Y7,O,g3,g4,g5,hQl,az,fM,j9,Tt,N,fh,af,eg,-aK,bT YL,dG,dP,fQ,dJ,dT,kk,bef,lQ,Nat.testBit];omega
 ·right
  have e:i=n:=by omega
  subst e;have Z0:¬i=0:=by omega
  simp[dq1,WK,Z0,h8]
theorem C9(x:ae4)(n:Nat):∀z∈upL x.s0 (x.base.l n) n,z.natAbs≤300:=by
 intro z X;unfold upL at X;obtain⟨k,Z,rfl⟩:=List.mem_map.1 X;have Z:=List.mem_range.1 Z;have V:=o9 x n _ (sF (l:=x.base.l n) (k:=k) (by rw[Hts.afB];exact Z));have U :((x.base.l n).getD k 0).natAbs≤38:=by
  have:(x.base.l n).getD k 0=x.base.z k:=by simp[Hts.l,List.getD_eq_getElem?_getD,Z]
  rw[this];exact x.base.aha k
 have:=x.s0.aha k;omega
theorem HU(x:ae4)(y:x.Ok)(n k:Nat)(H:0<n)(I:n≤1000)(hJ:ct3 (x.n 0)=3):
  kO prog 25 [.agg [.slice 0 0 n none,.slice 1 0 k none],.agg x.cells,.str [110]] [.qK,.qK] (.agg [.slice 2 0 n none,.slice 3 0 3 none,.slice 4 0 2 none]) ([.qK,.qK]++[.cells true 1 (qC (qH (x.base.l n))),.cells true 1 (stC (uNm 3)),.cells true 1 [.slice 5 0 n none,.slice 6 0 n none],.cells true 1 (qC (qH (upL x.s0 (x.base.l n) n))),.cells true 1 (qC (qH (upL x.s1 (upL x.s0 (x.base.l n) n) n)))]):=by
 have hG:aT prog 25=some f25:=by kernel_rfl
 have l0:=ae4.afc y;have r0:=cp x.closed;have o0:=dc x.closed;have e0:=fun f=>aM (ρ:=f) x.closed
 have G:=ae4.aff y (k:=0) (by decide);simp only[Nat.reduceAdd] at G;have m:=cE G;have F:=ae4.afZ y;have j:=nn y.base;have N:=y.base;obtain⟨b0,c0⟩:=ae4.afK y (k:=0) (by decide);obtain⟨w3,w4⟩:=xS ⟨b0,c0⟩;rw[hJ] at w4;obtain⟨bo,bi,u⟩:∃b b2,ah f25=[b,b2]:=⟨_,_,rfl⟩
 obtain⟨I0,O⟩:=Bc (K:=n+5) x y n k (x.base.l n) (x.base.afB n) (o9 x n) H I (by omega) u;have M:dq0 x n k (x.base.l n) 0=[.qK,.qK,.cells true 0 [.slice 0 0 n none,.slice 1 0 k none],.cells true 0 x.cells,.cells true 0 [.qF,.qF,.qF],.cells true 1 (qC (qH (x.base.l n))),.cells true 0 [.slice 5 0 n none,.slice 10 0 2 none,.qF],.qK,.cells true 1 [.str [95,97],.str [95,98],.str [95,99]],.cells true 1 [.str [110,95,98]],.cells true 1 [.str [110,95,97],.str [110,95,98]],.cells true 1 []]:=rfl;have L:dq0 x n k (x.base.l n) n=[.qK,.qK,.cells true 0 [.slice 0 0 n none,.slice 1 0 k none],.cells true 0 x.cells,.cells true 0 [.qF,.qF,.qF],.cells true 1 (qC (qH (x.base.l n))),.cells true 0 [.slice 5 0 n none,.slice 10 0 2 none,.qF],.qK,.cells true 1 [.str [95,97],.str [95,98],.str [95,99]],.cells true 1 [.str [110,95,98]],.cells true 1 [.str [110,95,97],.str [110,95,98]],.qK,.cells true 1 (qC (qH (upL x.s0 (x.base.l n) n)))]:=if_neg (by omega);rw[M,L] at O;clear M L;obtain⟨I1,U⟩:=MS (K:=n+5) x y n k (x.base.l n) (upL x.s0 (x.base.l n) n) (iJ _ _ _) (C9 x n) H I (by omega) u;have M:dq1 x n k (x.base.l n) (upL x.s0 (x.base.l n) n) 0=[.qK,.qK,.cells true 0 [.slice 0 0 n none,.slice 1 0 k none],.cells true 0 x.cells,.cells true 0 [.qF,.qF,.qF],.cells true 1 (qC (qH (x.base.l n))),.cells true 0 [.slice 5 0 n none,.slice 12 0 3 none,.slice 9 0 1 none],.cells true 1 (qC (qH (upL x.s0 (x.base.l n) n))),.qK,.cells true 1 [.slice 7 0 n none],.cells true 1 [.str [95,97],.str [95,98],.str [95,99]],.cells true 1 [.str [110,95,99]],.cells true 1 [.str [110,95,97],.str [110,95,98],.str [110,95,99]],.cells true 1 []]:=rfl;have L:dq1 x n k (x.base.l n) (upL x.s0 (x.base.l n) n) n=[.qK,.qK,.cells true 0 [.slice 0 0 n none,.slice 1 0 k none],.cells true 0 x.cells,.cells true 0 [.qF,.qF,.qF],.cells true 1 (qC (qH (x.base.l n))),.cells true 0 [.slice 5 0 n none,.slice 12 0 3 none,.slice 9 0 1 none],.cells true 1 (qC (qH (upL x.s0 (x.base.l n) n))),.qK,.cells true 1 [.slice 7 0 n none],.cells true 1 [.str [95,97],.str [95,98],.str [95,99]],.cells true 1 [.str [110,95,99]],.cells true 1 [.str [110,95,97],.str [110,95,98],.str [110,95,99]],.qK,.cells true 1 (qC (qH (upL x.s1 (upL x.s0 (x.base.l n) n) n)))]:=if_neg (by omega);rw[M,L] at U;clear M L;obtain⟨S,hS⟩:=xE (qC (qH (upL x.s1 (upL x.s0 (x.base.l n) n) n)));have Sr:∀n,AV.afm n S=[]:=fun n=>by rw[hS,fM]
 have Sn:∀f,AV.afp f S=S:=fun f=>by rw[hS,j9]
 rw[←hS] at U ⊢;clear hS;obtain⟨R,o⟩:=xE (qC (qH (upL x.s0 (x.base.l n) n)));have Rr:∀n,AV.afm n R=[]:=fun n=>by rw[o,fM]
 have Rn:∀f,AV.afp f R=R:=fun f=>by rw[o,j9]
 rw[←o] at O U ⊢;clear o;obtain⟨C,hC⟩:=xE x.cells;rw[←hC] at O U l0 r0 o0 e0 G m F ⊢;obtain⟨X,hX⟩:=xE (x.n 0);rw[←hX] at G m w3 w4 b0 c0;have wX:IntKind.i64.wrap X=X:=ji (by omega) (by omega);obtain⟨B,hB⟩:=xE x.base;rw[←hB] at O U F j N ⊢;obtain⟨D,hD⟩:=xE B.cells;rw[←hD,List.drop_one] at F;rw[←hD] at j;obtain⟨Q,hQ⟩:=xE (qC (qH (B.l n)));have Qr:∀n,AV.afm n Q=[]:=fun n=>by rw[hQ,fM]
 have Qn:∀f,AV.afp f Q=Q:=fun f=>by rw[hQ,j9]
 rw[←hQ] at O U ⊢;have p1:=fun Z V h=>(O Z V h).1
 have Y:=fun Z V h=>(O Z V h).2.1
 have pt2:=fun Z V h=>(O Z V h).2.2 2 (by simp)
 have pt3:=fun Z V h=>(O Z V h).2.2 3 (by simp)
 have pt4:=fun Z V h=>(O Z V h).2.2 4 (by simp)
 have pt6:=fun Z V h=>(O Z V h).2.2 6 (by simp)
 have W:=fun Z V h=>(O Z V h).2.2 7 (by simp)
 have pt8:=fun Z V h=>(O Z V h).2.2 8 (by simp)
 have J:=fun Z V h=>(O Z V h).2.2 9 (by simp)
 clear O;have s1:=fun Z V h=>(U Z V h).1
 have s10:=fun Z V h=>(U Z V h).2.1
 have st2:=fun Z V h=>(U Z V h).2.2 2 (by simp)
 have st3:=fun Z V h=>(U Z V h).2.2 3 (by simp)
 have st4:=fun Z V h=>(U Z V h).2.2 4 (by simp)
 have st6:=fun Z V h=>(U Z V h).2.2 6 (by simp)
 have st7:=fun Z V h=>(U Z V h).2.2 7 (by simp)
 have st8:=fun Z V h=>(U Z V h).2.2 8 (by simp)
 have st9:=fun Z V h=>(U Z V h).2.2 9 (by simp)
 clear U;have tk:C.take 34=C:=List.take_of_length_le (by omega);obtain⟨os,A'⟩:∃os,aJ f25=os:=⟨_,rfl⟩
 have IR:=cw A' (ls:=[[0,1,0,0,0,24,56,124,252,511,1023,2047],[0,0,0,6,14,0,0,64,0,448,960,2016,0,8160,16352,32736,65534,131070,262143,524287]]) (by kernel_rfl);simp only[aJ,bU,f25,lA] at A';subst A';simp only[lB] at IR;obtain⟨hb1,YL⟩:=IR;have hu:=fun s=>bp (ba prog) ia fh (n+5) 78 2 true s bo
 simp[ah,aE,f25] at u;obtain⟨rfl,rfl⟩:=u;have w33:IntKind.i64.wrap 3=3:=rfl;have h:aa (ba prog) ia (aT prog) fh (n+5) 25 [.agg [.slice 0 0 n none,.slice 1 0 k none],.agg C,.str [110]] [.qK,.qK]=some ⟨.agg [.slice 2 0 n none,.slice 3 0 3 none,.slice 4 0 2 none],some [.qK,.qK],[.cells true 1 Q,.cells true 1 (stC (uNm 3)),.cells true 1 [.slice 5 0 n none,.slice 6 0 n none],.cells true 1 R,.cells true 1 S]⟩:=by
  simp (maxSteps:=3000000) [aa,hG,f25,ia,fh,l0,r0,e0,m,F,j,N,wX,w1,w2,w33,w3,w4,H,I,←hQ,Qr,Qn,hu,gi,p1,Y,W,J,Rr,Rn,s1,s10,st7,st9,Sr,Sn,-aK,bT hb1,dG,dP,fQ,dJ,dT,kk,bef,lQ,Nat.testBit,bW,aH,uNm,nmE,stC,eR,List.idxOf?_cons]
  repeat' (first | rfl | apply And.intro)
 have:=(ar aj (aI _) tK (aP _) h).1;simpa [y9.mem] using this
end Go.Proofs
