/- See E54. -/
import Derived.Test.YthpgbelancmpjaaGreatDoorE27
set_option linter.all false
set_option maxRecDepth 100000
set_option maxHeartbeats 40000000
namespace Go.Proofs
open Go.Eng
open Tryz
theorem kI(x:aed)(n:Nat):∀z∈x.base.l n,z.natAbs≤300:=by intro z Z;unfold Hts.l at Z;obtain⟨k,_,rfl⟩:=List.mem_map.1 Z;have:=x.base.af7 k;omega
theorem G5(x:aed)(H:x.Ok)(n k:Nat)(I:0<n)(J:n≤1000)(hJ:ct3 (x.n 0)=2):
  kO prog 35 [.agg [.slice 0 0 n none,.slice 1 0 k none],.agg x.cells,.str [110]] [.qK,.qK] (.agg [.slice 2 0 n none,.slice 3 0 2 none,.slice 4 0 1 none]) ([.qK,.qK]++[.cells true 1 (qC (qH (x.base.l n))),.cells true 1 (stC (uNm 2)),.cells true 1 [.slice 5 0 n none],.cells true 1 (qC (qH (upL x.s0 (x.base.l n) n)))]):=by
 have hG:aT prog 35=some f35:=by kernel_rfl
 have Y:=aed.aem H;have W:=er x.closed;have o0:=gn x.closed;have e0:=fun f=>aL (ρ:=f) x.closed
 have O:=aed.aeq H (k:=0) (by decide);simp only[Nat.reduceAdd] at O;have L:=cg O;have N:=aed.ae8 H;have G:=mU H.base;have S:=H.base;obtain⟨b0,c0⟩:=aed.aeR H (k:=0) (by decide);obtain⟨w3,w4⟩:=xv ⟨b0,c0⟩;rw[hJ] at w4;obtain⟨bo,bi,F⟩:∃b b2,ah f35=[b,b2]:=⟨_,_,rfl⟩
 obtain⟨I0,U⟩:=AB (K:=n+5) x H n k (x.base.l n) (x.base.aeI n) (kI x n) I J (by omega) F;have q0:dq0 x n k (x.base.l n) 0=[.qK,.qK,.cells true 0 [.slice 0 0 n none,.slice 1 0 k none],.cells true 0 x.cells,.cells true 0 [.qF,.qF,.qF],.cells true 1 (qC (qH (x.base.l n))),.cells true 0 [.slice 5 0 n none,.slice 10 0 2 none,.qF],.qK,.cells true 1 [.str [95,97],.str [95,98],.str [95,99]],.cells true 1 [.str [110,95,98]],.cells true 1 [.str [110,95,97],.str [110,95,98]],.cells true 1 []]:=rfl;have q1:dq0 x n k (x.base.l n) n=[.qK,.qK,.cells true 0 [.slice 0 0 n none,.slice 1 0 k none],.cells true 0 x.cells,.cells true 0 [.qF,.qF,.qF],.cells true 1 (qC (qH (x.base.l n))),.cells true 0 [.slice 5 0 n none,.slice 10 0 2 none,.qF],.qK,.cells true 1 [.str [95,97],.str [95,98],.str [95,99]],.cells true 1 [.str [110,95,98]],.cells true 1 [.str [110,95,97],.str [110,95,98]],.qK,.cells true 1 (qC (qH (upL x.s0 (x.base.l n) n)))]:=if_neg (by omega);rw[q0,q1] at U;clear q0 q1;obtain⟨R,M⟩:=xE (qC (qH (upL x.s0 (x.base.l n) n)));have Rr:∀n,AV.aew n R=[]:=fun n=>by rw[M,fN]
 have Rn:∀f,AV.aez f R=R:=fun f=>by rw[M,jM]
 rw[←M] at U ⊢;clear M;obtain⟨C,hC⟩:=xE x.cells;rw[←hC] at U Y W o0 e0 O L N ⊢;obtain⟨X,hX⟩:=xE (x.n 0);rw[←hX] at O L w3 w4 b0 c0;have wX:IntKind.i64.wrap X=X:=jm (by omega) (by omega);obtain⟨B,hB⟩:=xE x.base;rw[←hB] at U N G S ⊢;obtain⟨D,hD⟩:=xE B.cells;rw[←hD,List.drop_one] at N;rw[←hD] at G;obtain⟨Q,hQ⟩:=xE (qC (qH (B.l n)));have Qr:∀n,AV.aew n Q=[]:=fun n=>by rw[hQ,fN]
 have Qn:∀f,AV.aez f Q=Q:=fun f=>by rw[hQ,jM]
 rw[←hQ] at U ⊢;have p1:=fun Z V h=>(U Z V h).1
 have A:=fun Z V h=>(U Z V h).2.1
 have pt2:=fun Z V h=>(U Z V h).2.2 2 (by simp)
 have pt3:=fun Z V h=>(U Z V h).2.2 3 (by simp)
 have pt4:=fun Z V h=>(U Z V h).2.2 4 (by simp)
 have pt6:=fun Z V h=>(U Z V h).2.2 6 (by simp)
 have u:=fun Z V h=>(U Z V h).2.2 7 (by simp)
 have pt8:=fun Z V h=>(U Z V h).2.2 8 (by simp)
 have o:=fun Z V h=>(U Z V h).2.2 9 (by simp)
 clear U;have tk:C.take 34=C:=List.take_of_length_le (by omega);obtain⟨os,m⟩:∃os,aJ f35=os:=⟨_,rfl⟩
 have UV:=cc m (ls:=[[0,1,0,0,0,24,56,124,252,511,1023,2047],[0,0,0,6,14,0,0,64,0,448,960,2016,0,8160,16352,32736,65534,131070,262143,524287]]) (by kernel_rfl);simp only[aJ,bR,f35,lA] at m;subst m;simp only[lB] at UV;obtain⟨j,Yv⟩:=UV;have hu:=fun s=>bh (aV prog) gS fA (n+5) 78 2 true s bo
 simp[ah,aG,f35] at F;obtain⟨rfl,rfl⟩:=F;have h:aa (aV prog) gS (aT prog) fA (n+5) 35 [.agg [.slice 0 0 n none,.slice 1 0 k none],.agg C,.str [110]] [.qK,.qK]=some ⟨.agg [.slice 2 0 n none,.slice 3 0 2 none,.slice 4 0 1 none],some [.qK,.qK],[.cells true 1 Q,.cells true 1 (stC (uNm 2)),.cells true 1 [.slice 5 0 n none],.cells true 1 R]⟩:=by
  simp (maxSteps:=3000000) [aa,hG,f35,gS,fA,Y,W,e0,L,N,G,S,wX,w1,w2,w3,w4,I,J,←hQ,Qr,Qn,hu,fy,p1,A,u,o,Rr,Rn,-aK,bd j,bZ,ff,ef,cw,cM,gQ,bef,oU,Nat.testBit,bJ,aD,uNm,nmE,stC,gb,List.idxOf?_cons]
  repeat' (first | rfl | apply And.intro)
 have:=(aq ai (aO _) tD (aR _) h).1;simpa [aee.mem] using this
def dq1(x:aed)(n k:Nat)(H L1:List Int)(i:Nat):Mem:=if i=0 then [.qK,.qK,.cells true 0 [.slice 0 0 n none,.slice 1 0 k none],.cells true 0 x.cells,.cells true 0 [.qF,.qF,.qF],.cells true 1 (qC (qH H)),.cells true 0 [.slice 5 0 n none,.slice 12 0 3 none,.slice 9 0 1 none],.cells true 1 (qC (qH L1)),.qK,.cells true 1 [.slice 7 0 n none],.cells true 1 [.str [95,97],.str [95,98],.str [95,99]],.cells true 1 [.str [110,95,99]],.cells true 1 [.str [110,95,97],.str [110,95,98],.str [110,95,99]],.cells true 1 []] else [.qK,.qK,.cells true 0 [.slice 0 0 n none,.slice 1 0 k none],.cells true 0 x.cells,.cells true 0 [.qF,.qF,.qF],.cells true 1 (qC (qH H)),.cells true 0 [.slice 5 0 n none,.slice 12 0 3 none,.slice 9 0 1 none],.cells true 1 (qC (qH L1)),.qK,.cells true 1 [.slice 7 0 n none],.cells true 1 [.str [95,97],.str [95,98],.str [95,99]],.cells true 1 [.str [110,95,99]],.cells true 1 [.str [110,95,97],.str [110,95,98],.str [110,95,99]],.qK,.cells true 1 (qC (qH (upL x.s1 L1 i)))]
def Wj(i:Nat):AV:=if i=0 then .slice 13 0 0 none else .slice 14 0 i none
theorem LW{K:Nat}(x:aed)(I:x.Ok)(n k:Nat)(L0 L1:List Int)(hL:L1.length=n)(hb9:∀z∈L1,z.natAbs≤300)(XW:0<n)(hl:n≤1000)(hK:n<K){b b2:Code}(H:ah f35=[b2,b]):
  ∃F:Env→Bool→Env,∀Z V,(ad Z 3=.ptr 2 0∧ad Z 4=.ptr 3 0∧ad Z 8=.slice 7 0 n none∧ad Z 9=.int .i64 2∧ad Z 10=.slice 13 0 0 none∧ad Z 11=.int .i64 0)→
   aS (aV prog) gS fA K 78 2 true (.loop b) ⟨Z,dq1 x n k L0 L1 0,V⟩=some (.exit 2,⟨F Z V,dq1 x n k L0 L1 n,V⟩)∧ad (F Z V) 10=.slice 14 0 n none∧
    (∀t,t∈[2,3,4,6,7,8,9]→ad (F Z V) t=ad Z t):=by
 refine bw (L:=[10,11]) (by simp[ah,aG,f35] at H;rw[←H.2];rfl) (fun Z=>ad Z 3=.ptr 2 0∧ad Z 4=.ptr 3 0∧ad Z 8=.slice 7 0 n none∧ad Z 9=.int .i64 2∧ad Z 10=.slice 13 0 0 none∧ad Z 11=.int .i64 0) (fun Z AC =>ad AC 10=.slice 14 0 n none∧(∀t,t∈[2,3,4,6,7,8,9]→ad AC t=ad Z t)) ?_;rintro Z V ⟨h3,h4,h8,h9,YK,h11⟩;obtain⟨os,D'⟩:∃os,aJ f35=os:=⟨_,rfl⟩
 have UV:=cc D' (ls:=[[0,1,0,0,0,24,56,124,252,511,1023,2047],[0,0,0,6,14,0,0,64,0,448,960,2016,0,8160,16352,32736,65534,131070,262143,524287]]) (by kernel_rfl);simp only[aJ,bR,f35,lA] at D';subst D';simp only[lB] at UV;obtain⟨-,Yv⟩:=UV;simp[ah,aG,f35] at H;obtain⟨-,H⟩:=H;have u:aw [10,11] (ae b) Z ((10,Wj 0)::(11,.int .i64 ((0:Nat):Int))::Z)=aw [10,11] (ae b) Z Z:=by simp[aw,YK,h11,Wj]
 rw[←u];have Yp:(dq1 x n k L0 L1 0).length=14:=rfl;have l0:=aed.aem I;have r0:=er x.closed;have o0:=gn x.closed;have e0:=fun f=>aL (ρ:=f) x.closed
 have o:=aed.afU I;have hP:=mU I.s1;have U:=I.s1;have tk:x.cells.take 34=x.cells:=List.take_of_length_le (by omega);refine bO (α:=Nat) (fun i=>⟨aw [10,11] (ae b) Z ((10,Wj i)::(11,.int .i64 (i:Int))::Z),dq1 x n k L0 L1 i,V⟩) (fun i=>n-i) (fun i=>i≤n) (.exit 2) _ V _ (by simp) ?_ K 0 (by omega) (by omega);intro i hi;clear u;subst H;by_cases FS:i<n
 ·left
  have k1:=Sy (L:=L1) (k:=i) (by omega);have hzl:(L1.getD i 0).natAbs≤300:=hb9 _ (oQ (by omega));have hs:=Ou x.s1 L1 i;have hzz:=x.s1.af7 i;have k2:=Sy (L:=x.s1.l n) (k:=i) (by rw[Hts.aeI];exact FS);have gl:(x.s1.l n).getD i 0=x.s1.z i:=by simp[Hts.l,List.getD_eq_getElem?_getD,FS]
  rw[gl] at k2;have X:=B6 (x.s1.l n);rw[Hts.aeI] at X;obtain⟨R,G⟩:=xE (qC (qH (x.s1.l n)));rw[←G] at k2 X;have Rr:∀n,AV.aew n R=[]:=fun n=>by rw[G,fN]
  have Ro:∀f,AV.ael f R=true:=fun f=>by rw[G,Sx]
  obtain⟨z,hz⟩:=xE (L1.getD i 0);rw[←hz] at k1 hzl hs;obtain⟨y,hy⟩:=xE (x.s1.z i);rw[←hy] at k2 hzz hs;have S:=Vd z (y.natAbs:Int);have l1:=Bs (z:=z) (by omega);have l2:=Bs (z:=(y.natAbs:Int)) (by omega);have j:=RJ y;have Y:=Ve y;have O:y.natAbs<1000:=by omega
  have N :=B6 L1;rw[hL] at N;have W :=cg k1;have J :=cg k2;have w1:IntKind.i64.wrap ((i:Int)+1)=((i+1:Nat):Int):=by rw[af];omega
  obtain⟨m,hm⟩:=xE (i+1);rw[←hm] at w1 hs;refine⟨m,?_⟩;have hmp:¬m=0:=by omega
  have A:qC (qH (upL x.s1 L1 m))=qC (qH (upL x.s1 L1 i))++[.str (aj (hQ (z+(y.natAbs:Int))))]:=by rw[hs];simp[qH,qC]
  obtain⟨B,hB⟩:=xE x.s1;rw[←hB] at o hP U G A;obtain⟨D,hD⟩:=xE B.cells;have Dr:∀n,AV.aew n D=[]:=fun n=>by rw[hD];exact er B.closed n
  have Do:∀f,AV.ael f D=true:=fun f=>by rw[hD];exact gn B.closed f
  rw[←hD] at o hP;obtain⟨C,hC⟩:=xE x.cells;rw[←hC] at l0 r0 o0 e0 o tk;obtain⟨y',YX⟩:=xE y.natAbs;rw[←YX] at S l2 A O;have w0:IntKind.i64.wrap 1=1:=rfl;have w00:IntKind.i64.wrap 0=0:=rfl;by_cases ZH:i=0
  ·subst ZH
   have Yh:m=1:=by omega
   have b0:qC (qH (upL B L1 0))=[]:=rfl;rw[b0,Yh,List.nil_append] at A;simp (maxSteps:=1000000) [dq1,Wj,A,Yh,h3,h4,h8,h9,FS,hl,←hB,←hC,←G,W,J,l0,r0,o,hP,U,Ro,Do,X,w0,l1,l2,S,j,Y,←YX,O,ar,fN,N,fA,ag,fa,-aK,bd Yv,bZ,ff,ef,cw,cM,gQ,bef,oU,Nat.testBit];omega
  ·obtain⟨Q,M⟩:=xE (qH (upL B L1 i))
   have hQl:(qC Q).length=i:=by rw[M,B6,fI]
   rw[←M] at A;have g3:(qC Q).take i=qC Q:=List.take_of_length_le (by omega);have g4:m*16≤140737488355328:=by omega
   have g5:m≤140737488355328:=by omega
   simp (maxSteps:=1000000) [dq1,Wj,ZH,hmp,A,←M,←hm,h3,h4,h8,h9,FS,XW,hl,←hB,←hC,←G,W,J,l0,r0,o,hP,U,Ro,Do,X,w0,w1,l1,l2,S,j,Y,←YX,O,g3,g4,g5,hQl,ar,fN,jM,Sx,N,fA,ag,fa,-aK,bd Yv,bZ,ff,ef,cw,cM,gQ,bef,oU,Nat.testBit];omega
 ·right
  have e:i=n:=by omega
  subst e;have ZH:¬i=0:=by omega
  simp[dq1,Wj,ZH,h8]
theorem rR(x:aed)(n:Nat):∀z∈upL x.s0 (x.base.l n) n,z.natAbs≤300:=by
 intro z X;unfold upL at X;obtain⟨k,Z,rfl⟩:=List.mem_map.1 X;have Z:=List.mem_range.1 Z;have V:=kI x n _ (oQ (l:=x.base.l n) (k:=k) (by rw[Hts.aeI];exact Z));have U :((x.base.l n).getD k 0).natAbs≤38:=by
  have:(x.base.l n).getD k 0=x.base.z k:=by simp[Hts.l,List.getD_eq_getElem?_getD,Z]
  rw[this];exact x.base.af7 k
 have:=x.s0.af7 k;omega
theorem G6(x:aed)(H:x.Ok)(n k:Nat)(I:0<n)(J:n≤1000)(hJ:ct3 (x.n 0)=3):
  kO prog 35 [.agg [.slice 0 0 n none,.slice 1 0 k none],.agg x.cells,.str [110]] [.qK,.qK] (.agg [.slice 2 0 n none,.slice 3 0 3 none,.slice 4 0 2 none]) ([.qK,.qK]++[.cells true 1 (qC (qH (x.base.l n))),.cells true 1 (stC (uNm 3)),.cells true 1 [.slice 5 0 n none,.slice 6 0 n none],.cells true 1 (qC (qH (upL x.s0 (x.base.l n) n))),.cells true 1 (qC (qH (upL x.s1 (upL x.s0 (x.base.l n) n) n)))]):=by
 have hG:aT prog 35=some f35:=by kernel_rfl
 have l0:=aed.aem H;have r0:=er x.closed;have o0:=gn x.closed;have e0:=fun f=>aL (ρ:=f) x.closed
 have G:=aed.aeq H (k:=0) (by decide);simp only[Nat.reduceAdd] at G;have o:=cg G;have F:=aed.ae8 H;have m:=mU H.base;have N:=H.base;obtain⟨b0,c0⟩:=aed.aeR H (k:=0) (by decide);obtain⟨w3,w4⟩:=xv ⟨b0,c0⟩;rw[hJ] at w4;obtain⟨bo,bi,A⟩:∃b b2,ah f35=[b,b2]:=⟨_,_,rfl⟩
 obtain⟨I0,O⟩:=AB (K:=n+5) x H n k (x.base.l n) (x.base.aeI n) (kI x n) I J (by omega) A;have M:dq0 x n k (x.base.l n) 0=[.qK,.qK,.cells true 0 [.slice 0 0 n none,.slice 1 0 k none],.cells true 0 x.cells,.cells true 0 [.qF,.qF,.qF],.cells true 1 (qC (qH (x.base.l n))),.cells true 0 [.slice 5 0 n none,.slice 10 0 2 none,.qF],.qK,.cells true 1 [.str [95,97],.str [95,98],.str [95,99]],.cells true 1 [.str [110,95,98]],.cells true 1 [.str [110,95,97],.str [110,95,98]],.cells true 1 []]:=rfl;have L:dq0 x n k (x.base.l n) n=[.qK,.qK,.cells true 0 [.slice 0 0 n none,.slice 1 0 k none],.cells true 0 x.cells,.cells true 0 [.qF,.qF,.qF],.cells true 1 (qC (qH (x.base.l n))),.cells true 0 [.slice 5 0 n none,.slice 10 0 2 none,.qF],.qK,.cells true 1 [.str [95,97],.str [95,98],.str [95,99]],.cells true 1 [.str [110,95,98]],.cells true 1 [.str [110,95,97],.str [110,95,98]],.qK,.cells true 1 (qC (qH (upL x.s0 (x.base.l n) n)))]:=if_neg (by omega);rw[M,L] at O;clear M L;obtain⟨I1,U⟩:=LW (K:=n+5) x H n k (x.base.l n) (upL x.s0 (x.base.l n) n) (fI _ _ _) (rR x n) I J (by omega) A;have M:dq1 x n k (x.base.l n) (upL x.s0 (x.base.l n) n) 0=[.qK,.qK,.cells true 0 [.slice 0 0 n none,.slice 1 0 k none],.cells true 0 x.cells,.cells true 0 [.qF,.qF,.qF],.cells true 1 (qC (qH (x.base.l n))),.cells true 0 [.slice 5 0 n none,.slice 12 0 3 none,.slice 9 0 1 none],.cells true 1 (qC (qH (upL x.s0 (x.base.l n) n))),.qK,.cells true 1 [.slice 7 0 n none],.cells true 1 [.str [95,97],.str [95,98],.str [95,99]],.cells true 1 [.str [110,95,99]],.cells true 1 [.str [110,95,97],.str [110,95,98],.str [110,95,99]],.cells true 1 []]:=rfl;have L:dq1 x n k (x.base.l n) (upL x.s0 (x.base.l n) n) n=[.qK,.qK,.cells true 0 [.slice 0 0 n none,.slice 1 0 k none],.cells true 0 x.cells,.cells true 0 [.qF,.qF,.qF],.cells true 1 (qC (qH (x.base.l n))),.cells true 0 [.slice 5 0 n none,.slice 12 0 3 none,.slice 9 0 1 none],.cells true 1 (qC (qH (upL x.s0 (x.base.l n) n))),.qK,.cells true 1 [.slice 7 0 n none],.cells true 1 [.str [95,97],.str [95,98],.str [95,99]],.cells true 1 [.str [110,95,99]],.cells true 1 [.str [110,95,97],.str [110,95,98],.str [110,95,99]],.qK,.cells true 1 (qC (qH (upL x.s1 (upL x.s0 (x.base.l n) n) n)))]:=if_neg (by omega);rw[M,L] at U;clear M L;obtain⟨S,hS⟩:=xE (qC (qH (upL x.s1 (upL x.s0 (x.base.l n) n) n)));have Sr:∀n,AV.aew n S=[]:=fun n=>by rw[hS,fN]
 have Sn:∀f,AV.aez f S=S:=fun f=>by rw[hS,jM]
 rw[←hS] at U ⊢;clear hS;obtain⟨R,u⟩:=xE (qC (qH (upL x.s0 (x.base.l n) n)));have Rr:∀n,AV.aew n R=[]:=fun n=>by rw[u,fN]
 have Rn:∀f,AV.aez f R=R:=fun f=>by rw[u,jM]
 rw[←u] at O U ⊢;clear u;obtain⟨C,hC⟩:=xE x.cells;rw[←hC] at O U l0 r0 o0 e0 G o F ⊢;obtain⟨X,hX⟩:=xE (x.n 0);rw[←hX] at G o w3 w4 b0 c0;have wX:IntKind.i64.wrap X=X:=jm (by omega) (by omega);obtain⟨B,hB⟩:=xE x.base;rw[←hB] at O U F m N ⊢;obtain⟨D,hD⟩:=xE B.cells;rw[←hD,List.drop_one] at F;rw[←hD] at m;obtain⟨Q,hQ⟩:=xE (qC (qH (B.l n)));have Qr:∀n,AV.aew n Q=[]:=fun n=>by rw[hQ,fN]
 have Qn:∀f,AV.aez f Q=Q:=fun f=>by rw[hQ,jM]
 rw[←hQ] at O U ⊢;have p1:=fun Z V h=>(O Z V h).1
 have j:=fun Z V h=>(O Z V h).2.1
 have pt2:=fun Z V h=>(O Z V h).2.2 2 (by simp)
 have pt3:=fun Z V h=>(O Z V h).2.2 3 (by simp)
 have pt4:=fun Z V h=>(O Z V h).2.2 4 (by simp)
 have pt6:=fun Z V h=>(O Z V h).2.2 6 (by simp)
 have Y:=fun Z V h=>(O Z V h).2.2 7 (by simp)
 have pt8:=fun Z V h=>(O Z V h).2.2 8 (by simp)
 have W:=fun Z V h=>(O Z V h).2.2 9 (by simp)
 clear O;have s1:=fun Z V h=>(U Z V h).1
 have s10:=fun Z V h=>(U Z V h).2.1
 have st2:=fun Z V h=>(U Z V h).2.2 2 (by simp)
 have st3:=fun Z V h=>(U Z V h).2.2 3 (by simp)
 have st4:=fun Z V h=>(U Z V h).2.2 4 (by simp)
 have st6:=fun Z V h=>(U Z V h).2.2 6 (by simp)
 have st7:=fun Z V h=>(U Z V h).2.2 7 (by simp)
 have st8:=fun Z V h=>(U Z V h).2.2 8 (by simp)
 have st9:=fun Z V h=>(U Z V h).2.2 9 (by simp)
 clear U;have tk:C.take 34=C:=List.take_of_length_le (by omega);obtain⟨os,D'⟩:∃os,aJ f35=os:=⟨_,rfl⟩
 have UV:=cc D' (ls:=[[0,1,0,0,0,24,56,124,252,511,1023,2047],[0,0,0,6,14,0,0,64,0,448,960,2016,0,8160,16352,32736,65534,131070,262143,524287]]) (by kernel_rfl);simp only[aJ,bR,f35,lA] at D';subst D';simp only[lB] at UV;obtain⟨hb1,Yv⟩:=UV;have hu:=fun s=>bh (aV prog) gS fA (n+5) 78 2 true s bo
 simp[ah,aG,f35] at A;obtain⟨rfl,rfl⟩:=A;have w33:IntKind.i64.wrap 3=3:=rfl;have h:aa (aV prog) gS (aT prog) fA (n+5) 35 [.agg [.slice 0 0 n none,.slice 1 0 k none],.agg C,.str [110]] [.qK,.qK]=some ⟨.agg [.slice 2 0 n none,.slice 3 0 3 none,.slice 4 0 2 none],some [.qK,.qK],[.cells true 1 Q,.cells true 1 (stC (uNm 3)),.cells true 1 [.slice 5 0 n none,.slice 6 0 n none],.cells true 1 R,.cells true 1 S]⟩:=by
  simp (maxSteps:=3000000) [aa,hG,f35,gS,fA,l0,r0,e0,o,F,m,N,wX,w1,w2,w33,w3,w4,I,J,←hQ,Qr,Qn,hu,fy,p1,j,Y,W,Rr,Rn,s1,s10,st7,st9,Sr,Sn,-aK,bd hb1,bZ,ff,ef,cw,cM,gQ,bef,oU,Nat.testBit,bJ,aD,uNm,nmE,stC,gb,List.idxOf?_cons]
  repeat' (first | rfl | apply And.intro)
 have:=(aq ai (aO _) tD (aR _) h).1;simpa [aee.mem] using this
end Go.Proofs
