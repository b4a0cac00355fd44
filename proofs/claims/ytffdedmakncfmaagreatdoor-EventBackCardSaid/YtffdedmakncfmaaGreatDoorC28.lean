/- See C54. -/
import Derived.Test.YtffdedmakncfmaaGreatDoorC27
set_option linter.all false
set_option maxRecDepth 100000
set_option maxHeartbeats 40000000
namespace Go.Proofs
open Go.Eng
open Tryz
theorem lU(x:afO)(n:Nat):∀z∈x.base.l n,z.natAbs≤300:=by intro z Z;unfold Hts.l at Z;obtain⟨k,_,rfl⟩:=List.mem_map.1 Z;have:=x.base.ahH k;omega
theorem IP(x:afO)(y:x.Ok)(n k:Nat)(H:0<n)(I:n≤1000)(hJ:ct3 (x.n 0)=2):
  kO prog 25 [.agg [.slice 0 0 n none,.slice 1 0 k none],.agg x.cells,.str [110]] [.qK,.qK] (.agg [.slice 2 0 n none,.slice 3 0 2 none,.slice 4 0 1 none]) ([.qK,.qK]++[.cells true 1 (qC (qH (x.base.l n))),.cells true 1 (stC (uNm 2)),.cells true 1 [.slice 5 0 n none],.cells true 1 (qC (qH (upL x.s0 (x.base.l n) n)))]):=by
 have hG:aS prog 25=some f25:=by kernel_rfl
 have W:=afO.afW y;have J:=eG x.closed;have o0:=gV x.closed;have e0:=fun f=>aO (ρ:=f) x.closed
 have N:=afO.afZ y (k:=0) (by decide);simp only[Nat.reduceAdd] at N;have G:=cH N;have M:=afO.agJ y;have F:=oJ y.base;have O:=y.base;obtain⟨b0,c0⟩:=afO.agt y (k:=0) (by decide);obtain⟨w3,w4⟩:=yP ⟨b0,c0⟩;rw[hJ] at w4;obtain⟨bo,bi,S⟩:∃b b2,ah f25=[b,b2]:=⟨_,_,rfl⟩
 obtain⟨I0,U⟩:=BV (K:=n+5) x y n k (x.base.l n) (x.base.agj n) (lU x n) H I (by omega) S;have q0:dq0 x n k (x.base.l n) 0=[.qK,.qK,.cells true 0 [.slice 0 0 n none,.slice 1 0 k none],.cells true 0 x.cells,.cells true 0 [.qF,.qF,.qF],.cells true 1 (qC (qH (x.base.l n))),.cells true 0 [.slice 5 0 n none,.slice 10 0 2 none,.qF],.qK,.cells true 1 [.str [95,97],.str [95,98],.str [95,99]],.cells true 1 [.str [110,95,98]],.cells true 1 [.str [110,95,97],.str [110,95,98]],.cells true 1 []]:=rfl;have q1:dq0 x n k (x.base.l n) n=[.qK,.qK,.cells true 0 [.slice 0 0 n none,.slice 1 0 k none],.cells true 0 x.cells,.cells true 0 [.qF,.qF,.qF],.cells true 1 (qC (qH (x.base.l n))),.cells true 0 [.slice 5 0 n none,.slice 10 0 2 none,.qF],.qK,.cells true 1 [.str [95,97],.str [95,98],.str [95,99]],.cells true 1 [.str [110,95,98]],.cells true 1 [.str [110,95,97],.str [110,95,98]],.qK,.cells true 1 (qC (qH (upL x.s0 (x.base.l n) n)))]:=if_neg (by omega);rw[q0,q1] at U;clear q0 q1;obtain⟨R,L⟩:=xE (qC (qH (upL x.s0 (x.base.l n) n)));have Rr:∀n,AV.af6 n R=[]:=fun n=>by rw[L,fV]
 have Rn:∀f,AV.af9 f R=R:=fun f=>by rw[L,kN]
 rw[←L] at U ⊢;clear L;obtain⟨C,hC⟩:=xE x.cells;rw[←hC] at U W J o0 e0 N G M ⊢;obtain⟨X,hX⟩:=xE (x.n 0);rw[←hX] at N G w3 w4 b0 c0;have wX:IntKind.i64.wrap X=X:=jN (by omega) (by omega);obtain⟨B,hB⟩:=xE x.base;rw[←hB] at U M F O ⊢;obtain⟨D,hD⟩:=xE B.cells;rw[←hD,List.drop_one] at M;rw[←hD] at F;obtain⟨Q,hQ⟩:=xE (qC (qH (B.l n)));have Qr:∀n,AV.af6 n Q=[]:=fun n=>by rw[hQ,fV]
 have Qn:∀f,AV.af9 f Q=Q:=fun f=>by rw[hQ,kN]
 rw[←hQ] at U ⊢;have p1:=fun Z V h=>(U Z V h).1
 have u:=fun Z V h=>(U Z V h).2.1
 have pt2:=fun Z V h=>(U Z V h).2.2 2 (by simp)
 have pt3:=fun Z V h=>(U Z V h).2.2 3 (by simp)
 have pt4:=fun Z V h=>(U Z V h).2.2 4 (by simp)
 have pt6:=fun Z V h=>(U Z V h).2.2 6 (by simp)
 have o:=fun Z V h=>(U Z V h).2.2 7 (by simp)
 have pt8:=fun Z V h=>(U Z V h).2.2 8 (by simp)
 have m:=fun Z V h=>(U Z V h).2.2 9 (by simp)
 clear U;have tk:C.take 34=C:=List.take_of_length_le (by omega);obtain⟨os,j⟩:∃os,aG f25=os:=⟨_,rfl⟩
 have PP:=cr j (ls:=[[0,1,0,0,0,24,56,124,252,511,1023,2047],[0,0,0,6,14,0,0,64,0,448,960,2016,0,8160,16352,32736,65534,131070,262143,524287]]) (by kernel_rfl);simp only[aG,bQ,f25,lA] at j;subst j;simp only[lB] at PP;obtain⟨Y,hb2⟩:=PP;have hu:=fun s=>aT (bh prog) iC fK (n+5) 78 2 true s bo
 simp[ah,aE,f25] at S;obtain⟨rfl,rfl⟩:=S;have h:aa (bh prog) iC (aS prog) fK (n+5) 25 [.agg [.slice 0 0 n none,.slice 1 0 k none],.agg C,.str [110]] [.qK,.qK]=some ⟨.agg [.slice 2 0 n none,.slice 3 0 2 none,.slice 4 0 1 none],some [.qK,.qK],[.cells true 1 Q,.cells true 1 (stC (uNm 2)),.cells true 1 [.slice 5 0 n none],.cells true 1 R]⟩:=by
  simp (maxSteps:=3000000) [aa,hG,f25,iC,fK,W,J,e0,G,M,F,O,wX,w1,w2,w3,w4,H,I,←hQ,Qr,Qn,hu,ga,p1,u,o,m,Rr,Rn,-aH,bE Y,dh,fu,fJ,dw,dE,jQ,bef,oO,Nat.testBit,bN,aF,uNm,nmE,stC,fm,List.idxOf?_cons]
  repeat' (first | rfl | apply And.intro)
 have:=(ar aj (aK _) uO (aR _) h).1;simpa [y9.mem] using this
def dq1(x:afO)(n k:Nat)(y L1:List Int)(i:Nat):Mem:=if i=0 then [.qK,.qK,.cells true 0 [.slice 0 0 n none,.slice 1 0 k none],.cells true 0 x.cells,.cells true 0 [.qF,.qF,.qF],.cells true 1 (qC (qH y)),.cells true 0 [.slice 5 0 n none,.slice 12 0 3 none,.slice 9 0 1 none],.cells true 1 (qC (qH L1)),.qK,.cells true 1 [.slice 7 0 n none],.cells true 1 [.str [95,97],.str [95,98],.str [95,99]],.cells true 1 [.str [110,95,99]],.cells true 1 [.str [110,95,97],.str [110,95,98],.str [110,95,99]],.cells true 1 []] else [.qK,.qK,.cells true 0 [.slice 0 0 n none,.slice 1 0 k none],.cells true 0 x.cells,.cells true 0 [.qF,.qF,.qF],.cells true 1 (qC (qH y)),.cells true 0 [.slice 5 0 n none,.slice 12 0 3 none,.slice 9 0 1 none],.cells true 1 (qC (qH L1)),.qK,.cells true 1 [.slice 7 0 n none],.cells true 1 [.str [95,97],.str [95,98],.str [95,99]],.cells true 1 [.str [110,95,99]],.cells true 1 [.str [110,95,97],.str [110,95,98],.str [110,95,99]],.qK,.cells true 1 (qC (qH (upL x.s1 L1 i)))]
def YD(i:Nat):AV:=if i=0 then .slice 13 0 0 none else .slice 14 0 i none
theorem N5{K:Nat}(x:afO)(hx:x.Ok)(n k:Nat)(L0 L1:List Int)(hL:L1.length=n)(hb9:∀z∈L1,z.natAbs≤300)(hn0:0<n)(hl:n≤1000)(hK:n<K){b b2:Code}(H:ah f25=[b2,b]):
  ∃F:Env→Bool→Env,∀Z S,(ad Z 3=.ptr 2 0∧ad Z 4=.ptr 3 0∧ad Z 8=.slice 7 0 n none∧ad Z 9=.int .i64 2∧ad Z 10=.slice 13 0 0 none∧ad Z 11=.int .i64 0)→
   aW (bh prog) iC fK K 78 2 true (.loop b) ⟨Z,dq1 x n k L0 L1 0,S⟩=some (.exit 2,⟨F Z S,dq1 x n k L0 L1 n,S⟩)∧ad (F Z S) 10=.slice 14 0 n none∧
    (∀t,t∈[2,3,4,6,7,8,9]→ad (F Z S) t=ad Z t):=by
 refine bj (L:=[10,11]) (by simp[ah,aE,f25] at H;rw[←H.2];rfl) (fun Z=>ad Z 3=.ptr 2 0∧ad Z 4=.ptr 3 0∧ad Z 8=.slice 7 0 n none∧ad Z 9=.int .i64 2∧ad Z 10=.slice 13 0 0 none∧ad Z 11=.int .i64 0) (fun Z AC =>ad AC 10=.slice 14 0 n none∧(∀t,t∈[2,3,4,6,7,8,9]→ad AC t=ad Z t)) ?_;rintro Z S ⟨h3,h4,h8,h9,h10,h11⟩;obtain⟨os,D'⟩:∃os,aG f25=os:=⟨_,rfl⟩
 have PP:=cr D' (ls:=[[0,1,0,0,0,24,56,124,252,511,1023,2047],[0,0,0,6,14,0,0,64,0,448,960,2016,0,8160,16352,32736,65534,131070,262143,524287]]) (by kernel_rfl);simp only[aG,bQ,f25,lA] at D';subst D';simp only[lB] at PP;obtain⟨-,Y⟩:=PP;simp[ah,aE,f25] at H;obtain⟨-,H⟩:=H;have W:aA [10,11] (ae b) Z ((10,YD 0)::(11,.int .i64 ((0:Nat):Int))::Z)=aA [10,11] (ae b) Z Z:=by simp[aA,h10,h11,YD]
 rw[←W];have hm1:(dq1 x n k L0 L1 0).length=14:=rfl;have l0:=afO.afW hx;have r0:=eG x.closed;have o0:=gV x.closed;have e0:=fun f=>aO (ρ:=f) x.closed
 have J:=afO.ahv hx;have hP:=oJ hx.s1;have O:=hx.s1;have tk:x.cells.take 34=x.cells:=List.take_of_length_le (by omega);refine bz (α:=Nat) (fun i=>⟨aA [10,11] (ae b) Z ((10,YD i)::(11,.int .i64 (i:Int))::Z),dq1 x n k L0 L1 i,S⟩) (fun i=>n-i) (fun i=>i≤n) (.exit 2) _ S _ (by simp) ?_ K 0 (by omega) (by omega);intro i hi;clear W;subst H;by_cases FS:i<n
 ·left
  have k1:=US (L:=L1) (k:=i) (by omega);have hzl:(L1.getD i 0).natAbs≤300:=hb9 _ (qs (by omega));have hs:=QE x.s1 L1 i;have hzz:=x.s1.ahH i;have k2:=US (L:=x.s1.l n) (k:=i) (by rw[Hts.agj];exact FS);have gl:(x.s1.l n).getD i 0=x.s1.z i:=by simp[Hts.l,List.getD_eq_getElem?_getD,FS]
  rw[gl] at k2;have V:=DE (x.s1.l n);rw[Hts.agj] at V;obtain⟨R,j⟩:=xE (qC (qH (x.s1.l n)));rw[←j] at k2 V;have Rr:∀n,AV.af6 n R=[]:=fun n=>by rw[j,fV]
  have Ro:∀f,AV.afV f R=true:=fun f=>by rw[j,UR]
  obtain⟨z,hz⟩:=xE (L1.getD i 0);rw[←hz] at k1 hzl hs;obtain⟨y,hy⟩:=xE (x.s1.z i);rw[←hy] at k2 hzz hs;have N:=Xl z (y.natAbs:Int);have l1:=CZ (z:=z) (by omega);have l2:=CZ (z:=(y.natAbs:Int)) (by omega);have I:=Ue y;have hd2:=Xm y;have M:y.natAbs<1000:=by omega
  have G :=DE L1;rw[hL] at G;have k1' :=cH k1;have k2' :=cH k2;have w1:IntKind.i64.wrap ((i:Int)+1)=((i+1:Nat):Int):=by rw[af];omega
  obtain⟨m,hm⟩:=xE (i+1);rw[←hm] at w1 hs;refine⟨m,?_⟩;have hmp:¬m=0:=by omega
  have X:qC (qH (upL x.s1 L1 m))=qC (qH (upL x.s1 L1 i))++[.str (ax (hQ (z+(y.natAbs:Int))))]:=by rw[hs];simp[qH,qC]
  obtain⟨B,hB⟩:=xE x.s1;rw[←hB] at J hP O j X;obtain⟨D,hD⟩:=xE B.cells;have Dr:∀n,AV.af6 n D=[]:=fun n=>by rw[hD];exact eG B.closed n
  have Do:∀f,AV.afV f D=true:=fun f=>by rw[hD];exact gV B.closed f
  rw[←hD] at J hP;obtain⟨C,hC⟩:=xE x.cells;rw[←hC] at l0 r0 o0 e0 J tk;obtain⟨y',u⟩:=xE y.natAbs;rw[←u] at N l2 X M;have w0:IntKind.i64.wrap 1=1:=rfl;have w00:IntKind.i64.wrap 0=0:=rfl;by_cases U:i=0
  ·subst U
   have hm0:m=1:=by omega
   have b0:qC (qH (upL B L1 0))=[]:=rfl;rw[b0,hm0,List.nil_append] at X;simp (maxSteps:=1000000) [dq1,YD,X,hm0,h3,h4,h8,h9,FS,hl,←hB,←hC,←j,k1',k2',l0,r0,J,hP,O,Ro,Do,V,w0,l1,l2,N,I,hd2,←u,M,ay,fV,G,fK,ag,ek,-aH,bE Y,dh,fu,fJ,dw,dE,jQ,bef,oO,Nat.testBit];omega
  ·obtain⟨Q,o⟩:=xE (qH (upL B L1 i))
   have hQl:(qC Q).length=i:=by rw[o,DE,gF]
   rw[←o] at X;have g3:(qC Q).take i=qC Q:=List.take_of_length_le (by omega);have g4:m*16≤140737488355328:=by omega
   have g5:m≤140737488355328:=by omega
   simp (maxSteps:=1000000) [dq1,YD,U,hmp,X,←o,←hm,h3,h4,h8,h9,FS,hn0,hl,←hB,←hC,←j,k1',k2',l0,r0,J,hP,O,Ro,Do,V,w0,w1,l1,l2,N,I,hd2,←u,M,g3,g4,g5,hQl,ay,fV,kN,UR,G,fK,ag,ek,-aH,bE Y,dh,fu,fJ,dw,dE,jQ,bef,oO,Nat.testBit];omega
 ·right
  have e:i=n:=by omega
  subst e;have U:¬i=0:=by omega
  simp[dq1,YD,U,h8]
theorem tx(x:afO)(n:Nat):∀z∈upL x.s0 (x.base.l n) n,z.natAbs≤300:=by
 intro z X;unfold upL at X;obtain⟨k,Z,rfl⟩:=List.mem_map.1 X;have Z:=List.mem_range.1 Z;have U:=lU x n _ (qs (l:=x.base.l n) (k:=k) (by rw[Hts.agj];exact Z));have V :((x.base.l n).getD k 0).natAbs≤38:=by
  have:(x.base.l n).getD k 0=x.base.z k:=by simp[Hts.l,List.getD_eq_getElem?_getD,Z]
  rw[this];exact x.base.ahH k
 have:=x.s0.ahH k;omega
theorem IQ(x:afO)(y:x.Ok)(n k:Nat)(H:0<n)(I:n≤1000)(hJ:ct3 (x.n 0)=3):
  kO prog 25 [.agg [.slice 0 0 n none,.slice 1 0 k none],.agg x.cells,.str [110]] [.qK,.qK] (.agg [.slice 2 0 n none,.slice 3 0 3 none,.slice 4 0 2 none]) ([.qK,.qK]++[.cells true 1 (qC (qH (x.base.l n))),.cells true 1 (stC (uNm 3)),.cells true 1 [.slice 5 0 n none,.slice 6 0 n none],.cells true 1 (qC (qH (upL x.s0 (x.base.l n) n))),.cells true 1 (qC (qH (upL x.s1 (upL x.s0 (x.base.l n) n) n)))]):=by
 have hG:aS prog 25=some f25:=by kernel_rfl
 have l0:=afO.afW y;have r0:=eG x.closed;have o0:=gV x.closed;have e0:=fun f=>aO (ρ:=f) x.closed
 have F:=afO.afZ y (k:=0) (by decide);simp only[Nat.reduceAdd] at F;have m:=cH F;have u:=afO.agJ y;have j:=oJ y.base;have M:=y.base;obtain⟨b0,c0⟩:=afO.agt y (k:=0) (by decide);obtain⟨w3,w4⟩:=yP ⟨b0,c0⟩;rw[hJ] at w4;obtain⟨bo,bi,N⟩:∃b b2,ah f25=[b,b2]:=⟨_,_,rfl⟩
 obtain⟨I0,O⟩:=BV (K:=n+5) x y n k (x.base.l n) (x.base.agj n) (lU x n) H I (by omega) N;have L:dq0 x n k (x.base.l n) 0=[.qK,.qK,.cells true 0 [.slice 0 0 n none,.slice 1 0 k none],.cells true 0 x.cells,.cells true 0 [.qF,.qF,.qF],.cells true 1 (qC (qH (x.base.l n))),.cells true 0 [.slice 5 0 n none,.slice 10 0 2 none,.qF],.qK,.cells true 1 [.str [95,97],.str [95,98],.str [95,99]],.cells true 1 [.str [110,95,98]],.cells true 1 [.str [110,95,97],.str [110,95,98]],.cells true 1 []]:=rfl;have G:dq0 x n k (x.base.l n) n=[.qK,.qK,.cells true 0 [.slice 0 0 n none,.slice 1 0 k none],.cells true 0 x.cells,.cells true 0 [.qF,.qF,.qF],.cells true 1 (qC (qH (x.base.l n))),.cells true 0 [.slice 5 0 n none,.slice 10 0 2 none,.qF],.qK,.cells true 1 [.str [95,97],.str [95,98],.str [95,99]],.cells true 1 [.str [110,95,98]],.cells true 1 [.str [110,95,97],.str [110,95,98]],.qK,.cells true 1 (qC (qH (upL x.s0 (x.base.l n) n)))]:=if_neg (by omega);rw[L,G] at O;clear L G;obtain⟨I1,U⟩:=N5 (K:=n+5) x y n k (x.base.l n) (upL x.s0 (x.base.l n) n) (gF _ _ _) (tx x n) H I (by omega) N;have L:dq1 x n k (x.base.l n) (upL x.s0 (x.base.l n) n) 0=[.qK,.qK,.cells true 0 [.slice 0 0 n none,.slice 1 0 k none],.cells true 0 x.cells,.cells true 0 [.qF,.qF,.qF],.cells true 1 (qC (qH (x.base.l n))),.cells true 0 [.slice 5 0 n none,.slice 12 0 3 none,.slice 9 0 1 none],.cells true 1 (qC (qH (upL x.s0 (x.base.l n) n))),.qK,.cells true 1 [.slice 7 0 n none],.cells true 1 [.str [95,97],.str [95,98],.str [95,99]],.cells true 1 [.str [110,95,99]],.cells true 1 [.str [110,95,97],.str [110,95,98],.str [110,95,99]],.cells true 1 []]:=rfl;have G:dq1 x n k (x.base.l n) (upL x.s0 (x.base.l n) n) n=[.qK,.qK,.cells true 0 [.slice 0 0 n none,.slice 1 0 k none],.cells true 0 x.cells,.cells true 0 [.qF,.qF,.qF],.cells true 1 (qC (qH (x.base.l n))),.cells true 0 [.slice 5 0 n none,.slice 12 0 3 none,.slice 9 0 1 none],.cells true 1 (qC (qH (upL x.s0 (x.base.l n) n))),.qK,.cells true 1 [.slice 7 0 n none],.cells true 1 [.str [95,97],.str [95,98],.str [95,99]],.cells true 1 [.str [110,95,99]],.cells true 1 [.str [110,95,97],.str [110,95,98],.str [110,95,99]],.qK,.cells true 1 (qC (qH (upL x.s1 (upL x.s0 (x.base.l n) n) n)))]:=if_neg (by omega);rw[L,G] at U;clear L G;obtain⟨S,hS⟩:=xE (qC (qH (upL x.s1 (upL x.s0 (x.base.l n) n) n)));have Sr:∀n,AV.af6 n S=[]:=fun n=>by rw[hS,fV]
 have Sn:∀f,AV.af9 f S=S:=fun f=>by rw[hS,kN]
 rw[←hS] at U ⊢;clear hS;obtain⟨R,o⟩:=xE (qC (qH (upL x.s0 (x.base.l n) n)));have Rr:∀n,AV.af6 n R=[]:=fun n=>by rw[o,fV]
 have Rn:∀f,AV.af9 f R=R:=fun f=>by rw[o,kN]
 rw[←o] at O U ⊢;clear o;obtain⟨C,hC⟩:=xE x.cells;rw[←hC] at O U l0 r0 o0 e0 F m u ⊢;obtain⟨X,hX⟩:=xE (x.n 0);rw[←hX] at F m w3 w4 b0 c0;have wX:IntKind.i64.wrap X=X:=jN (by omega) (by omega);obtain⟨B,hB⟩:=xE x.base;rw[←hB] at O U u j M ⊢;obtain⟨D,hD⟩:=xE B.cells;rw[←hD,List.drop_one] at u;rw[←hD] at j;obtain⟨Q,hQ⟩:=xE (qC (qH (B.l n)));have Qr:∀n,AV.af6 n Q=[]:=fun n=>by rw[hQ,fV]
 have Qn:∀f,AV.af9 f Q=Q:=fun f=>by rw[hQ,kN]
 rw[←hQ] at O U ⊢;have p1:=fun Z V h=>(O Z V h).1
 have Y:=fun Z V h=>(O Z V h).2.1
 have pt2:=fun Z V h=>(O Z V h).2.2 2 (by simp)
 have pt3:=fun Z V h=>(O Z V h).2.2 3 (by simp)
 have pt4:=fun Z V h=>(O Z V h).2.2 4 (by simp)
 have pt6:=fun Z V h=>(O Z V h).2.2 6 (by simp)
 have W:=fun Z V h=>(O Z V h).2.2 7 (by simp)
 have pt8:=fun Z V h=>(O Z V h).2.2 8 (by simp)
 have J:=fun Z V h=>(O Z V h).2.2 9 (by simp)
 clear O;have s1:=fun Z V h=>(U Z V h).1
 have s10:=fun Z V h=>(U Z V h).2.1
 have st2:=fun Z V h=>(U Z V h).2.2 2 (by simp)
 have st3:=fun Z V h=>(U Z V h).2.2 3 (by simp)
 have st4:=fun Z V h=>(U Z V h).2.2 4 (by simp)
 have st6:=fun Z V h=>(U Z V h).2.2 6 (by simp)
 have st7:=fun Z V h=>(U Z V h).2.2 7 (by simp)
 have st8:=fun Z V h=>(U Z V h).2.2 8 (by simp)
 have st9:=fun Z V h=>(U Z V h).2.2 9 (by simp)
 clear U;have tk:C.take 34=C:=List.take_of_length_le (by omega);obtain⟨os,D'⟩:∃os,aG f25=os:=⟨_,rfl⟩
 have PP:=cr D' (ls:=[[0,1,0,0,0,24,56,124,252,511,1023,2047],[0,0,0,6,14,0,0,64,0,448,960,2016,0,8160,16352,32736,65534,131070,262143,524287]]) (by kernel_rfl);simp only[aG,bQ,f25,lA] at D';subst D';simp only[lB] at PP;obtain⟨hb1,hb2⟩:=PP;have hu:=fun s=>aT (bh prog) iC fK (n+5) 78 2 true s bo
 simp[ah,aE,f25] at N;obtain⟨rfl,rfl⟩:=N;have w33:IntKind.i64.wrap 3=3:=rfl;have h:aa (bh prog) iC (aS prog) fK (n+5) 25 [.agg [.slice 0 0 n none,.slice 1 0 k none],.agg C,.str [110]] [.qK,.qK]=some ⟨.agg [.slice 2 0 n none,.slice 3 0 3 none,.slice 4 0 2 none],some [.qK,.qK],[.cells true 1 Q,.cells true 1 (stC (uNm 3)),.cells true 1 [.slice 5 0 n none,.slice 6 0 n none],.cells true 1 R,.cells true 1 S]⟩:=by
  simp (maxSteps:=3000000) [aa,hG,f25,iC,fK,l0,r0,e0,m,u,j,M,wX,w1,w2,w33,w3,w4,H,I,←hQ,Qr,Qn,hu,ga,p1,Y,W,J,Rr,Rn,s1,s10,st7,st9,Sr,Sn,-aH,bE hb1,dh,fu,fJ,dw,dE,jQ,bef,oO,Nat.testBit,bN,aF,uNm,nmE,stC,fm,List.idxOf?_cons]
  repeat' (first | rfl | apply And.intro)
 have:=(ar aj (aK _) uO (aR _) h).1;simpa [y9.mem] using this
end Go.Proofs
