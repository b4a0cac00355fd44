/- See E54. -/
import Derived.Test.YthpgbelancmpjaaGreatDoorE41
set_option linter.all false
set_option maxRecDepth 100000
set_option maxHeartbeats 40000000
namespace Go.Proofs
open Go.Eng
open Tryz
def mH:Code→List Nat:=fun _=>[9,9,8]
theorem afV:aT prog 9=some f9:=by kernel_rfl
theorem agd:fc [0,1,0,7,15,31,63] 6=true:=by decide
section
variable (x:aed)(hx:x.Ok)(n k:Nat)(hk:x.kind%5=2)
include x hx n k hk
theorem CD(hJ:ct3 (x.n 7)=1):
  kO prog 9 [.agg [.slice 0 0 n none,.slice 1 0 k none],.agg x.cells,.str [110]] [.qK,.qK] (.agg ((dn [110] (zQ (dz x)) (x.aeA 1) (zQ (yy x))).cells .qF .qF .qF (.slice 2 0 1 none))) ([.qK,.qK]++[.cells true 2 (kC (kT (x.aeA 1)))]):=by
 obtain⟨os,o⟩:∃os,aJ f9=os:=⟨_,rfl⟩
 have UV:=cc o (ls:=[[0,1,0,4,12,31,63,127,0,383,895,2047,4095,8191],[0,1,0,7,15,31,63],[0,1,3,0,8,0,32,96,0,480,992,2040,4088,8184,16376,32767,65535,131071,262143],[0,1,0,4,12,31,63,127,0,256,768,1919,3967,0,8192,32767,65535,131071],[0,1,3,0,15,31,63,127]]) (by kernel_rfl);simp only[aJ,bR,f9,lA] at o;subst o;simp only[lB] at UV;obtain⟨-,m,Yv,-⟩:=UV;have l0:=aed.aem hx;have r0:=er x.closed;have o0:=gn x.closed;have e0:=fun f=>aL (ρ:=f) x.closed
 have ik:=aed.ae3 hx;have L:=aed.aeq hx (k:=0) (by decide);have K:=aed.aeq hx (k:=1) (by decide);have G:=aed.aeq hx (k:=2) (by decide);have F:=aed.aeq hx (k:=3) (by decide);have D:=aed.aeq hx (k:=4) (by decide);have B:=aed.aeq hx (k:=5) (by decide);have A:=aed.aeq hx (k:=6) (by decide);have u:=aed.aeq hx (k:=7) (by decide);simp only[Nat.reduceAdd] at L K G F D B A u;have jk:=cg ik;have j0:=cg L;obtain⟨b0,c0⟩:=aed.aeR hx (k:=0) (by decide);have j1:=cg K;obtain⟨b1,c1⟩:=aed.aeR hx (k:=1) (by decide);have j2:=cg G;obtain⟨b2,c2⟩:=aed.aeR hx (k:=2) (by decide);have j:=cg F;obtain⟨b3,c3⟩:=aed.aeR hx (k:=3) (by decide);have j4:=cg D;obtain⟨b4,c4⟩:=aed.aeR hx (k:=4) (by decide);have j5:=cg B;obtain⟨b5,c5⟩:=aed.aeR hx (k:=5) (by decide);have Y:=cg A;obtain⟨b6,c6⟩:=aed.aeR hx (k:=6) (by decide);have W:=cg u;obtain⟨b7,c7⟩:=aed.aeR hx (k:=7) (by decide);have s6:=cS (x.n 6);have s7:=cS (x.n 7);have s0:=cS (x.n 0);have s1:=cS (x.n 1);have q3:=lX (x.n 3);have q4:=lX (x.n 4);have q5:=lX (x.n 5);have t5:=kd5 x.kind;rw[hk] at t5;obtain⟨w3,w4⟩:=xv (aed.aeR hx (k:=7) (by decide));rw[hJ] at w4;have K0:x.aeA 1=[((((gd (x.n 6)):Int):Rat),hQ (gd (x.n 7)))]:=rfl;rw[K0];clear K0;have ZO :∃C,x.cells=C:=⟨_,rfl⟩
 obtain⟨C,hC⟩:=ZO;rw[hC] at l0 r0 o0 e0 ik jk L j0 K j1 G j2 F j D j4 B j5 A Y u W ⊢;obtain⟨X0,J⟩:=xE (x.n 0);rw[←J] at L j0 b0 c0 s0;obtain⟨X1,I⟩:=xE (x.n 1);rw[←I] at K j1 b1 c1 s1;obtain⟨X2,H⟩:=xE (x.n 2);rw[←H] at G j2 b2 c2;obtain⟨X3,hX3⟩:=xE (x.n 3);rw[←hX3] at F j b3 c3 q3;obtain⟨X4,hX4⟩:=xE (x.n 4);rw[←hX4] at D j4 b4 c4 q4;obtain⟨X5,hX5⟩:=xE (x.n 5);rw[←hX5] at B j5 b5 c5 q5;obtain⟨X6,U⟩:=xE (x.n 6);rw[←U] at A Y b6 c6 s6;obtain⟨X7,S⟩:=xE (x.n 7);rw[←S] at u W b7 c7 s7 w3 w4;rw[←U,←S];have tk:C.take 34=C:=List.take_of_length_le (by omega);have wX:IntKind.i64.wrap X7=X7:=jm (by omega) (by omega);obtain⟨Z,X⟩:=xE (gd X6);rw[←X] at s6;have g6:Z.natAbs<100000000:=by omega
 have eQ6:mkRat Z 2=hQ Z:=rfl;obtain⟨R,V⟩:=xE (gd X7);rw[←V] at s7;have g7:R.natAbs<100000000:=by omega
 have eQ7:mkRat R 2=hQ R:=rfl;obtain⟨z0,hz0⟩:=xE (gd X0);rw[←hz0] at s0;have g0:z0.natAbs<100000000:=by omega
 have eQ0:mkRat z0 2=hQ z0:=rfl;obtain⟨z1,hz1⟩:=xE (gd X1);rw[←hz1] at s1;have g1:z1.natAbs<100000000:=by omega
 have eQ1:mkRat z1 2=hQ z1:=rfl;obtain⟨y3,O⟩:=xE (ps9 X3);rw[←O] at q3;obtain⟨y4,hy4⟩:=xE (ps9 X4);rw[←hy4] at q4;obtain⟨y5,hy5⟩:=xE (ps9 X5);rw[←hy5] at q5;obtain⟨N,ha1⟩:=xE (Z+y3);obtain⟨M,ZR⟩:=xE (N+y4);obtain⟨a3,ha3⟩:=xE (M+y5);have wa1:IntKind.i64.wrap (Z+y3)=N:=by rw[af];exact ha1.symm
 have wa2:IntKind.i64.wrap (N+y4)=M:=by rw[af];exact ZR.symm
 have wa3:IntKind.i64.wrap (M+y5)=a3:=by rw[af];exact ha3.symm
 have ga1:N.natAbs<100000000:=by omega
 have ga2:M.natAbs<100000000:=by omega
 have m6:=gv Z;have m1:=gv N;have m2:=gv M;rw[←X,←V];obtain⟨⟨n1,n2,n3⟩,hn⟩:∃v,v=dz x:=⟨_,rfl⟩
 obtain⟨⟨v1,v2,v3⟩,hv⟩:∃v,v=yy x:=⟨_,rfl⟩
 rw[←hn,←hv];have u0:IntKind.i64.wrap 0=0:=rfl;have u1:IntKind.i64.wrap 1=1:=rfl;have u2:IntKind.i64.wrap 2=2:=rfl;have u3:IntKind.i64.wrap 3=3:=rfl;have u4:IntKind.i64.wrap 4=4:=rfl;have u5:IntKind.i64.wrap 5=5:=rfl;have u7:IntKind.i64.wrap 7=7:=rfl;have u8:IntKind.i64.wrap 8=8:=rfl;have u9:IntKind.i64.wrap 9=9:=rfl;have h:aa (aV prog) mH (aT prog) (ag (fp x)) 5 9 [.agg [.slice 0 0 n none,.slice 1 0 k none],.agg C,.str [110]] [.qK,.qK]=some ⟨.agg ((dn [110] (zQ (n1,n2,n3)) [(((Z:Int):Rat),hQ R)] (zQ (v1,v2,v3))).cells .qF .qF .qF (.slice 2 0 1 none)),some [.qK,.qK],[.cells true 2 (kC (kT [(((Z:Int):Rat),hQ R)]))]⟩:=by simp (maxSteps:=3000000) [aa,afV,f9,mH,bh,fy,ag,fp,gV,dS,hC,l0,r0,o0,e0,jk,tk,t5,wX,w3,w4,u1,u2,u3,u7,j,b3,c3,Y,b6,c6,W,b7,c7,←X,g6,←V,g7,eQ7,←O,wa1,m6,←hn,←hv,-aK,ao m,bd Yv,br,bk,bl,agd,bZ,ff,ef,cw,cM,gQ,bef,oU,Nat.testBit,bJ,aD,zA,zQ,zS,dn,Evc.cells,kC,kT,List.idxOf?_cons]
 have:=(aq ai (aO _) (jc hx) (aR _) h).1;simpa [aee.mem] using this
theorem CE(hJ:ct3 (x.n 7)=2):
  kO prog 9 [.agg [.slice 0 0 n none,.slice 1 0 k none],.agg x.cells,.str [110]] [.qK,.qK] (.agg ((dn [110] (zQ (dz x)) (x.aeA 2) (zQ (yy x))).cells .qF .qF .qF (.slice 2 0 2 none))) ([.qK,.qK]++[.cells true 2 (kC (kT (x.aeA 2)))]):=by
 obtain⟨os,I⟩:∃os,aJ f9=os:=⟨_,rfl⟩
 have UV:=cc I (ls:=[[0,1,0,4,12,31,63,127,0,383,895,2047,4095,8191],[0,1,0,7,15,31,63],[0,1,3,0,8,0,32,96,0,480,992,2040,4088,8184,16376,32767,65535,131071,262143],[0,1,0,4,12,31,63,127,0,256,768,1919,3967,0,8192,32767,65535,131071],[0,1,3,0,15,31,63,127]]) (by kernel_rfl);simp only[aJ,bR,f9,lA] at I;subst I;simp only[lB] at UV;obtain⟨-,H,Yv,-⟩:=UV;have l0:=aed.aem hx;have r0:=er x.closed;have o0:=gn x.closed;have e0:=fun f=>aL (ρ:=f) x.closed
 have ik:=aed.ae3 hx;have A:=aed.aeq hx (k:=0) (by decide);have u:=aed.aeq hx (k:=1) (by decide);have o:=aed.aeq hx (k:=2) (by decide);have m:=aed.aeq hx (k:=3) (by decide);have j:=aed.aeq hx (k:=4) (by decide);have Y:=aed.aeq hx (k:=5) (by decide);have W:=aed.aeq hx (k:=6) (by decide);have J:=aed.aeq hx (k:=7) (by decide);simp only[Nat.reduceAdd] at A u o m j Y W J;have jk:=cg ik;have j0:=cg A;obtain⟨b0,c0⟩:=aed.aeR hx (k:=0) (by decide);have j1:=cg u;obtain⟨b1,c1⟩:=aed.aeR hx (k:=1) (by decide);have j2:=cg o;obtain⟨b2,c2⟩:=aed.aeR hx (k:=2) (by decide);have j3:=cg m;obtain⟨b3,c3⟩:=aed.aeR hx (k:=3) (by decide);have j4:=cg j;obtain⟨b4,c4⟩:=aed.aeR hx (k:=4) (by decide);have j5:=cg Y;obtain⟨b5,c5⟩:=aed.aeR hx (k:=5) (by decide);have j6:=cg W;obtain⟨b6,c6⟩:=aed.aeR hx (k:=6) (by decide);have j7:=cg J;obtain⟨b7,c7⟩:=aed.aeR hx (k:=7) (by decide);have s6:=cS (x.n 6);have s7:=cS (x.n 7);have s0:=cS (x.n 0);have s1:=cS (x.n 1);have q3:=lX (x.n 3);have q4:=lX (x.n 4);have q5:=lX (x.n 5);have t5:=kd5 x.kind;rw[hk] at t5;obtain⟨w3,w4⟩:=xv (aed.aeR hx (k:=7) (by decide));rw[hJ] at w4;have K0:x.aeA 2=[((((gd (x.n 6)):Int):Rat),hQ (gd (x.n 7))),((((gd (x.n 6)+ps9 (x.n 3)):Int):Rat),hQ (gd (x.n 0)))]:=rfl;rw[K0];clear K0;have ZO :∃C,x.cells=C:=⟨_,rfl⟩
 obtain⟨C,hC⟩:=ZO;rw[hC] at l0 r0 o0 e0 ik jk A j0 u j1 o j2 m j3 j j4 Y j5 W j6 J j7 ⊢;obtain⟨X0,O⟩:=xE (x.n 0);rw[←O] at A j0 b0 c0 s0;obtain⟨X1,hX1⟩:=xE (x.n 1);rw[←hX1] at u j1 b1 c1 s1;obtain⟨X2,hX2⟩:=xE (x.n 2);rw[←hX2] at o j2 b2 c2;obtain⟨X3,N⟩:=xE (x.n 3);rw[←N] at m j3 b3 c3 q3;obtain⟨X4,hX4⟩:=xE (x.n 4);rw[←hX4] at j j4 b4 c4 q4;obtain⟨X5,hX5⟩:=xE (x.n 5);rw[←hX5] at Y j5 b5 c5 q5;obtain⟨X6,M⟩:=xE (x.n 6);rw[←M] at W j6 b6 c6 s6;obtain⟨X7,L⟩:=xE (x.n 7);rw[←L] at J j7 b7 c7 s7 w3 w4;rw[←M,←L,←O,←N];have tk:C.take 34=C:=List.take_of_length_le (by omega);have wX:IntKind.i64.wrap X7=X7:=jm (by omega) (by omega);obtain⟨Z,X⟩:=xE (gd X6);rw[←X] at s6;have g6:Z.natAbs<100000000:=by omega
 have eQ6:mkRat Z 2=hQ Z:=rfl;obtain⟨K,V⟩:=xE (gd X7);rw[←V] at s7;have g7:K.natAbs<100000000:=by omega
 have eQ7:mkRat K 2=hQ K:=rfl;obtain⟨G,U⟩:=xE (gd X0);rw[←U] at s0;have g0:G.natAbs<100000000:=by omega
 have eQ0:mkRat G 2=hQ G:=rfl;obtain⟨z1,hz1⟩:=xE (gd X1);rw[←hz1] at s1;have g1:z1.natAbs<100000000:=by omega
 have eQ1:mkRat z1 2=hQ z1:=rfl;obtain⟨y3,S⟩:=xE (ps9 X3);rw[←S] at q3;obtain⟨y4,F⟩:=xE (ps9 X4);rw[←F] at q4;obtain⟨y5,hy5⟩:=xE (ps9 X5);rw[←hy5] at q5;obtain⟨R,D⟩:=xE (Z+y3);obtain⟨B,ZR⟩:=xE (R+y4);obtain⟨a3,ha3⟩:=xE (B+y5);have wa1:IntKind.i64.wrap (Z+y3)=R:=by rw[af];exact D.symm
 have wa2:IntKind.i64.wrap (R+y4)=B:=by rw[af];exact ZR.symm
 have wa3:IntKind.i64.wrap (B+y5)=a3:=by rw[af];exact ha3.symm
 have ga1:R.natAbs<100000000:=by omega
 have ga2:B.natAbs<100000000:=by omega
 have m6:=gv Z;have m1:=gv R;have m2:=gv B;rw[←X,←V,←U,←S,←D];obtain⟨⟨n1,n2,n3⟩,hn⟩:∃v,v=dz x:=⟨_,rfl⟩
 obtain⟨⟨v1,v2,v3⟩,hv⟩:∃v,v=yy x:=⟨_,rfl⟩
 rw[←hn,←hv];have u0:IntKind.i64.wrap 0=0:=rfl;have u1:IntKind.i64.wrap 1=1:=rfl;have u2:IntKind.i64.wrap 2=2:=rfl;have u3:IntKind.i64.wrap 3=3:=rfl;have u4:IntKind.i64.wrap 4=4:=rfl;have u5:IntKind.i64.wrap 5=5:=rfl;have u7:IntKind.i64.wrap 7=7:=rfl;have u8:IntKind.i64.wrap 8=8:=rfl;have u9:IntKind.i64.wrap 9=9:=rfl;have h:aa (aV prog) mH (aT prog) (ag (fp x)) 5 9 [.agg [.slice 0 0 n none,.slice 1 0 k none],.agg C,.str [110]] [.qK,.qK]=some ⟨.agg ((dn [110] (zQ (n1,n2,n3)) [(((Z:Int):Rat),hQ K),(((R:Int):Rat),hQ G)] (zQ (v1,v2,v3))).cells .qF .qF .qF (.slice 2 0 2 none)),some [.qK,.qK],[.cells true 2 (kC (kT [(((Z:Int):Rat),hQ K),(((R:Int):Rat),hQ G)]))]⟩:=by simp (maxSteps:=3000000) [aa,afV,f9,mH,bh,fy,ag,fp,gV,dS,hC,l0,r0,o0,e0,jk,tk,t5,wX,w3,w4,u1,u2,u3,u4,u7,u8,j0,b0,c0,j3,b3,c3,j4,b4,c4,j6,b6,c6,j7,b7,c7,←X,g6,←V,g7,eQ7,←U,g0,eQ0,←S,←F,wa1,wa2,ga1,m6,m1,←hn,←hv,-aK,ao H,bd Yv,br,bk,bl,agd,bZ,ff,ef,cw,cM,gQ,bef,oU,Nat.testBit,bJ,aD,zA,zQ,zS,dn,Evc.cells,kC,kT,List.idxOf?_cons]
 have:=(aq ai (aO _) (jc hx) (aR _) h).1;simpa [aee.mem] using this
theorem CF(hJ:ct3 (x.n 7)=3):
  kO prog 9 [.agg [.slice 0 0 n none,.slice 1 0 k none],.agg x.cells,.str [110]] [.qK,.qK] (.agg ((dn [110] (zQ (dz x)) (x.aeA 3) (zQ (yy x))).cells .qF .qF .qF (.slice 2 0 3 none))) ([.qK,.qK]++[.cells true 2 (kC (kT (x.aeA 3)))]):=by
 obtain⟨os,D'⟩:∃os,aJ f9=os:=⟨_,rfl⟩
 have UV:=cc D' (ls:=[[0,1,0,4,12,31,63,127,0,383,895,2047,4095,8191],[0,1,0,7,15,31,63],[0,1,3,0,8,0,32,96,0,480,992,2040,4088,8184,16376,32767,65535,131071,262143],[0,1,0,4,12,31,63,127,0,256,768,1919,3967,0,8192,32767,65535,131071],[0,1,3,0,15,31,63,127]]) (by kernel_rfl);simp only[aJ,bR,f9,lA] at D';subst D';simp only[lB] at UV;obtain⟨-,hb1,Yv,-⟩:=UV;have l0:=aed.aem hx;have r0:=er x.closed;have o0:=gn x.closed;have e0:=fun f=>aL (ρ:=f) x.closed
 have ik:=aed.ae3 hx;have Y:=aed.aeq hx (k:=0) (by decide);have W:=aed.aeq hx (k:=1) (by decide);have J:=aed.aeq hx (k:=2) (by decide);have I:=aed.aeq hx (k:=3) (by decide);have H:=aed.aeq hx (k:=4) (by decide);have i5:=aed.aeq hx (k:=5) (by decide);have i6:=aed.aeq hx (k:=6) (by decide);have i7:=aed.aeq hx (k:=7) (by decide);simp only[Nat.reduceAdd] at Y W J I H i5 i6 i7;have jk:=cg ik;have j0:=cg Y;obtain⟨b0,c0⟩:=aed.aeR hx (k:=0) (by decide);have j1:=cg W;obtain⟨b1,c1⟩:=aed.aeR hx (k:=1) (by decide);have j2:=cg J;obtain⟨b2,c2⟩:=aed.aeR hx (k:=2) (by decide);have j3:=cg I;obtain⟨b3,c3⟩:=aed.aeR hx (k:=3) (by decide);have j4:=cg H;obtain⟨b4,c4⟩:=aed.aeR hx (k:=4) (by decide);have j5:=cg i5;obtain⟨b5,c5⟩:=aed.aeR hx (k:=5) (by decide);have j6:=cg i6;obtain⟨b6,c6⟩:=aed.aeR hx (k:=6) (by decide);have j7:=cg i7;obtain⟨b7,c7⟩:=aed.aeR hx (k:=7) (by decide);have s6:=cS (x.n 6);have s7:=cS (x.n 7);have s0:=cS (x.n 0);have s1:=cS (x.n 1);have q3:=lX (x.n 3);have q4:=lX (x.n 4);have q5:=lX (x.n 5);have t5:=kd5 x.kind;rw[hk] at t5;obtain⟨w3,w4⟩:=xv (aed.aeR hx (k:=7) (by decide));rw[hJ] at w4;have K0:x.aeA 3=[((((gd (x.n 6)):Int):Rat),hQ (gd (x.n 7))),((((gd (x.n 6)+ps9 (x.n 3)):Int):Rat),hQ (gd (x.n 0))),((((gd (x.n 6)+ps9 (x.n 3)+ps9 (x.n 4)):Int):Rat),hQ (gd (x.n 1)))]:=rfl;rw[K0];clear K0;have ZO :∃C,x.cells=C:=⟨_,rfl⟩
 obtain⟨C,hC⟩:=ZO;rw[hC] at l0 r0 o0 e0 ik jk Y j0 W j1 J j2 I j3 H j4 i5 j5 i6 j6 i7 j7 ⊢;obtain⟨X0,L⟩:=xE (x.n 0);rw[←L] at Y j0 b0 c0 s0;obtain⟨X1,K⟩:=xE (x.n 1);rw[←K] at W j1 b1 c1 s1;obtain⟨X2,hX2⟩:=xE (x.n 2);rw[←hX2] at J j2 b2 c2;obtain⟨X3,G⟩:=xE (x.n 3);rw[←G] at I j3 b3 c3 q3;obtain⟨X4,F⟩:=xE (x.n 4);rw[←F] at H j4 b4 c4 q4;obtain⟨X5,hX5⟩:=xE (x.n 5);rw[←hX5] at i5 j5 b5 c5 q5;obtain⟨X6,D⟩:=xE (x.n 6);rw[←D] at i6 j6 b6 c6 s6;obtain⟨X7,B⟩:=xE (x.n 7);rw[←B] at i7 j7 b7 c7 s7 w3 w4;rw[←D,←B,←L,←K,←G,←F];have tk:C.take 34=C:=List.take_of_length_le (by omega);have wX:IntKind.i64.wrap X7=X7:=jm (by omega) (by omega);obtain⟨Z,X⟩:=xE (gd X6);rw[←X] at s6;have g6:Z.natAbs<100000000:=by omega
 have eQ6:mkRat Z 2=hQ Z:=rfl;obtain⟨A,V⟩:=xE (gd X7);rw[←V] at s7;have g7:A.natAbs<100000000:=by omega
 have eQ7:mkRat A 2=hQ A:=rfl;obtain⟨u,U⟩:=xE (gd X0);rw[←U] at s0;have g0:u.natAbs<100000000:=by omega
 have eQ0:mkRat u 2=hQ u:=rfl;obtain⟨o,S⟩:=xE (gd X1);rw[←S] at s1;have g1:o.natAbs<100000000:=by omega
 have eQ1:mkRat o 2=hQ o:=rfl;obtain⟨y3,R⟩:=xE (ps9 X3);rw[←R] at q3;obtain⟨y4,O⟩:=xE (ps9 X4);rw[←O] at q4;obtain⟨y5,m⟩:=xE (ps9 X5);rw[←m] at q5;obtain⟨N,j⟩:=xE (Z+y3);obtain⟨M,ZR⟩:=xE (N+y4);obtain⟨a3,ha3⟩:=xE (M+y5);have wa1:IntKind.i64.wrap (Z+y3)=N:=by rw[af];exact j.symm
 have wa2:IntKind.i64.wrap (N+y4)=M:=by rw[af];exact ZR.symm
 have wa3:IntKind.i64.wrap (M+y5)=a3:=by rw[af];exact ha3.symm
 have ga1:N.natAbs<100000000:=by omega
 have ga2:M.natAbs<100000000:=by omega
 have m6:=gv Z;have m1:=gv N;have m2:=gv M;rw[←X,←V,←U,←S,←R,←O,←j,←ZR];obtain⟨⟨n1,n2,n3⟩,hn⟩:∃v,v=dz x:=⟨_,rfl⟩
 obtain⟨⟨v1,v2,v3⟩,hv⟩:∃v,v=yy x:=⟨_,rfl⟩
 rw[←hn,←hv];have u0:IntKind.i64.wrap 0=0:=rfl;have u1:IntKind.i64.wrap 1=1:=rfl;have u2:IntKind.i64.wrap 2=2:=rfl;have u3:IntKind.i64.wrap 3=3:=rfl;have u4:IntKind.i64.wrap 4=4:=rfl;have u5:IntKind.i64.wrap 5=5:=rfl;have u7:IntKind.i64.wrap 7=7:=rfl;have u8:IntKind.i64.wrap 8=8:=rfl;have u9:IntKind.i64.wrap 9=9:=rfl;have h:aa (aV prog) mH (aT prog) (ag (fp x)) 5 9 [.agg [.slice 0 0 n none,.slice 1 0 k none],.agg C,.str [110]] [.qK,.qK]=some ⟨.agg ((dn [110] (zQ (n1,n2,n3)) [(((Z:Int):Rat),hQ A),(((N:Int):Rat),hQ u),(((M:Int):Rat),hQ o)] (zQ (v1,v2,v3))).cells .qF .qF .qF (.slice 2 0 3 none)),some [.qK,.qK],[.cells true 2 (kC (kT [(((Z:Int):Rat),hQ A),(((N:Int):Rat),hQ u),(((M:Int):Rat),hQ o)]))]⟩:=by simp (maxSteps:=3000000) [aa,afV,f9,mH,bh,fy,ag,fp,gV,dS,hC,l0,r0,o0,e0,jk,tk,t5,wX,w3,w4,u1,u2,u3,u4,u5,u7,u8,u9,j0,b0,c0,j1,b1,c1,j3,b3,c3,j4,b4,c4,j5,b5,c5,j6,b6,c6,j7,b7,c7,←X,g6,←V,g7,eQ7,←U,g0,eQ0,←S,g1,eQ1,←R,←O,←m,wa1,wa2,wa3,ga1,ga2,m6,m1,m2,←hn,←hv,-aK,ao hb1,bd Yv,br,bk,bl,agd,bZ,ff,ef,cw,cM,gQ,bef,oU,Nat.testBit,bJ,aD,zA,zQ,zS,dn,Evc.cells,kC,kT,List.idxOf?_cons]
 have:=(aq ai (aO _) (jc hx) (aR _) h).1;simpa [aee.mem] using this
end
def hS(Z:List Int):List (List UInt8):=(qH Z).map aj
theorem Ti(Z:List Int):stC (hS Z)=qC (qH Z):=(Vk _).symm
theorem mT(Z:List Int):(hS Z).length=Z.length:=by simp[hS,qH]
def iX(x:aed)(n:Nat):Nat→List (List Int)
 |1=>[]
 |2=>[upL x.s0 (x.base.l n) n]
 |_=>[upL x.s0 (x.base.l n) n,upL x.s1 (upL x.s0 (x.base.l n) n) n]
def JT(x:aed)(n c:Nat):Evc:={ k:=1,nm:=[110],B:=hS (x.base.l n),U:=uNm c,S:=(iX x n c).map hS }
theorem KY{h:Hts}{L:List Int}{n i:Nat}{z y:Int}(hz:L[i]? =some z)(H:(upL h L n)[i]? =some y):z≤y:=by
 unfold upL at H;rw[List.getElem?_map] at H;by_cases Z:i<n
 ·rw[List.getElem?_range Z] at H
  have e:L.getD i 0=z:=by rw[List.getD_eq_getElem?_getD,hz];rfl
  simp only[Option.map_some,Option.some.injEq] at H;rw[e] at H;omega
 ·rw[List.getElem?_eq_none (by simp;omega)] at H
  simp at H
theorem Hg(s:aeo)(x:aed)(n c:Nat)(H:n=s.P.length)(h0:0<n)(I:n≤1000)(hc:c=1∨c=2∨c=3):jn s (JT x n c):=by
 have lB:(x.base.l n).length=n:=x.base.aeI n;have X:∀h L,(upL h L n).length=n:=fun h L=>fI h L n
 have D:∀z∈x.base.l n,z.natAbs<1000:=fun z Z=>by have:=kI x n z Z;omega
 have V:∀z∈upL x.s0 (x.base.l n) n,z.natAbs<1000:=fun z Z=>by have:=rR x n z Z;omega
 have C:∀z∈upL x.s1 (upL x.s0 (x.base.l n) n) n,z.natAbs<1000:=by intro z Z;unfold upL at Z;obtain⟨k,A,rfl⟩:=List.mem_map.1 Z;have A:=List.mem_range.1 A;have G:=rR x n _ (oQ (l:=upL x.s0 (x.base.l n) n) (k:=k) (by rw[fI];exact A));have:=x.s1.af7 k;unfold upL at G;omega
 refine kD fU.1 (by decide) ⟨?_,?_,?_,?_,?_⟩ (by show [110]∈jV;decide) rfl rfl (fun h=>by cases h) (fun _=>rfl) fun m ev o j h=>?_
 ·show(hS _).length≤1000;rw[mT,lB];exact I
 ·show(uNm c).length≤1000;rcases hc with rfl | rfl | rfl<;>decide
 ·show((iX x n c).map hS).length≤2;rcases hc with rfl | rfl | rfl<;>simp[iX]
 ·intro L U
  have U:L∈(iX x n c).map hS:=U;rcases hc with rfl | rfl | rfl<;>simp[iX] at U
  ·subst U;rw[mT,X];exact I
  ·rcases U with rfl | rfl<;>(rw[mT,X];exact I)
 ·show 0≤1000;omega
 ·obtain⟨b,u,sv,kn,rfl,G,Y,h3,h4⟩:=h
  obtain rfl:=h4.aeS rfl;have e1:(JT x n c).B.length=(x.base.l n).length:=mT _;rw[e1] at G;obtain⟨F,ob,rfl,hb⟩:=G.pos (by omega);have W:m[F]? =some (.cells ob 1 (qC (qH (x.base.l n)))):=by rw[←Ti];exact hb
  obtain⟨vs,lv,J,hr⟩:=h3;rcases hc with rfl | rfl | rfl
  ·obtain⟨S,ou,rfl,R⟩:=Y.pos (by show 0<1;omega)
   obtain rfl:=J.aeS rfl;exact Gw s [110] _ (by decide) _ D (by omega) (by omega) m F S _ _ _ _ o j W R
  ·obtain⟨S,ou,rfl,R⟩:=Y.pos (by show 0<2;omega)
   obtain⟨O,oc,rfl,hc⟩:=J.pos (by show 0<1;omega)
   match vs,lv with
   | [v1],_=>
    have r1:=hr 0 v1 (hS (upL x.s0 (x.base.l n) n)) rfl rfl;rw[mT,X] at r1;obtain⟨N,o1,rfl,M⟩:=r1.pos h0;rw[Ti] at M;have hc:m[O]? =some (.cells oc 1 [.slice N 0 (x.base.l n).length none]):=by rw[lB];exact hc
    exact Gx s [110] _ _ (by decide) (by decide) (by decide) _ D (by omega) (by omega) _ V (by rw[X];exact H) (fun i z y Z K=>KY Z K) m F S O N _ _ _ _ _ _ o j W R hc M
  ·obtain⟨S,ou,rfl,R⟩:=Y.pos (by show 0<3;omega)
   obtain⟨O,oc,rfl,hc⟩:=J.pos (by show 0<2;omega)
   match vs,lv with
   | [v1,v2],_=>
    have r1:=hr 0 v1 (hS (upL x.s0 (x.base.l n) n)) rfl rfl;rw[mT,X] at r1;obtain⟨N,o1,rfl,M⟩:=r1.pos h0;rw[Ti] at M;have r2:=hr 1 v2 (hS (upL x.s1 (upL x.s0 (x.base.l n) n) n)) rfl rfl;rw[mT,X] at r2;obtain⟨b2,o2,rfl,g2⟩:=r2.pos h0;rw[Ti] at g2;have hc:m[O]? =some (.cells oc 1 [.slice N 0 (x.base.l n).length none,.slice b2 0 (x.base.l n).length none]):=by rw[lB];exact hc
    exact Gy s [110] _ _ _ (by decide) (by decide) (by decide) (by decide) (by decide) (by decide) _ D (by omega) (by omega) _ _ V (by rw[X];exact H) (fun i z y Z K=>KY Z K) C (by rw[X];exact H) (fun i z y Z K=>KY Z K) m F S O N b2 _ _ _ _ _ _ _ o j W R hc M g2
theorem EA(x:aed)(H:x.Ok)(n k:Nat)(I:0<n)(J:n≤1000)(hk:x.kind%5=0):
  kO prog 9 [.agg [.slice 0 0 n none,.slice 1 0 k none],.agg x.cells,.str [110]] [.qK,.qK] (.agg ((JT x n (ctN x)).cells (.slice 2 0 n none) (.slice 3 0 (ctN x) none) (dqS 2 n (ctN x)) .qF)) ([.qK,.qK]++dqN 2 x n (ctN x)):=by
 have K:=aed.aem H;have u:=er x.closed;have o:=gn x.closed;have m:=fun f=>aL (ρ:=f) x.closed
 have G:=aed.ae3 H;have F:=cg G;have t5:=kd5 x.kind;rw[hk] at t5;have X:=fun M p t Z j=>LJ x H n k I J M p t Z j
 have h3:=jH x;have D:(JT x n (ctN x)).cells (.slice 2 0 n none) (.slice 3 0 (ctN x) none) (dqS 2 n (ctN x)) .qF=FQ [110] (.slice 2 0 n none) (.slice 3 0 (ctN x) none) (dqS 2 n (ctN x)):=rfl;rw[D];clear D;obtain⟨c,B⟩:=xE (ctN x);rw[←B] at X h3 ⊢;clear B;have hN:dqN 2 x n c=dqN 2 x n c:=rfl;obtain⟨A,V⟩:=xE (qC (qH (x.base.l n)));have Y:∀n,AV.aew n A=[]:=fun n=>by rw[V,fN]
 have W:∀f,AV.aez f A=A:=fun f=>by rw[V,jM]
 obtain⟨R,U⟩:=xE (qC (qH (upL x.s0 (x.base.l n) n)));have Rr:∀n,AV.aew n R=[]:=fun n=>by rw[U,fN]
 have Rn:∀f,AV.aez f R=R:=fun f=>by rw[U,jM]
 obtain⟨S,hS⟩:=xE (qC (qH (upL x.s1 (upL x.s0 (x.base.l n) n) n)));have Sr:∀n,AV.aew n S=[]:=fun n=>by rw[hS,fN]
 have Sn:∀f,AV.aez f S=S:=fun f=>by rw[hS,jM]
 have ZO :∃C,x.cells=C:=⟨_,rfl⟩
 obtain⟨C,hC⟩:=ZO;rw[hC] at K u o m G F X ⊢;have tk:C.take 34=C:=List.take_of_length_le (by omega);have u1:IntKind.i64.wrap 1=1:=rfl;have u0:IntKind.i64.wrap 0=0:=rfl;obtain⟨L,O⟩:=xE (α:=List (FuncId×List AV×(Mem→Prop)×aee)) [(35,[.agg [.slice 0 0 n none,.slice 1 0 k none],.agg C,.str [110]],fun M=>M.length=6,⟨.agg [.slice 6 0 n none,.slice 7 0 c none,dqS 6 n c],none,dqN 6 x n c⟩)];have hO:qS prog (dy L):=lO fun z N M Z=>by rw[O] at N;simp only[lM] at N;subst N;have Z:M.length=6:=Z;have h:=X M 0 1 (by omega) (by omega);rw[Z] at h;exact aC h
 have e1:∀M:Mem,M.length=6→dy L (.fn 35) [.agg [.slice 0 0 n none,.slice 1 0 k none],.agg C,.str [110]] M=some ⟨.agg [.slice 6 0 n none,.slice 7 0 c none,dqS 6 n c],none,dqN 6 x n c⟩:=fun M hM=>by rw[O];exact cr hM
 clear O X;have h:aa (aV prog) (fun _=>[]) (aT prog) (dy L) 1 9 [.agg [.slice 0 0 n none,.slice 1 0 k none],.agg C,.str [110]] [.qK,.qK]=some ⟨.agg (FQ [110] (.slice 2 0 n none) (.slice 3 0 c none) (dqS 2 n c)),none,dqN 2 x n c⟩:=by
  rcases h3 with rfl | rfl | rfl<;>
   simp (maxSteps:=1000000) [aa,afV,f9,e1,K,F,tk,t5,u0,u1,bJ,aD,dqS,dqN,←V,←U,←hS,Y,W,Rr,Rn,Sr,Sn,FQ,uNm,nmE,stC,List.idxOf?_cons]
 have:=(aq ai (aO _) hO (aR _) h).1;simpa [aee.mem] using this
section
variable {M:Mem}{pv tv:AV}{ev:List AV}{n mo lo kd:Int}{k0 k1 mf k3 k4:FuncId}
end
end Go.Proofs
namespace Go.Proofs
open Go.Eng
section
variable {pv tv b u sv kn:AV}{c:Evc}{x:Int}{M:Mem}{us:List (List UInt8)}{ub:Nat}{o:Bool}
end
end Go.Proofs
