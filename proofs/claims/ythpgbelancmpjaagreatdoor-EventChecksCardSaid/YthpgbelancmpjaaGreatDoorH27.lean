/- See H38. -/
import Derived.Test.YthpgbelancmpjaaGreatDoorH26
set_option linter.all false
set_option maxRecDepth 100000
set_option maxHeartbeats 40000000
namespace Go.Proofs
open Go.Eng
open Tryz
def Vk(v:V3):Prop:=v.1=0/\v.2.1=0/\v.2.2=0
theorem O3(q:Rat):(aJ q==[48])=decide (q=0):=by
 by_cases h:q=0
 .subst h;rfl
 .rw[decide_eq_false h]
  have:aJ q≠[48]:=fun e=>h (LW.1 e)
  simpa using this
theorem Mm{v:V3}(h:¬Vk v):((aJ v.1==[48]&&aJ v.2.1==[48])&&aJ v.2.2==[48])=false:=by
 rw[O3,O3,O3];cases hb:(decide (v.1=0)&&decide (v.2.1=0))&&decide (v.2.2=0)
 .rfl
 .simp only[Ar,Cs] at hb
  exact absurd ⟨hb.1.1,hb.1.2,hb.2⟩ h
def vd(nm:List UInt8)(n:V3)(o:Rat)(v:V3):Evc:={ k:=2,nm:=nm,x5:=aJ n.1,x6:=aJ n.2.1,x7:=aJ n.2.2,x8:=aJ o,x9:=aJ v.1,x10:=aJ v.2.1,x11:=aJ v.2.2 }
def mR(nm:List UInt8)(n:V3)(L:List P2)(v:V3):Evc:={ k:=3,nm:=nm,x12:=aJ n.1,x13:=aJ n.2.1,x14:=aJ n.2.2,K:=kT L,x16:=aJ v.1,x17:=aJ v.2.1,x18:=aJ v.2.2 }
def CF(nm:List UInt8)(n:V3)(o w:Rat)(u:List UInt8):Evc:={ k:=4,nm:=nm,x19:=aJ n.1,x20:=aJ n.2.1,x21:=aJ n.2.2,x22:=aJ o,x23:=aJ w,x24:=u }
def CG(nm:List UInt8)(t:Int×Int×Int×Int)(c:V3):Evc:={ k:=5,nm:=nm,t1:=t.1,t2:=t.2.1,t3:=t.2.2.1,t4:=t.2.2.2,x29:=aJ c.1,x30:=aJ c.2.1,x31:=aJ c.2.2 }
theorem XR{L:List P2}(h3:L.length<=3)(hd:∀q∈L,dg 200 200 q.1/\dg 200 200 q.2)(H:∀(i:Nat) a b,L[i]? =some a->L[i+1]? =some b->a.1<b.1):knE (kT L)=0:=by
 have p:∀q:Rat,dZ (aJ q)=some q:=aE
 have c:∀q∈L,iz (aJ q.1)=0/\iz (aJ q.2)=0:=fun q U=>⟨jT (hd q U).1,jT (hd q U).2⟩
 match L,h3 with
 | [],_=>rfl
 | [q0],_=>
  have Z:=c q0 (by simp);simp[knE,kT,ckE,Z,zF]
 | [q0,q1],_=>
  have Z:=c q0 (by simp);have X:=c q1 (by simp);have V:=H 0 q0 q1 rfl rfl;simp[knE,kT,ckE,Z,X,p,zF,V]
 | [q0,q1,q2],_=>
  have Z:=c q0 (by simp);have X:=c q1 (by simp);have S:=c q2 (by simp);have V:=H 0 q0 q1 rfl rfl;have R:=H 1 q1 q2 rfl rfl;simp[knE,kT,ckE,Z,X,S,p,zF,V,R]
theorem kd5(n:Nat):((n:Nat):Int).tmod 5=((n%5:Nat):Int):=rfl
theorem agK:bq prog 9=some f9:=by kernel_rfl
section
variable (x:afv)(hx:x.Ok)
include x hx
theorem Ga(n k:Nat)(H:x.kind%5=1):
  bz prog 9 [.agg [.slice 0 0 n none,.slice 1 0 k none],.agg x.cells,.str [110]] [.y9,.y9] (.agg ((vd [110] (zQ (fL x)) (hQ (iC (x.n 6))) (hV (DO x))).cells .kO .kO .kO .kO)) [.y9,.y9]:=by
 obtain⟨Q,U⟩:∃Q,bn f9=Q:=⟨_,rfl⟩
 have Z:=cR U (ls:=[[0,1,0,4,12,31,63,127,0,383,895,2047,4095,8191],[0,1,0,7,15,31,63],[0,1,3,0,8,0,32,96,0,480,992,2040,4088,8184,16376,32767,65535,131071,262143],[0,1,0,4,12,31,63,127,0,256,768,1919,3967,0,8192,32767,65535,131071],[0,1,3,0,15,31,63,127]]) (by kernel_rfl);have m:jr [0,1,0,4,12,31,63,127,0,383,895,2047,4095,8191] 13=true:=by decide
 simp only[bn,cU,f9,lA] at U;subst U;simp only[lB] at Z;obtain⟨j,-⟩:=Z;have O:=afv.afE hx;have r0:=eD x.closed;have N:=iw x.closed;have Y:=fun f=>aS (ρ:=f) x.closed
 have M:=afv.agk hx;have V:=afv.afG hx (k:=6) (by decide);simp only[Nat.reduceAdd] at V;have K:=de M;have S:=de V;obtain⟨G,F⟩:=afv.af9 hx (k:=6) (by decide);have D:=dO (x.n 6);have t5:=kd5 x.kind;rw[H] at t5;have R :∃C,x.cells=C:=⟨_,rfl⟩
 obtain⟨C,B⟩:=R;rw[B] at O r0 N Y M V K S |-;obtain⟨X,W⟩:=xE (x.n 6);rw[<-W] at V S G F D |-;have J:C.take 34=C:=An (by omega);obtain⟨z,y⟩:=xE (iC X);rw[<-y] at D |-;have I:z.natAbs<100000000:=by omega
 obtain⟨⟨n1,n2,n3⟩,u⟩:∃v,v=fL x:=⟨_,rfl⟩
 obtain⟨⟨v1,v2,v3⟩,o⟩:∃v,v=DO x:=⟨_,rfl⟩
 rw[<-u,<-o];have eQ:mkRat z 2=hQ z:=rfl;have h:ad (aL prog) (fun _=>[]) (bq prog) (ai (fB x)) 1 9 [.agg [.slice 0 0 n none,.slice 1 0 k none],.agg C,.str [110]] [.y9,.y9]=some ⟨.agg ((vd [110] (zQ (n1,n2,n3)) (hQ z) (hV (v1,v2,v3))).cells .kO .kO .kO .kO),none,[]⟩:=by simp (maxSteps:=1000000) [ad,agK,f9,ai,fB,iF,eC,B,O,N,K,S,G,F,J,t5,w1,w2,<-y,I,eQ,<-u,<-o,-aN,aY j,cX,cO,cV,m,Nat.testBit,aD,ag,zA,vA,zQ,hV,zS,vd,Evc.cells]
 have:=(aB ak (aI _) (jS hx) (aQ _) h).1;simpa [afw.mem] using this
theorem Gb(n k:Nat)(hk:x.kind%5=3):
  bz prog 9 [.agg [.slice 0 0 n none,.slice 1 0 k none],.agg x.cells,.str [110]] [.y9,.y9] (.agg ((CF [110] (zQ (fL x)) (hQ (iC (x.n 6))) (hQ (ps9 (x.n 7))) [110,95,114,111,99,107]).cells .kO .kO .kO .kO)) [.y9,.y9]:=by
 obtain⟨N,S⟩:∃N,bn f9=N:=⟨_,rfl⟩
 have Z:=cR S (ls:=[[0,1,0,4,12,31,63,127,0,383,895,2047,4095,8191],[0,1,0,7,15,31,63],[0,1,3,0,8,0,32,96,0,480,992,2040,4088,8184,16376,32767,65535,131071,262143],[0,1,0,4,12,31,63,127,0,256,768,1919,3967,0,8192,32767,65535,131071],[0,1,3,0,15,31,63,127]]) (by kernel_rfl);have k0:jr [0,1,0,4,12,31,63,127,0,256,768,1919,3967,0,8192,32767,65535,131071] 17=true:=by decide
 simp only[bn,cU,f9,lA] at S;subst S;simp only[lB] at Z;obtain⟨-,-,-,T',-⟩:=Z;have M:=afv.afE hx;have r0:=eD x.closed;have K:=iw x.closed;have e0:=fun f=>aS (ρ:=f) x.closed
 have G:=afv.agk hx;have V:=afv.afG hx (k:=6) (by decide);have U:=afv.afG hx (k:=7) (by decide);simp only[Nat.reduceAdd] at V U;have R:=de U;obtain⟨F,D⟩:=afv.af9 hx (k:=7) (by decide);have B:=nd (x.n 7);have u:=de G;have Q:=de V;obtain⟨o,m⟩:=afv.af9 hx (k:=6) (by decide);have j:=dO (x.n 6);have t5:=kd5 x.kind;rw[hk] at t5;have O :∃C,x.cells=C:=⟨_,rfl⟩
 obtain⟨C,W⟩:=O;rw[W] at M r0 K e0 G V U u Q R |-;obtain⟨X,hX⟩:=xE (x.n 6);rw[<-hX] at V Q o m j |-;obtain⟨Y,hY⟩:=xE (x.n 7);rw[<-hY] at U R F D B |-;obtain⟨y,J⟩:=xE (ps9 Y);rw[<-J] at B |-;have g7:y.natAbs<100000000:=by omega
 have eY:mkRat y 2=hQ y:=rfl;have tk:C.take 34=C:=An (by omega);obtain⟨z,I⟩:=xE (iC X);rw[<-I] at j |-;have g6:z.natAbs<100000000:=by omega
 obtain⟨⟨n1,n2,n3⟩,H⟩:∃v,v=fL x:=⟨_,rfl⟩
 rw[<-H];have eQ:mkRat z 2=hQ z:=rfl;have h:ad (aL prog) (fun _=>[]) (bq prog) (ai (fB x)) 1 9 [.agg [.slice 0 0 n none,.slice 1 0 k none],.agg C,.str [110]] [.y9,.y9]=some ⟨.agg ((CF [110] (zQ (n1,n2,n3)) (hQ z) (hQ y) [110,95,114,111,99,107]).cells .kO .kO .kO .kO),none,[]⟩:=by simp (maxSteps:=1000000) [ad,agK,f9,ai,fB,iF,eC,W,M,K,u,Q,o,m,tk,t5,w3,w4,<-I,g6,eQ,<-H,R,F,D,<-J,g7,eY,-aN,aY T',cX,cO,cV,k0,Nat.testBit,aD,ag,ft,zA,zQ,zS,CF,Evc.cells]
 have:=(aB ak (aI _) (jS hx) (aQ _) h).1;simpa [afw.mem] using this
theorem Gc(n k:Nat)(H:x.kind%5=4):
  bz prog 9 [.agg [.slice 0 0 n none,.slice 1 0 k none],.agg x.cells,.str [110]] [.y9,.y9] (.agg ((CG [110] (oO x) (zQ (fL x))).cells .kO .kO .kO .kO)) [.y9,.y9]:=by
 obtain⟨R,U⟩:∃R,bn f9=R:=⟨_,rfl⟩
 have Z:=cR U (ls:=[[0,1,0,4,12,31,63,127,0,383,895,2047,4095,8191],[0,1,0,7,15,31,63],[0,1,3,0,8,0,32,96,0,480,992,2040,4088,8184,16376,32767,65535,131071,262143],[0,1,0,4,12,31,63,127,0,256,768,1919,3967,0,8192,32767,65535,131071],[0,1,3,0,15,31,63,127]]) (by kernel_rfl);have u:jr [0,1,3,0,15,31,63,127] 7=true:=by decide
 simp only[bn,cU,f9,lA] at U;subst U;simp only[lB] at Z;obtain⟨-,-,-,-,o⟩:=Z;have Q:=afv.afE hx;have r0:=eD x.closed;have O:=iw x.closed;have m:=fun f=>aS (ρ:=f) x.closed
 have N:=afv.agk hx;have V:=afv.afG hx (k:=6) (by decide);simp only[Nat.reduceAdd] at V;have M:=de N;have K:=de V;obtain⟨j,Y⟩:=afv.af9 hx (k:=6) (by decide);have G:=dO (x.n 6);have t5:=kd5 x.kind;rw[H] at t5;have F:=afv.ahr hx;have W:=ov x.T;have J:=iw W;have lT:(i8C x.T).length=4:=by rw[il,hx.tl]
 have S :∃C,x.cells=C:=⟨_,rfl⟩
 obtain⟨C,D⟩:=S;rw[D] at Q r0 O m N V M K F |-;obtain⟨X,I⟩:=xE (x.n 6);rw[<-I] at V K j Y G;have tk:C.take 34=C:=An (by omega);obtain⟨z,hz⟩:=xE (iC X);rw[<-hz] at G;have g6:z.natAbs<100000000:=by omega
 obtain⟨⟨n1,n2,n3⟩,B⟩:∃v,v=fL x:=⟨_,rfl⟩
 obtain⟨⟨t1,t2,t3,t4⟩,y⟩:∃v,v=oO x:=⟨_,rfl⟩
 rw[<-B,<-y];have eQ:mkRat z 2=hQ z:=rfl;have h:ad (aL prog) (fun _=>[]) (bq prog) (ai (fB x)) 1 9 [.agg [.slice 0 0 n none,.slice 1 0 k none],.agg C,.str [110]] [.y9,.y9]=some ⟨.agg ((CG [110] (t1,t2,t3,t4) (zQ (n1,n2,n3))).cells .kO .kO .kO .kO),none,[]⟩:=by simp (maxSteps:=1000000) [ad,agK,f9,ai,fB,iF,D,Q,O,M,tk,t5,w4,w5,<-B,<-y,-aN,aY o,cX,cO,cV,u,Nat.testBit,aD,ag,F,J,tA,zA,zQ,zS,CG,Evc.cells]
 have:=(aB ak (aI _) (jS hx) (aQ _) h).1;simpa [afw.mem] using this
end
def nU:Code->List Nat:=fun _=>[9,9,8]
theorem ahu:jr [0,1,0,7,15,31,63] 6=true:=by decide
section
variable (x:afv)(hx:x.Ok)
include x hx
theorem DY(n k:Nat)(hk:x.kind%5=2)(hJ:ct3 (x.n 7)=1):
  bz prog 9 [.agg [.slice 0 0 n none,.slice 1 0 k none],.agg x.cells,.str [110]] [.y9,.y9] (.agg ((mR [110] (zQ (fL x)) (x.af0 1) (zQ (DO x))).cells .kO .kO .kO (.slice 2 0 1 none))) ([.y9,.y9]++[.cells true 2 (kC (kT (x.af0 1)))]):=by
 obtain⟨os,m⟩:∃os,bn f9=os:=⟨_,rfl⟩
 have U:=cR m (ls:=[[0,1,0,4,12,31,63,127,0,383,895,2047,4095,8191],[0,1,0,7,15,31,63],[0,1,3,0,8,0,32,96,0,480,992,2040,4088,8184,16376,32767,65535,131071,262143],[0,1,0,4,12,31,63,127,0,256,768,1919,3967,0,8192,32767,65535,131071],[0,1,3,0,15,31,63,127]]) (by kernel_rfl);simp only[bn,cU,f9,lA] at m;subst m;simp only[lB] at U;obtain⟨-,j,Y,-⟩:=U;have l0:=afv.afE hx;have r0:=eD x.closed;have o0:=iw x.closed;have e0:=fun f=>aS (ρ:=f) x.closed
 have ik:=afv.agk hx;have K:=afv.afG hx (k:=0) (by decide);have G:=afv.afG hx (k:=1) (by decide);have F:=afv.afG hx (k:=2) (by decide);have D:=afv.afG hx (k:=3) (by decide);have B:=afv.afG hx (k:=4) (by decide);have y:=afv.afG hx (k:=5) (by decide);have u:=afv.afG hx (k:=6) (by decide);have o:=afv.afG hx (k:=7) (by decide);simp only[Nat.reduceAdd] at K G F D B y u o;have jk:=de ik;have j0:=de K;obtain⟨b0,c0⟩:=afv.af9 hx (k:=0) (by decide);have j1:=de G;obtain⟨b1,c1⟩:=afv.af9 hx (k:=1) (by decide);have j2:=de F;obtain⟨b2,c2⟩:=afv.af9 hx (k:=2) (by decide);have W:=de D;obtain⟨b3,c3⟩:=afv.af9 hx (k:=3) (by decide);have j4:=de B;obtain⟨b4,c4⟩:=afv.af9 hx (k:=4) (by decide);have j5:=de y;obtain⟨b5,c5⟩:=afv.af9 hx (k:=5) (by decide);have J:=de u;obtain⟨b6,c6⟩:=afv.af9 hx (k:=6) (by decide);have I:=de o;obtain⟨b7,c7⟩:=afv.af9 hx (k:=7) (by decide);have s6:=dO (x.n 6);have s7:=dO (x.n 7);have s0:=dO (x.n 0);have s1:=dO (x.n 1);have q3:=nd (x.n 3);have q4:=nd (x.n 4);have q5:=nd (x.n 5);have t5:=kd5 x.kind;rw[hk] at t5;obtain⟨w3,w4⟩:=yz (afv.af9 hx (k:=7) (by decide));rw[hJ] at w4;have K0:x.af0 1=[((((iC (x.n 6)):Int):Rat),hQ (iC (x.n 7)))]:=rfl;rw[K0];clear K0;have H :∃C,x.cells=C:=⟨_,rfl⟩
 obtain⟨C,hC⟩:=H;rw[hC] at l0 r0 o0 e0 ik jk K j0 G j1 F j2 D W B j4 y j5 u J o I |-;obtain⟨X0,hX0⟩:=xE (x.n 0);rw[<-hX0] at K j0 b0 c0 s0;obtain⟨X1,hX1⟩:=xE (x.n 1);rw[<-hX1] at G j1 b1 c1 s1;obtain⟨X2,hX2⟩:=xE (x.n 2);rw[<-hX2] at F j2 b2 c2;obtain⟨X3,hX3⟩:=xE (x.n 3);rw[<-hX3] at D W b3 c3 q3;obtain⟨X4,hX4⟩:=xE (x.n 4);rw[<-hX4] at B j4 b4 c4 q4;obtain⟨X5,hX5⟩:=xE (x.n 5);rw[<-hX5] at y j5 b5 c5 q5;obtain⟨X6,S⟩:=xE (x.n 6);rw[<-S] at u J b6 c6 s6;obtain⟨X7,R⟩:=xE (x.n 7);rw[<-R] at o I b7 c7 s7 w3 w4;rw[<-S,<-R];have tk:C.take 34=C:=An (by omega);have wX:IntKind.i64.wrap X7=X7:=kX (by omega) (by omega);obtain⟨Z,X⟩:=xE (iC X6);rw[<-X] at s6;have g6:Z.natAbs<100000000:=by omega
 have eQ6:mkRat Z 2=hQ Z:=rfl;obtain⟨Q,V⟩:=xE (iC X7);rw[<-V] at s7;have g7:Q.natAbs<100000000:=by omega
 have eQ7:mkRat Q 2=hQ Q:=rfl;obtain⟨z0,hz0⟩:=xE (iC X0);rw[<-hz0] at s0;have g0:z0.natAbs<100000000:=by omega
 have eQ0:mkRat z0 2=hQ z0:=rfl;obtain⟨z1,hz1⟩:=xE (iC X1);rw[<-hz1] at s1;have g1:z1.natAbs<100000000:=by omega
 have eQ1:mkRat z1 2=hQ z1:=rfl;obtain⟨y3,O⟩:=xE (ps9 X3);rw[<-O] at q3;obtain⟨y4,hy4⟩:=xE (ps9 X4);rw[<-hy4] at q4;obtain⟨y5,hy5⟩:=xE (ps9 X5);rw[<-hy5] at q5;obtain⟨N,ha1⟩:=xE (Z+y3);obtain⟨M,ha2⟩:=xE (N+y4);obtain⟨a3,ha3⟩:=xE (M+y5);have wa1:IntKind.i64.wrap (Z+y3)=N:=by rw[af];exact ha1.symm
 have wa2:IntKind.i64.wrap (N+y4)=M:=by rw[af];exact ha2.symm
 have wa3:IntKind.i64.wrap (M+y5)=a3:=by rw[af];exact ha3.symm
 have ga1:N.natAbs<100000000:=by omega
 have ga2:M.natAbs<100000000:=by omega
 have m6:=gV Z;have m1:=gV N;have m2:=gV M;rw[<-X,<-V];obtain⟨⟨n1,n2,n3⟩,hn⟩:∃v,v=fL x:=⟨_,rfl⟩
 obtain⟨⟨v1,v2,v3⟩,hv⟩:∃v,v=DO x:=⟨_,rfl⟩
 rw[<-hn,<-hv];have u0:IntKind.i64.wrap 0=0:=rfl;have u1:IntKind.i64.wrap 1=1:=rfl;have u2:IntKind.i64.wrap 2=2:=rfl;have u3:IntKind.i64.wrap 3=3:=rfl;have u4:IntKind.i64.wrap 4=4:=rfl;have u5:IntKind.i64.wrap 5=5:=rfl;have u7:IntKind.i64.wrap 7=7:=rfl;have u8:IntKind.i64.wrap 8=8:=rfl;have u9:IntKind.i64.wrap 9=9:=rfl;have h:ad (aL prog) nU (bq prog) (ai (fB x)) 5 9 [.agg [.slice 0 0 n none,.slice 1 0 k none],.agg C,.str [110]] [.y9,.y9]=some ⟨.agg ((mR [110] (zQ (n1,n2,n3)) [(((Z:Int):Rat),hQ Q)] (zQ (v1,v2,v3))).cells .kO .kO .kO (.slice 2 0 1 none)),some [.y9,.y9],[.cells true 2 (kC (kT [(((Z:Int):Rat),hQ Q)]))]⟩:=by simp (maxSteps:=3000000) [ad,agK,f9,nU,bw,ga,ai,fB,iF,eC,hC,l0,r0,o0,e0,jk,tk,t5,wX,w3,w4,u1,u2,u3,u7,W,b3,c3,J,b6,c6,I,b7,c7,<-X,g6,<-V,g7,eQ7,<-O,wa1,m6,<-hn,<-hv,-aN,aY j,aK Y,cX,cO,cV,ahu,bU,gi,dy,bL,cF,eI,bef,qI,Nat.testBit,aD,ag,zA,zQ,zS,mR,Evc.cells,kC,kT,List.idxOf?_cons]
 have:=(aB ak (aI _) (jS hx) (aQ _) h).1;simpa [afw.mem] using this
theorem DZ(n k:Nat)(hk:x.kind%5=2)(hJ:ct3 (x.n 7)=2):
  bz prog 9 [.agg [.slice 0 0 n none,.slice 1 0 k none],.agg x.cells,.str [110]] [.y9,.y9] (.agg ((mR [110] (zQ (fL x)) (x.af0 2) (zQ (DO x))).cells .kO .kO .kO (.slice 2 0 2 none))) ([.y9,.y9]++[.cells true 2 (kC (kT (x.af0 2)))]):=by
 obtain⟨os,H⟩:∃os,bn f9=os:=⟨_,rfl⟩
 have Q:=cR H (ls:=[[0,1,0,4,12,31,63,127,0,383,895,2047,4095,8191],[0,1,0,7,15,31,63],[0,1,3,0,8,0,32,96,0,480,992,2040,4088,8184,16376,32767,65535,131071,262143],[0,1,0,4,12,31,63,127,0,256,768,1919,3967,0,8192,32767,65535,131071],[0,1,3,0,15,31,63,127]]) (by kernel_rfl);simp only[bn,cU,f9,lA] at H;subst H;simp only[lB] at Q;obtain⟨-,hb1,hb2,-⟩:=Q;have l0:=afv.afE hx;have r0:=eD x.closed;have o0:=iw x.closed;have e0:=fun f=>aS (ρ:=f) x.closed
 have ik:=afv.agk hx;have u:=afv.afG hx (k:=0) (by decide);have o:=afv.afG hx (k:=1) (by decide);have m:=afv.afG hx (k:=2) (by decide);have j:=afv.afG hx (k:=3) (by decide);have Y:=afv.afG hx (k:=4) (by decide);have W:=afv.afG hx (k:=5) (by decide);have J:=afv.afG hx (k:=6) (by decide);have I:=afv.afG hx (k:=7) (by decide);simp only[Nat.reduceAdd] at u o m j Y W J I;have jk:=de ik;have j0:=de u;obtain⟨b0,c0⟩:=afv.af9 hx (k:=0) (by decide);have j1:=de o;obtain⟨b1,c1⟩:=afv.af9 hx (k:=1) (by decide);have j2:=de m;obtain⟨b2,c2⟩:=afv.af9 hx (k:=2) (by decide);have j3:=de j;obtain⟨b3,c3⟩:=afv.af9 hx (k:=3) (by decide);have j4:=de Y;obtain⟨b4,c4⟩:=afv.af9 hx (k:=4) (by decide);have j5:=de W;obtain⟨b5,c5⟩:=afv.af9 hx (k:=5) (by decide);have j6:=de J;obtain⟨b6,c6⟩:=afv.af9 hx (k:=6) (by decide);have j7:=de I;obtain⟨b7,c7⟩:=afv.af9 hx (k:=7) (by decide);have s6:=dO (x.n 6);have s7:=dO (x.n 7);have s0:=dO (x.n 0);have s1:=dO (x.n 1);have q3:=nd (x.n 3);have q4:=nd (x.n 4);have q5:=nd (x.n 5);have t5:=kd5 x.kind;rw[hk] at t5;obtain⟨w3,w4⟩:=yz (afv.af9 hx (k:=7) (by decide));rw[hJ] at w4;have K0:x.af0 2=[((((iC (x.n 6)):Int):Rat),hQ (iC (x.n 7))),((((iC (x.n 6)+ps9 (x.n 3)):Int):Rat),hQ (iC (x.n 0)))]:=rfl;rw[K0];clear K0;have hC' :∃C,x.cells=C:=⟨_,rfl⟩
 obtain⟨C,hC⟩:=hC';rw[hC] at l0 r0 o0 e0 ik jk u j0 o j1 m j2 j j3 Y j4 W j5 J j6 I j7 |-;obtain⟨X0,O⟩:=xE (x.n 0);rw[<-O] at u j0 b0 c0 s0;obtain⟨X1,hX1⟩:=xE (x.n 1);rw[<-hX1] at o j1 b1 c1 s1;obtain⟨X2,hX2⟩:=xE (x.n 2);rw[<-hX2] at m j2 b2 c2;obtain⟨X3,N⟩:=xE (x.n 3);rw[<-N] at j j3 b3 c3 q3;obtain⟨X4,hX4⟩:=xE (x.n 4);rw[<-hX4] at Y j4 b4 c4 q4;obtain⟨X5,hX5⟩:=xE (x.n 5);rw[<-hX5] at W j5 b5 c5 q5;obtain⟨X6,M⟩:=xE (x.n 6);rw[<-M] at J j6 b6 c6 s6;obtain⟨X7,K⟩:=xE (x.n 7);rw[<-K] at I j7 b7 c7 s7 w3 w4;rw[<-M,<-K,<-O,<-N];have tk:C.take 34=C:=An (by omega);have wX:IntKind.i64.wrap X7=X7:=kX (by omega) (by omega);obtain⟨Z,X⟩:=xE (iC X6);rw[<-X] at s6;have g6:Z.natAbs<100000000:=by omega
 have eQ6:mkRat Z 2=hQ Z:=rfl;obtain⟨G,V⟩:=xE (iC X7);rw[<-V] at s7;have g7:G.natAbs<100000000:=by omega
 have eQ7:mkRat G 2=hQ G:=rfl;obtain⟨F,U⟩:=xE (iC X0);rw[<-U] at s0;have g0:F.natAbs<100000000:=by omega
 have eQ0:mkRat F 2=hQ F:=rfl;obtain⟨z1,hz1⟩:=xE (iC X1);rw[<-hz1] at s1;have g1:z1.natAbs<100000000:=by omega
 have eQ1:mkRat z1 2=hQ z1:=rfl;obtain⟨y3,S⟩:=xE (ps9 X3);rw[<-S] at q3;obtain⟨y4,D⟩:=xE (ps9 X4);rw[<-D] at q4;obtain⟨y5,hy5⟩:=xE (ps9 X5);rw[<-hy5] at q5;obtain⟨R,B⟩:=xE (Z+y3);obtain⟨y,ha2⟩:=xE (R+y4);obtain⟨a3,ha3⟩:=xE (y+y5);have wa1:IntKind.i64.wrap (Z+y3)=R:=by rw[af];exact B.symm
 have wa2:IntKind.i64.wrap (R+y4)=y:=by rw[af];exact ha2.symm
 have wa3:IntKind.i64.wrap (y+y5)=a3:=by rw[af];exact ha3.symm
 have ga1:R.natAbs<100000000:=by omega
 have ga2:y.natAbs<100000000:=by omega
 have m6:=gV Z;have m1:=gV R;have m2:=gV y;rw[<-X,<-V,<-U,<-S,<-B];obtain⟨⟨n1,n2,n3⟩,hn⟩:∃v,v=fL x:=⟨_,rfl⟩
 obtain⟨⟨v1,v2,v3⟩,hv⟩:∃v,v=DO x:=⟨_,rfl⟩
 rw[<-hn,<-hv];have u0:IntKind.i64.wrap 0=0:=rfl;have u1:IntKind.i64.wrap 1=1:=rfl;have u2:IntKind.i64.wrap 2=2:=rfl;have u3:IntKind.i64.wrap 3=3:=rfl;have u4:IntKind.i64.wrap 4=4:=rfl;have u5:IntKind.i64.wrap 5=5:=rfl;have u7:IntKind.i64.wrap 7=7:=rfl;have u8:IntKind.i64.wrap 8=8:=rfl;have u9:IntKind.i64.wrap 9=9:=rfl;have h:ad (aL prog) nU (bq prog) (ai (fB x)) 5 9 [.agg [.slice 0 0 n none,.slice 1 0 k none],.agg C,.str [110]] [.y9,.y9]=some ⟨.agg ((mR [110] (zQ (n1,n2,n3)) [(((Z:Int):Rat),hQ G),(((R:Int):Rat),hQ F)] (zQ (v1,v2,v3))).cells .kO .kO .kO (.slice 2 0 2 none)),some [.y9,.y9],[.cells true 2 (kC (kT [(((Z:Int):Rat),hQ G),(((R:Int):Rat),hQ F)]))]⟩:=by simp (maxSteps:=3000000) [ad,agK,f9,nU,bw,ga,ai,fB,iF,eC,hC,l0,r0,o0,e0,jk,tk,t5,wX,w3,w4,u1,u2,u3,u4,u7,u8,j0,b0,c0,j3,b3,c3,j4,b4,c4,j6,b6,c6,j7,b7,c7,<-X,g6,<-V,g7,eQ7,<-U,g0,eQ0,<-S,<-D,wa1,wa2,ga1,m6,m1,<-hn,<-hv,-aN,aY hb1,aK hb2,cX,cO,cV,ahu,bU,gi,dy,bL,cF,eI,bef,qI,Nat.testBit,aD,ag,zA,zQ,zS,mR,Evc.cells,kC,kT,List.idxOf?_cons]
 have:=(aB ak (aI _) (jS hx) (aQ _) h).1;simpa [afw.mem] using this
theorem D8(n k:Nat)(hk:x.kind%5=2)(hJ:ct3 (x.n 7)=3):
  bz prog 9 [.agg [.slice 0 0 n none,.slice 1 0 k none],.agg x.cells,.str [110]] [.y9,.y9] (.agg ((mR [110] (zQ (fL x)) (x.af0 3) (zQ (DO x))).cells .kO .kO .kO (.slice 2 0 3 none))) ([.y9,.y9]++[.cells true 2 (kC (kT (x.af0 3)))]):=by
 obtain⟨os,B'⟩:∃os,bn f9=os:=⟨_,rfl⟩
 have M:=cR B' (ls:=[[0,1,0,4,12,31,63,127,0,383,895,2047,4095,8191],[0,1,0,7,15,31,63],[0,1,3,0,8,0,32,96,0,480,992,2040,4088,8184,16376,32767,65535,131071,262143],[0,1,0,4,12,31,63,127,0,256,768,1919,3967,0,8192,32767,65535,131071],[0,1,3,0,15,31,63,127]]) (by kernel_rfl);simp only[bn,cU,f9,lA] at B';subst B';simp only[lB] at M;obtain⟨-,hb1,hb2,-⟩:=M;have l0:=afv.afE hx;have r0:=eD x.closed;have o0:=iw x.closed;have e0:=fun f=>aS (ρ:=f) x.closed
 have ik:=afv.agk hx;have J:=afv.afG hx (k:=0) (by decide);have I:=afv.afG hx (k:=1) (by decide);have H:=afv.afG hx (k:=2) (by decide);have i3:=afv.afG hx (k:=3) (by decide);have i4:=afv.afG hx (k:=4) (by decide);have i5:=afv.afG hx (k:=5) (by decide);have i6:=afv.afG hx (k:=6) (by decide);have i7:=afv.afG hx (k:=7) (by decide);simp only[Nat.reduceAdd] at J I H i3 i4 i5 i6 i7;have jk:=de ik;have j0:=de J;obtain⟨b0,c0⟩:=afv.af9 hx (k:=0) (by decide);have j1:=de I;obtain⟨b1,c1⟩:=afv.af9 hx (k:=1) (by decide);have j2:=de H;obtain⟨b2,c2⟩:=afv.af9 hx (k:=2) (by decide);have j3:=de i3;obtain⟨b3,c3⟩:=afv.af9 hx (k:=3) (by decide);have j4:=de i4;obtain⟨b4,c4⟩:=afv.af9 hx (k:=4) (by decide);have j5:=de i5;obtain⟨b5,c5⟩:=afv.af9 hx (k:=5) (by decide);have j6:=de i6;obtain⟨b6,c6⟩:=afv.af9 hx (k:=6) (by decide);have j7:=de i7;obtain⟨b7,c7⟩:=afv.af9 hx (k:=7) (by decide);have s6:=dO (x.n 6);have s7:=dO (x.n 7);have s0:=dO (x.n 0);have s1:=dO (x.n 1);have q3:=nd (x.n 3);have q4:=nd (x.n 4);have q5:=nd (x.n 5);have t5:=kd5 x.kind;rw[hk] at t5;obtain⟨w3,w4⟩:=yz (afv.af9 hx (k:=7) (by decide));rw[hJ] at w4;have K0:x.af0 3=[((((iC (x.n 6)):Int):Rat),hQ (iC (x.n 7))),((((iC (x.n 6)+ps9 (x.n 3)):Int):Rat),hQ (iC (x.n 0))),((((iC (x.n 6)+ps9 (x.n 3)+ps9 (x.n 4)):Int):Rat),hQ (iC (x.n 1)))]:=rfl;rw[K0];clear K0;have hC' :∃C,x.cells=C:=⟨_,rfl⟩
 obtain⟨C,hC⟩:=hC';rw[hC] at l0 r0 o0 e0 ik jk J j0 I j1 H j2 i3 j3 i4 j4 i5 j5 i6 j6 i7 j7 |-;obtain⟨X0,K⟩:=xE (x.n 0);rw[<-K] at J j0 b0 c0 s0;obtain⟨X1,G⟩:=xE (x.n 1);rw[<-G] at I j1 b1 c1 s1;obtain⟨X2,hX2⟩:=xE (x.n 2);rw[<-hX2] at H j2 b2 c2;obtain⟨X3,F⟩:=xE (x.n 3);rw[<-F] at i3 j3 b3 c3 q3;obtain⟨X4,D⟩:=xE (x.n 4);rw[<-D] at i4 j4 b4 c4 q4;obtain⟨X5,hX5⟩:=xE (x.n 5);rw[<-hX5] at i5 j5 b5 c5 q5;obtain⟨X6,B⟩:=xE (x.n 6);rw[<-B] at i6 j6 b6 c6 s6;obtain⟨X7,y⟩:=xE (x.n 7);rw[<-y] at i7 j7 b7 c7 s7 w3 w4;rw[<-B,<-y,<-K,<-G,<-F,<-D];have tk:C.take 34=C:=An (by omega);have wX:IntKind.i64.wrap X7=X7:=kX (by omega) (by omega);obtain⟨Z,X⟩:=xE (iC X6);rw[<-X] at s6;have g6:Z.natAbs<100000000:=by omega
 have eQ6:mkRat Z 2=hQ Z:=rfl;obtain⟨u,V⟩:=xE (iC X7);rw[<-V] at s7;have g7:u.natAbs<100000000:=by omega
 have eQ7:mkRat u 2=hQ u:=rfl;obtain⟨o,U⟩:=xE (iC X0);rw[<-U] at s0;have g0:o.natAbs<100000000:=by omega
 have eQ0:mkRat o 2=hQ o:=rfl;obtain⟨m,S⟩:=xE (iC X1);rw[<-S] at s1;have g1:m.natAbs<100000000:=by omega
 have eQ1:mkRat m 2=hQ m:=rfl;obtain⟨y3,R⟩:=xE (ps9 X3);rw[<-R] at q3;obtain⟨y4,Q⟩:=xE (ps9 X4);rw[<-Q] at q4;obtain⟨y5,j⟩:=xE (ps9 X5);rw[<-j] at q5;obtain⟨O,Y⟩:=xE (Z+y3);obtain⟨N,W⟩:=xE (O+y4);obtain⟨a3,ha3⟩:=xE (N+y5);have wa1:IntKind.i64.wrap (Z+y3)=O:=by rw[af];exact Y.symm
 have wa2:IntKind.i64.wrap (O+y4)=N:=by rw[af];exact W.symm
 have wa3:IntKind.i64.wrap (N+y5)=a3:=by rw[af];exact ha3.symm
 have ga1:O.natAbs<100000000:=by omega
 have ga2:N.natAbs<100000000:=by omega
 have m6:=gV Z;have m1:=gV O;have m2:=gV N;rw[<-X,<-V,<-U,<-S,<-R,<-Q,<-Y,<-W];obtain⟨⟨n1,n2,n3⟩,hn⟩:∃v,v=fL x:=⟨_,rfl⟩
 obtain⟨⟨v1,v2,v3⟩,hv⟩:∃v,v=DO x:=⟨_,rfl⟩
 rw[<-hn,<-hv];have u0:IntKind.i64.wrap 0=0:=rfl;have u1:IntKind.i64.wrap 1=1:=rfl;have u2:IntKind.i64.wrap 2=2:=rfl;have u3:IntKind.i64.wrap 3=3:=rfl;have u4:IntKind.i64.wrap 4=4:=rfl;have u5:IntKind.i64.wrap 5=5:=rfl;have u7:IntKind.i64.wrap 7=7:=rfl;have u8:IntKind.i64.wrap 8=8:=rfl;have u9:IntKind.i64.wrap 9=9:=rfl;have h:ad (aL prog) nU (bq prog) (ai (fB x)) 5 9 [.agg [.slice 0 0 n none,.slice 1 0 k none],.agg C,.str [110]] [.y9,.y9]=some ⟨.agg ((mR [110] (zQ (n1,n2,n3)) [(((Z:Int):Rat),hQ u),(((O:Int):Rat),hQ o),(((N:Int):Rat),hQ m)] (zQ (v1,v2,v3))).cells .kO .kO .kO (.slice 2 0 3 none)),some [.y9,.y9],[.cells true 2 (kC (kT [(((Z:Int):Rat),hQ u),(((O:Int):Rat),hQ o),(((N:Int):Rat),hQ m)]))]⟩:=by simp (maxSteps:=3000000) [ad,agK,f9,nU,bw,ga,ai,fB,iF,eC,hC,l0,r0,o0,e0,jk,tk,t5,wX,w3,w4,u1,u2,u3,u4,u5,u7,u8,u9,j0,b0,c0,j1,b1,c1,j3,b3,c3,j4,b4,c4,j5,b5,c5,j6,b6,c6,j7,b7,c7,<-X,g6,<-V,g7,eQ7,<-U,g0,eQ0,<-S,g1,eQ1,<-R,<-Q,<-j,wa1,wa2,wa3,ga1,ga2,m6,m1,m2,<-hn,<-hv,-aN,aY hb1,aK hb2,cX,cO,cV,ahu,bU,gi,dy,bL,cF,eI,bef,qI,Nat.testBit,aD,ag,zA,zQ,zS,mR,Evc.cells,kC,kT,List.idxOf?_cons]
 have:=(aB ak (aI _) (jS hx) (aQ _) h).1;simpa [afw.mem] using this
end
def hS(Z:List Int):List (List UInt8):=(qH Z).map aJ
theorem Zq(Z:List Int):stC (hS Z)=qC (qH Z):=(Xo _).symm
theorem zq(Z:List Int):(hS Z).length=Z.length:=by simp[hS,qH]
def zH(x:afv)(n:Nat):Nat->List (List Int)
 |1=>[]
 |2=>[upL x.s0 (x.base.l n) n]
 |_=>[upL x.s0 (x.base.l n) n,upL x.s1 (upL x.s0 (x.base.l n) n) n]
def EB(x:afv)(n c:Nat):Evc:={ k:=1,nm:=[110],B:=hS (x.base.l n),U:=uNm c,S:=(zH x n c).map hS }
theorem Xv{h:Hts}{L:List Int}{n i:Nat}{z y:Int}(hz:L[i]? =some z)(H:(upL h L n)[i]? =some y):z<=y:=by
 unfold upL at H;rw[Y1] at H;by_cases Z:i<n
 .rw[List.getElem?_range Z] at H
  have e:L.getD i 0=z:=by rw[List.getD_eq_getElem?_getD,hz];rfl
  simp only[Option.map_some,Mp] at H;rw[e] at H;omega
 .rw[List.getElem?_eq_none (by simp;omega)] at H
  simp at H
theorem F9(x:afv)(hx:x.Ok)(n k:Nat)(H:0<n)(I:n<=1000)(J:x.kind%5=0):
  bz prog 9 [.agg [.slice 0 0 n none,.slice 1 0 k none],.agg x.cells,.str [110]] [.y9,.y9] (.agg ((EB x n (ctN x)).cells (.slice 2 0 n none) (.slice 3 0 (ctN x) none) (dqS 2 n (ctN x)) .kO)) ([.y9,.y9]++dqN 2 x n (ctN x)):=by
 have K:=afv.afE hx;have r0:=eD x.closed;have y:=iw x.closed;have u:=fun f=>aS (ρ:=f) x.closed
 have G:=afv.agk hx;have F:=de G;have t5:=kd5 x.kind;rw[J] at t5;have X:=fun M p t Z o=>MZ x hx n k H I M p t Z o
 have h3:=fC x;have D:(EB x n (ctN x)).cells (.slice 2 0 n none) (.slice 3 0 (ctN x) none) (dqS 2 n (ctN x)) .kO=XL [110] (.slice 2 0 n none) (.slice 3 0 (ctN x) none) (dqS 2 n (ctN x)):=rfl;rw[D];clear D;obtain⟨c,B⟩:=xE (ctN x);rw[<-B] at X h3 |-;clear B;have hN:dqN 2 x n c=dqN 2 x n c:=rfl;obtain⟨A,V⟩:=xE (qC (qH (x.base.l n)));have m:∀n,AV.afN n A=[]:=fun n=>by rw[V,gk]
 have j:∀f,AV.afR f A=A:=fun f=>by rw[V,kN]
 obtain⟨R,U⟩:=xE (qC (qH (upL x.s0 (x.base.l n) n)));have Y:∀n,AV.afN n R=[]:=fun n=>by rw[U,gk]
 have W:∀f,AV.afR f R=R:=fun f=>by rw[U,kN]
 obtain⟨S,hS⟩:=xE (qC (qH (upL x.s1 (upL x.s0 (x.base.l n) n) n)));have Sr:∀n,AV.afN n S=[]:=fun n=>by rw[hS,gk]
 have Sn:∀f,AV.afR f S=S:=fun f=>by rw[hS,kN]
 have Q :∃C,x.cells=C:=⟨_,rfl⟩
 obtain⟨C,hC⟩:=Q;rw[hC] at K r0 y u G F X |-;have tk:C.take 34=C:=An (by omega);have u1:IntKind.i64.wrap 1=1:=rfl;have u0:IntKind.i64.wrap 0=0:=rfl;obtain⟨L,O⟩:=xE (α:=List (FuncId×List AV×(Mem->Prop)×afw)) [(35,[.agg [.slice 0 0 n none,.slice 1 0 k none],.agg C,.str [110]],fun M=>M.length=6,⟨.agg [.slice 6 0 n none,.slice 7 0 c none,dqS 6 n c],none,dqN 6 x n c⟩)];have hO:afs prog (ie L):=wU fun z N M Z=>by rw[O] at N;simp only[lM] at N;subst N;have Z:M.length=6:=Z;have h:=X M 0 1 (by omega) (by omega);rw[Z] at h;exact aA h
 have e1:∀M:Mem,M.length=6->ie L (.fn 35) [.agg [.slice 0 0 n none,.slice 1 0 k none],.agg C,.str [110]] M=some ⟨.agg [.slice 6 0 n none,.slice 7 0 c none,dqS 6 n c],none,dqN 6 x n c⟩:=fun M hM=>by rw[O];exact dn hM
 clear O X;have h:ad (aL prog) (fun _=>[]) (bq prog) (ie L) 1 9 [.agg [.slice 0 0 n none,.slice 1 0 k none],.agg C,.str [110]] [.y9,.y9]=some ⟨.agg (XL [110] (.slice 2 0 n none) (.slice 3 0 c none) (dqS 2 n c)),none,dqN 2 x n c⟩:=by
  rcases h3 with rfl | rfl | rfl<;>
   simp (maxSteps:=1000000) [ad,agK,f9,e1,K,F,tk,t5,u0,u1,aD,ag,dqS,dqN,<-V,<-U,<-hS,m,j,Y,W,Sr,Sn,XL,uNm,nmE,stC,List.idxOf?_cons]
 have:=(aB ak (aI _) hO (aQ _) h).1;simpa [afw.mem] using this
section
variable {M:Mem}{pv tv:AV}{ev:List AV}{n mo lo kd:Int}{k0 k1 mf k3 k4:FuncId}
end
end Go.Proofs
namespace Go.Proofs
open Go.Eng
section
variable {pv tv b u sv kn:AV}{c:Evc}{x:Int}{M:Mem}{us:List (List UInt8)}{ub:Nat}{o:Bool}
end
end Go.Proofs
namespace Go.Proofs
open Go.Eng
open Tryz
def afC(r:M3)(s:V3):Prop:=vC r.1/\vC r.2.1/\vC r.2.2/\vC s
structure ah5 (r:M3)(s p:V3):Prop where
 ck:afC r s
 pk:vC p
 mm:mOk r p
 fk:vF (Zs r p)/\vF s
 rk:vC (ZN (Zs r p) s)
def Z9(k:Nat)(Q:List (Rat×Rat)):Prop:=∀q∈Q,big k q.1/\big k q.2
def ZQ(M:Mem)(x:AV)(L:List (List UInt8×List UInt8)):Prop:=∃b o Z,x=.slice b 0 L.length none/\M[b]? =some (.cells o 2 Z)/\Z.take (2*L.length)=kC L
theorem Uz(n:Nat):∀L:List (List UInt8×List UInt8),AV.afB n (kC L)=true
 | []=>by simp[kC,AV.afB]
 |k::L=>by simp[kC,AV.afB,AV.under,Uz n L]
theorem WG:∀{L:List (List UInt8×List UInt8)} {i:Nat} {v:AV} (f:Nat->Option Nat),(kC L)[i]? =some v->v.ren f=v:=by
 intro L i v f h;have Z:=Xl f L;rw[gZ] at Z;have:((kC L).map (AV.ren f))[i]? =(kC L)[i]? :=by rw[Z]
 rw[Y1,h] at this;simpa using this
variable{L:List (List UInt8×List UInt8)}
theorem U3{ks:List Nat}{M:Mem}{b:Nat}{o:Bool}{cs:List AV}(h:M[b]? =some (.cells o 2 cs))(H:cs.take (2*L.length)=kC L):agb ks M b (.cells false 2 (kC L)):=by
 refine⟨Uz _ _,o,cs,h,fun j v Z=>?_⟩;have X:j<2*L.length:=by have:=gL Z;rw[fU] at this;exact this
 have:cs[j]? =(kC L)[j]? :=by rw[<-H,V2 X]
 rw[this,Z,WG _ Z]
theorem Xr{P:Program}{f:FuncId}{M:Mem}{x:AV}{rest:List AV}{v:AV}(hr:AV.afA rest=true)(H:v.closed=true)(h:bz P f (.slice 0 0 L.length none::rest) [.cells false 2 (kC L)] v [.cells false 2 (kC L)])(hx:ZQ M x L):bz P f (x::rest) M v M:=by
 obtain⟨b,o,Q,rfl,V,U⟩:=hx;have S:=gL V;have R:AV.afB [b].length (.slice 0 0 L.length none::rest)=true:=by
  show(decide (0<1)&&AV.afB 1 rest)=true
  rw[bx hr];rfl
 have:=bz.frame (M:=M) (new:=[]) [b] (m:=[.cells false 2 (kC L)]) rfl (by simpa using S) R (fun i s Z=>by
  cases i with
  |zero=>simp at Z;subst Z;exact U3 V U
  |succ i=>simp at Z) rfl (by simpa using h)
 have X:v.ren (back [b] M.length)=v:=by have:=aS (vs:=[v]) (ρ:=back [b] M.length) (by simp[AV.afA,H]);simpa [AV.afR] using this
 simpa [AV.afR,AV.ren,back,aS hr,X] using this
theorem tH(M:Mem):bz prog 85 [.kO] M (.int .i64 0) M:=by
 have Z:bq prog 85=some f85:=by kernel_rfl
 refine dE (ar _) (lv:=fun _=>[10]) (K:=1) rfl rfl ?_ M;simp[ad,Z,f85,bw,ga]
def YV(Q:List (Rat×Rat)):Prop:=Z9 40 Q/\Q.length<=1000000000/\∀i a b,Q[i]? =some a->Q[i+1]? =some b->b.1-a.1≠0
def v0:V3:=(0,0,0)
section
variable {pv tv b u sv kn:AV}{c:Evc}{x:Int}{M:Mem}{us:List (List UInt8)}{ub:Nat}{o:Bool}
end
end Go.Proofs
namespace Go.Proofs
open Go.Eng
section
variable {c:Evc}{b u sv kn:AV}{M:Mem}{ub kb nu nk:Nat}{n:Int}
end
section
variable {O:afu}{m0:Nat}{ops:Array Oper}{env:Env}{mem:Mem}{d:Bool}{w x y z A B C D E F G H I J K1 K2 K3 K4 K5 K6 K7 K8 K9 S1 S4 S5 S6 S7 S8 S9 S10 S11 S12 S13:Int}{r1 r2 r3:V3}
end
section
variable {pv tv:AV}{M:Mem}
end
section
variable {pv tv kn:AV}{M:Mem}
end
def sgB(H:Bool):Rat:=if H then -1 else 1
structure ah6 (n:V3)(o:Rat)(v:V3)(bck:Bool)(p:V3):Prop where
 pk:vC p
 dk:NL n p
 fd:lD (xA n p)
 fo:lD o
 pl:Xn p v (sgB bck)
 rk:vC (ZN p (Z6 v (sgB bck)))
structure ah7 (n:V3)(L:List P2)(v:V3)(bck:Bool)(p:V3):Prop where
 pk:vC p
 dk:NL n p
 lk:YV L
 vk:big 40 (xA n p)
 fw:lD (Vh L (xA n p))
 fk:lD (sgB bck)
 pl:Xn p v (sgB bck*Vh L (xA n p))
 rk:vC (ZN p (Z6 v (sgB bck*Vh L (xA n p))))
section
variable {O:afu}{N:Mem}{n i b5 wb:Nat}{o:Bool}{X:List (V3×Rat)}{x:V3×Rat}{p:V3}{c:Nat}{dt:Rat}
end
end Go.Proofs
namespace Go.Proofs
open Go.Eng
open Tryz
variable{k:Nat}
theorem Lj{n:Int}(h:n.natAbs<10 ^ k)(h0:0<k):dg k k ((n:Int):Rat):=⟨h,by show(1:Nat)<10 ^ k;have:10 ^ 1<=10 ^ k:=L9 (by omega) h0;omega⟩
theorem Li{z:Int}(h:z.natAbs<10 ^ k)(h0:0<k):dg k k (hQ z):=AO (by decide) h (by have:10 ^ 1<=10 ^ k:=L9 (by omega) h0;omega)
variable{n:Nat}{v:Z3}
theorem W8(h:Pg n v)(H:n<10 ^ k)(h0:0<k):vDg k (zQ v):=⟨Lj (by have:=h.1;omega) h0,Lj (by have:=h.2.1;omega) h0,Lj (by have:=h.2.2;omega) h0⟩
theorem YO(h:Pg n v)(H:n<10 ^ k)(h0:0<k):vDg k (hV v):=⟨Li (by have:=h.1;omega) h0,Li (by have:=h.2.1;omega) h0,Li (by have:=h.2.2;omega) h0⟩
theorem ZO(h:W9 v=false):¬Vk (zQ v):=by
 rintro ⟨Z,X,h3⟩;have V:v.1=0:=by have:((v.1:Int):Rat)=0:=Z;exact_mod_cast this
 have U:v.2.1=0:=by have:((v.2.1:Int):Rat)=0:=X;exact_mod_cast this
 have S:v.2.2=0:=by have:((v.2.2:Int):Rat)=0:=h3;exact_mod_cast this
 simp[W9,V,U,S] at h
theorem XF(n v:Z3):(rM n v).1*n.1+(rM n v).2.1*n.2.1+(rM n v).2.2*n.2.2=0:=by
 unfold rM
 grind
variable{a b:Z3}
section
variable (h:a.1*b.1+a.2.1*b.2.1+a.2.2*b.2.2=0)
include h
theorem Xw:xA (zQ a) (zQ b)=0:=by
 unfold xA zQ;have:(((a.1*b.1+a.2.1*b.2.1+a.2.2*b.2.2:Int)):Rat)=0:=by rw[h];rfl
 simpa [Rat.intCast_add,Rat.intCast_mul] using this
theorem YP:xA (hV a) (zQ b)=0:=by
 have k:=Xw h;unfold xA zQ hV at*;simp only[mX] at*
 grind
end
theorem FL(s:afI):0<s.P.length/\s.P.length<=1000:=by
 have h:∀k<8,0<(ej k).length/\(ej k).length<=1000:=by decide
 have:=h (s.kind%8) (Nat.mod_lt _ (by decide));unfold afI.P
 rwa [QQm]
def ctM(x:afv):Nat:=(ct3 (x.n 7)).toNat
theorem T4{x:afv}:ct3 (x.n 7)=(ctM x:Int):=by have:=OE (x.n 7);unfold ctM;omega
theorem rN(x:afv):ctM x=1\/ctM x=2\/ctM x=3:=by have:=OE (x.n 7);unfold ctM;omega
def cSk(x:afv)(n:Nat):Evc:=match x.kind%5 with
 |0=>EB x n (ctN x)
 |1=>vd [110] (zQ (fL x)) (hQ (iC (x.n 6))) (hV (DO x))
 |2=>mR [110] (zQ (fL x)) (x.af0 (ctM x)) (zQ (DO x))
 |3=>CF [110] (zQ (fL x)) (hQ (iC (x.n 6))) (hQ (ps9 (x.n 7))) [110,95,114,111,99,107]
 |_=>CG [110] (oO x) (zQ (fL x))
variable{c:Nat}
theorem LA{x:afv}(hc:c<=3){q:Rat×Rat}(h:q∈x.af0 c):big 2 q.1/\big 2 q.2:=by unfold afv.af0 at h;obtain⟨i,Z,rfl⟩:=QQd.1 h;have Z:=List.mem_range.1 Z;have X:=x.ahO i;have V:=dO (x.n ((i+7)%8));exact⟨Lj (k:=2) (by omega) (by decide),Li (k:=2) (by show(iC _).natAbs<_;omega) (by decide)⟩
variable{i:Nat}
theorem OV{x:afv}{a:Rat×Rat}(h:(x.af0 c)[i]? =some a):a=x.ah9 i:=by
 unfold afv.af0 at h;rw[Y1] at h;by_cases Z:i<c
 .rw[List.getElem?_range Z] at h
  exact(QQc h).symm
 .rw[List.getElem?_eq_none (by simp;omega)] at h
  cases h
theorem WH{x:afv}{a b:Rat×Rat}(H:(x.af0 c)[i]? =some a)(I:(x.af0 c)[i+1]? =some b):a.1<b.1:=by
 rw[OV H,OV I];have:=x.ah3 i;show((x.at i:Int):Rat)<((x.at (i+1):Int):Rat)
 exact_mod_cast this
def Xc(m:Nat)(x:afv)(n:Nat):List AV:=(cSk x n).cells (if x.kind%5=0 then .slice m 0 n none else .kO) (if x.kind%5=0 then .slice (m+1) 0 (ctN x) none else .kO) (if x.kind%5=0 then dqS m n (ctN x) else .kO) (if x.kind%5=2 then .slice m 0 (ctM x) none else .kO)
def Vt(m:Nat)(x:afv)(n:Nat):Mem:=if x.kind%5=0 then dqN m x n (ctN x) else if x.kind%5=2 then [.cells true 2 (kC (kT (x.af0 (ctM x))))] else []
theorem w8(k:Nat):k%5=0\/k%5=1\/k%5=2\/k%5=3\/k%5=4:=by omega
section
variable{x:afv}
include x
theorem ZR(h:x.kind%5=0):cSk x n=EB x n (ctN x):=by unfold cSk;rw[h];rfl
theorem ZS(h:x.kind%5=1):cSk x n=vd [110] (zQ (fL x)) (hQ (iC (x.n 6))) (hV (DO x)):=by unfold cSk;rw[h];rfl
theorem ZT(h:x.kind%5=2):cSk x n=mR [110] (zQ (fL x)) (x.af0 (ctM x)) (zQ (DO x)):=by unfold cSk;rw[h];rfl
theorem ZU(h:x.kind%5=3):cSk x n=CF [110] (zQ (fL x)) (hQ (iC (x.n 6))) (hQ (ps9 (x.n 7))) [110,95,114,111,99,107]:=by unfold cSk;rw[h];rfl
theorem ZV(h:x.kind%5=4):cSk x n=CG [110] (oO x) (zQ (fL x)):=by unfold cSk;rw[h];rfl
end
theorem Is(x:afv)(hx:x.Ok)(n k:Nat)(H:0<n)(I:n<=1000):bz prog 9 [.agg [.slice 0 0 n none,.slice 1 0 k none],.agg x.cells,.str [110]] [.y9,.y9] (.agg (Xc 2 x n)) ([.y9,.y9]++Vt 2 x n):=by
 unfold Xc Vt;rcases w8 x.kind with h | h | h | h | h
 .rw[ZR h,h];exact F9 x hx n k H I h
 .rw[ZS h,h];exact Ga x hx n k h
 .rw[ZT h,h]
  rcases rN x with h3 | h3 | h3
  .rw[h3];exact DY x hx n k h (by rw[T4,h3];rfl)
  .rw[h3];exact DZ x hx n k h (by rw[T4,h3];rfl)
  .rw[h3];exact D8 x hx n k h (by rw[T4,h3];rfl)
 .rw[ZU h,h];exact Gb x hx n k h
 .rw[ZV h,h];exact Gc x hx n k h
theorem It(x:afv)(hx:x.Ok)(n k:Nat)(H:0<n)(I:n<=1000)(M:Mem)(p t:Nat)(J:p<M.length)(W:t<M.length):
  bz prog 9 [.agg [.slice p 0 n none,.slice t 0 k none],.agg x.cells,.str [110]] M (.agg (Xc M.length x n)) (M++Vt M.length x n):=by
 have Z:=fun f=>aS (ρ:=f) x.closed
 have h3:=fC x;have U:=Is x hx n k H I;have:=bz.frame (M:=M) (new:=Vt 2 x n) [p,t] (m:=[.y9,.y9]) rfl (by
  intro k V;simp only[lM] at V;rcases V with rfl | rfl
  .exact J
  .exact W) (by simp[AV.afB,AV.under,bx x.closed]) (fun i s X=>by
  match i with
  |0=>simp at X;subst X;trivial
  |1=>simp at X;subst X;trivial
  |i+2=>simp at X) (by
   unfold Vt;rcases w8 x.kind with h | h | h | h | h<;>rw[h]<;>try rfl
   rcases h3 with h3 | h3 | h3<;>rw[h3]<;>rfl) U
 unfold Xc Vt at this |-;obtain⟨C,S⟩:=xE (cSk x n);rw[<-S] at this |-;have R:∀f,AV.afR f (kC (kT (x.af0 (ctM x))))=kC (kT (x.af0 (ctM x))):=fun f=>aS (wZ _)
 rcases w8 x.kind with h | h | h | h | h
 .obtain⟨c,Q⟩:=xE (ctN x)
  rw[<-Q] at this h3 |-;rcases h3 with rfl | rfl | rfl<;>simpa [h,AV.afR,AV.ren,back,afz.ren,dqS,dqN,kN,uNm,nmE,stC,Z,Evc.cells] using this
 .simpa [h,AV.afR,AV.ren,back,afz.ren,Z,Evc.cells] using this
 .simpa [h,AV.afR,AV.ren,back,afz.ren,Z,Evc.cells,R] using this
 .simpa [h,AV.afR,AV.ren,back,afz.ren,Z,Evc.cells] using this
 .simpa [h,AV.afR,AV.ren,back,afz.ren,Z,Evc.cells] using this
theorem mQ(M N:Mem)(k:Nat):(M++N)[M.length+k]? =N[k]? :=by rw[Ns (by omega)];congr 1;omega
theorem TQ(M N:Mem):(M++N)[M.length]? =N[0]? :=mQ M N 0
variable{C:List AV}{N:Mem}{es:Nat}
theorem nj{b:Nat}{o:Bool}(h0:0<n)(h:N[b]? =some (.cells o es C)):afO N (.slice b 0 n none) es n C:=.inr ⟨b,o,rfl,h0,h⟩
theorem jW:afO N .kO es 0 []:=.inl ⟨rfl,rfl,rfl⟩
theorem Mb:ahz N .kO []:=⟨[],rfl,jW,fun i x L h=>by simp at h⟩
theorem Vf(h:c=1\/c=2\/c=3):(uNm c).length=c:=by rcases h with rfl | rfl | rfl<;>rfl
theorem XK(x:afv)(n:Nat)(H:0<n)(M:Mem):agO (M++Vt M.length x n) (Xc M.length x n) (cSk x n):=by
 unfold Xc Vt;have h3:=fC x;rcases w8 x.kind with h | h | h | h | h
 .rw[ZR h,h]
  refine⟨_,_,_,_,rfl,?_,?_,?_,jW⟩
  .simp only[if_true]
   have V:(EB x n (ctN x)).B.length=n:=by show(hS _).length=n;rw[zq,Hts.afY]
   rw[V];refine nj (o:=true) H ?_;rw[TQ];show _=some (afz.cells true 1 (stC (hS _)))
   rw[Zq];rcases h3 with h3 | h3 | h3<;>rw[h3]<;>rfl
  .simp only[if_true]
   have V:(EB x n (ctN x)).U.length=ctN x:=Vf h3;rw[V];refine nj (o:=true) (by omega) ?_;rw[mQ];show _=some (afz.cells true 1 (stC (uNm (ctN x))))
   rcases h3 with h3 | h3 | h3<;>rw[h3]<;>rfl
  .simp only[if_true]
   show ahz _ _ ((zH x n (ctN x)).map hS)
   rcases h3 with h3 | h3 | h3<;>rw[h3]
   .exact Mb
   .refine⟨[.slice (M.length+3) 0 n none],rfl,nj (o:=true) (by show 0<1;omega) (by rw[mQ];rfl),fun i x L Z X=>?_⟩
    match i,Z,X with
    |0,Z,X=>
     cases Z;cases X;rw[zq,eG];refine nj (o:=true) H ?_;rw[mQ,Zq];rfl
    |i+1,Z,_=>simp at Z
   .refine⟨[.slice (M.length+3) 0 n none,.slice (M.length+4) 0 n none],rfl,nj (o:=true) (by show 0<2;omega) (by rw[mQ];rfl),fun i x L Z X=>?_⟩
    match i,Z,X with
    |0,Z,X=>
     cases Z;cases X;rw[zq,eG];refine nj (o:=true) H ?_;rw[mQ,Zq];rfl
    |1,Z,X=>
     cases Z;cases X;rw[zq,eG];refine nj (o:=true) H ?_;rw[mQ,Zq];rfl
    |i+2,Z,_=>simp at Z
 .rw[ZS h,h];exact⟨_,_,_,_,rfl,jW,jW,Mb,jW⟩
 .rw[ZT h,h]
  refine⟨_,_,_,_,rfl,jW,jW,Mb,?_⟩;have V:(mR [110] (zQ (fL x)) (x.af0 (ctM x)) (zQ (DO x))).K.length=ctM x:=by show(kT _).length=_;rw[UA,afv.agf]
  rw[V];have:=rN x;exact nj (o:=true) (by omega) (by rw[TQ];rfl)
 .rw[ZU h,h];exact⟨_,_,_,_,rfl,jW,jW,Mb,jW⟩
 .rw[ZV h,h];exact⟨_,_,_,_,rfl,jW,jW,Mb,jW⟩
theorem YG{M:Mem}{p:Nat}{s:afz}(h:M[p]? =some s):p<M.length:=gL h
theorem afO.refs{v:AV}(h:afO N v es n C)(x:Nat):v.aft (fun b=>decide (b<N.length+x))=true:=by
 rcases h with⟨rfl,_⟩ | ⟨b,o,rfl,_,h⟩
 .rfl
 .have:=YG h
  simp only[AV.aft,Cs];omega
theorem agO.refs{e:List AV}{c:Evc}(h:agO N e c)(x:Nat):AV.afD (fun b=>decide (b<N.length+x)) e=true:=by obtain⟨b,u,O,kn,rfl,Z,X,⟨_,_,h3,_⟩,V⟩:=h;have U:=Z.refs x;have S:=X.refs x;have R:=h3.refs x;have Q:=V.refs x;simp only[Evc.cells,AV.afD,U,S,R,Q,AV.aft,Bool.and_self]
def RX(s:afI)(p t:Nat):AV:=.agg [.slice p 0 s.P.length none,.slice t 0 s.T.length none]
section
variable {x:afv}{s:afI}{M:Mem}{p t:Nat}{o o' :Bool}{ev:List AV}
end
end Go.Proofs
namespace Go.Proofs
open Go.Eng
open Tryz
theorem Ic(a b c:List UInt8)(M:Mem):bz prog 52 [.agg [.str a,.str b,.str c]] M (.bool (a==[48]&&b==[48]&&c==[48])) M:=by
 have Z:bq prog 52=some f52:=by kernel_rfl
 refine az (ar _) ?_ M;cases h1:a==[48]<;>cases h2:b==[48]<;>cases h3:c==[48]<;>simp[ad,Z,f52,h1,h2,h3]
end Go.Proofs
