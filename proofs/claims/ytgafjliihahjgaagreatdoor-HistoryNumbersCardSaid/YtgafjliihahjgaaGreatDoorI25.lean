/- See I36. -/
import Derived.Test.YtgafjliihahjgaaGreatDoorI24
set_option linter.all false
set_option maxRecDepth 100000
set_option maxHeartbeats 40000000
namespace Go.Proofs
open Go.Eng
open Tryz
theorem ahz:aS prog 28=some f28:=by kernel_rfl
theorem ahA:be [0,0,2,6,14,30,63,0,255] 8=true:=by decide
theorem ahB:be [0,1,3,7,15,0,32,96,255,0,1023] 10=true:=by decide
theorem aiT:be [0,0,0,4,12,28,60,0,128,384,896,1920,0,4096,12288,28672,61440,131068,262142,524287,1048575,2097151] 21=true:=by decide
theorem aiI:be [0,0,2,6,14,30,62,126,0,510,1022,2047,4095,8191] 13=true:=by decide
theorem aiJ:be [0,0,0,0,0,0,63,0,128,384,896,2047,4095,0,8192,24576,57344,122880,0,262144,786432,1835008,3932160,0,8388608,25165824,58720256,125829120,268427264,536870911,1073741823,2147483647] 31=true:=by decide
section
variable (d:agf)(hd:d.Ok)(n k i:Nat)(hi:i<6)(hn:0<n)(hl:n<=1000)
include d hd n k i hi hn hl
theorem BG(hk:d.kind%5=3):
  kO prog 28 [.agg [.slice 0 0 n none,.slice 1 0 k none],.agg d.cells,.int .i64 i] [.HS,.HS] (.agg (dY (bR i) (bQ d.A) (d.N.tmod 5) (1+(d.K.1%4:Nat)) (ju i))) ([.HS,.HS]++[]):=by
 obtain⟨os,D⟩:∃os,aN f28=os:=⟨_,rfl⟩
 have PP:=bP D (ls:=[[0,0,2,6,14,30,63,0,255],[0,1,3,7,15,0,32,96,255,0,1023],[0,0,0,4,12,28,60,0,128,384,896,1920,0,4096,12288,28672,61440,131068,262142,524287,1048575,2097151],[0,0,0,4,12,28,60,0,128,384,896,1920,0,4096,12288,28672,61440,131068,262142,524287,1048575,2097151],[0,1,3,0,8,24,56,0,128,504,1016,0,0,6144,14336,30720,63488,129024,0,262144,786432,1835008,3932160,8126464,16777208,33554424,67108856,134217727,268435455,536870911,1073741823],[0,0,2,6,14,30,62,126,0,510,1022,2047,4095,8191],[0,0,0,0,0,0,63,0,128,384,896,2047,4095,0,8192,24576,57344,122880,0,262144,786432,1835008,3932160,0,8388608,25165824,58720256,125829120,268427264,536870911,1073741823,2147483647]]) (by kernel_rfl);simp only[aN,cj,f28,lA] at D;subst D;simp only[lB] at PP;obtain⟨u,m,hb2,hb3,hb4,j,hb6⟩:=PP;have hN:=hd.N;have hB:=xC hd.B;have hA:=xC hd.A;have n1:=cL d.A;have F:=iq d.B;have Y:=pq d.N 5 (by decide);have R:=Yn d;have Q:=Yj d;have I:=Yk d;have H:=Yl d;have y:=Ym d;have h7:=WS d;have h1:=Yo d;have l0:=zH d;have r0:=iX d;have o0:=Mn d;have okd:=jA d hd;clear hd;obtain⟨S,⟨O,M,J⟩,⟨Z,X,W⟩,N,⟨V,K2,K3,K4⟩⟩:=d;simp only at hk hN hB hA n1 F Y R Q I H y h7 h1 |-;simp only[Int.cast_ofNat_Int] at Y;unfold Nx at hN;obtain⟨hB1,hB2,hB3⟩:=hB;simp only at hB1 hB2 hB3;have wN:IntKind.i64.wrap N=N:=cd (by omega) (by omega);have wB1:IntKind.i64.wrap Z=Z:=cd (by omega) (by omega);have wB2:IntKind.i64.wrap X=X:=cd (by omega) (by omega);have wB3:IntKind.i64.wrap W=W:=cd (by omega) (by omega);have hkt:((S:Nat):Int).tmod 5=3:=by have:((S:Nat):Int).tmod 5=((S%5:Nat):Int):=rfl;rw[this,hk];rfl
 obtain⟨⟨nx,ny,nz⟩,e1⟩:∃v,v=bQ (O,M,J):=⟨_,rfl⟩
 rw[<-e1] at n1;have e2:uO (Z,X,W)=(Z.tmod 3,X.tmod 3,W.tmod 3):=rfl;rw[e2] at F;obtain⟨o,ho⟩:=xE (N.tmod 5);rw[<-ho] at Y;have go:o.natAbs<100000000:=by omega
 have gi:i<100000000:=by omega
 obtain⟨bx,hbx⟩:=xE (Z.tmod 3);obtain⟨G,hby⟩:=xE (X.tmod 3);obtain⟨bz,hbz⟩:=xE (W.tmod 3);rw[<-hbx,<-hby,<-hbz] at F e2;obtain⟨g1,g2,g3⟩:=F;simp only at g1 g2 g3;have g1' :bx.natAbs<=10000:=by omega
 have g2' :G.natAbs<=10000:=by omega
 have g3' :bz.natAbs<=10000:=by omega
 have m2:fR 2 (bx,G,bz):=⟨g1,g2,g3⟩;obtain⟨C,hC⟩:=xE (agf.cells ⟨S,(O,M,J),(Z,X,W),N,(V,K2,K3,K4)⟩);rw[<-hC] at R Q I H y h7 h1 l0 r0 o0;have hC' :agf.cells ⟨S,(O,M,J),(Z,X,W),N,(V,K2,K3,K4)⟩=C:=hC.symm;have tk:C.take 12=C:=GE (by omega);have j8:∀h,C[8]'h=_:=gE R
 have j0:∀h,C[0]'h=_:=gE Q
 have j4:∀h,C[4]'h=_:=gE I
 have j5:∀h,C[5]'h=_:=gE H
 have j6:∀h,C[6]'h=_:=gE y
 have j7:∀h,C[7]'h=_:=gE h7
 have hp:=jf;have u12:IntKind.i64.wrap (1+1)=2:=rfl;have u13:IntKind.i64.wrap (1+2)=3:=rfl;have u14:IntKind.i64.wrap (1+3)=4:=rfl;have u15:IntKind.i64.wrap (1+4)=5:=rfl;have hip:=gG (n:=(i:Int)) (by omega);have ace :(zS (i:Int)).length+1<=9223372036854775807:=by unfold zS;omega
 have aa2:1+(zS (i:Int)).length<=9223372036854775807:=by omega
 have h:aa (aU prog) (fun _=>[]) (aS prog) (eI ⟨S,(O,M,J),(Z,X,W),N,(V,K2,K3,K4)⟩) 1 28 [.agg [.slice 0 0 n none,.slice 1 0 k none],.agg C,.int .i64 i] [.HS,.HS]=some ⟨(.agg (dY (bR i) (bQ (O,M,J)) (N.tmod 5) (1+(V%4:Nat)) (ju i))),none,[]⟩:=by
  rw[<-e1,<-ho];have t4:((V:Nat):Int).tmod 4=((V%4:Nat):Int):=rfl;have x4:V%4<4:=Nat.mod_lt _ (by decide);obtain⟨x,hx⟩:=xE (V%4);rw[<-hx] at t4 x4 |-;have y0:IntKind.i64.wrap (x:Int)=(x:Int):=cd (by omega) (by omega);have y1:IntKind.i64.wrap (1+(x:Int))=1+(x:Int):=cd (by omega) (by omega);have y2:(1+(x:Int)).natAbs<100000000:=by omega
  have eQ:∀z:Int,mkRat z 2=hQ z:=fun _=>rfl
  simp[aa,ahz,f28,eI,af,dF,zA,l0,j8,j0,j7,h1,hA,<-e1,hkt,wN,<-ho,go,gi,w3,w4,aa2,ix,bZ,aF,-aJ,cV u,cV m,cV j,kX,qM,D2,nV,dm,qS,bef,ahA,ahB,aiI,Nat.testBit,t4,y0,y1,y2,eQ,dY,bR,ju]
 have:=(ah ae (al _) okd (ao _) h).1;rw[<-hC];simpa [afA.mem] using this
theorem BI(hk:d.kind%5=4):
  kO prog 28 [.agg [.slice 0 0 n none,.slice 1 0 k none],.agg d.cells,.int .i64 i] [.HS,.HS] (.agg (eG (bR i) (cK (d.K.1%6)) (uO d.B))) ([.HS,.HS]++[]):=by
 obtain⟨os,m⟩:∃os,aN f28=os:=⟨_,rfl⟩
 have PP:=bP m (ls:=[[0,0,2,6,14,30,63,0,255],[0,1,3,7,15,0,32,96,255,0,1023],[0,0,0,4,12,28,60,0,128,384,896,1920,0,4096,12288,28672,61440,131068,262142,524287,1048575,2097151],[0,0,0,4,12,28,60,0,128,384,896,1920,0,4096,12288,28672,61440,131068,262142,524287,1048575,2097151],[0,1,3,0,8,24,56,0,128,504,1016,0,0,6144,14336,30720,63488,129024,0,262144,786432,1835008,3932160,8126464,16777208,33554424,67108856,134217727,268435455,536870911,1073741823],[0,0,2,6,14,30,62,126,0,510,1022,2047,4095,8191],[0,0,0,0,0,0,63,0,128,384,896,2047,4095,0,8192,24576,57344,122880,0,262144,786432,1835008,3932160,0,8388608,25165824,58720256,125829120,268427264,536870911,1073741823,2147483647]]) (by kernel_rfl);simp only[aN,cj,f28,lA] at m;subst m;simp only[lB] at PP;obtain⟨j,Y,hb2,hb3,hb4,hb5,R⟩:=PP;have hN:=hd.N;have hB:=xC hd.B;have hA:=xC hd.A;have n1:=cL d.A;have F:=iq d.B;have Q:=pq d.N 5 (by decide);have I:=Yn d;have H:=Yj d;have y:=Yk d;have h5:=Yl d;have h6:=Ym d;have h7:=WS d;have h1:=Yo d;have l0:=zH d;have r0:=iX d;have o0:=Mn d;have okd:=jA d hd;clear hd;obtain⟨S,⟨D,z,u⟩,⟨Z,X,W⟩,N,⟨V,K2,K3,K4⟩⟩:=d;simp only at hk hN hB hA n1 F Q I H y h5 h6 h7 h1 |-;simp only[Int.cast_ofNat_Int] at Q;unfold Nx at hN;obtain⟨hB1,hB2,hB3⟩:=hB;simp only at hB1 hB2 hB3;have wN:IntKind.i64.wrap N=N:=cd (by omega) (by omega);have wB1:IntKind.i64.wrap Z=Z:=cd (by omega) (by omega);have wB2:IntKind.i64.wrap X=X:=cd (by omega) (by omega);have wB3:IntKind.i64.wrap W=W:=cd (by omega) (by omega);have hkt:((S:Nat):Int).tmod 5=4:=by have:((S:Nat):Int).tmod 5=((S%5:Nat):Int):=rfl;rw[this,hk];rfl
 obtain⟨⟨nx,ny,nz⟩,e1⟩:∃v,v=bQ (D,z,u):=⟨_,rfl⟩
 rw[<-e1] at n1;have e2:uO (Z,X,W)=(Z.tmod 3,X.tmod 3,W.tmod 3):=rfl;rw[e2] at F;obtain⟨o,ho⟩:=xE (N.tmod 5);rw[<-ho] at Q;have go:o.natAbs<100000000:=by omega
 have gi:i<100000000:=by omega
 obtain⟨bx,O⟩:=xE (Z.tmod 3);obtain⟨M,J⟩:=xE (X.tmod 3);obtain⟨bz,G⟩:=xE (W.tmod 3);rw[<-O,<-J,<-G] at F e2;obtain⟨g1,g2,g3⟩:=F;simp only at g1 g2 g3;have g1' :bx.natAbs<=10000:=by omega
 have g2' :M.natAbs<=10000:=by omega
 have g3' :bz.natAbs<=10000:=by omega
 have m2:fR 2 (bx,M,bz):=⟨g1,g2,g3⟩;obtain⟨C,hC⟩:=xE (agf.cells ⟨S,(D,z,u),(Z,X,W),N,(V,K2,K3,K4)⟩);rw[<-hC] at I H y h5 h6 h7 h1 l0 r0 o0;have hC' :agf.cells ⟨S,(D,z,u),(Z,X,W),N,(V,K2,K3,K4)⟩=C:=hC.symm;have tk:C.take 12=C:=GE (by omega);have j8:∀h,C[8]'h=_:=gE I
 have j0:∀h,C[0]'h=_:=gE H
 have j4:∀h,C[4]'h=_:=gE y
 have j5:∀h,C[5]'h=_:=gE h5
 have j6:∀h,C[6]'h=_:=gE h6
 have j7:∀h,C[7]'h=_:=gE h7
 have hp:=jf;have u12:IntKind.i64.wrap (1+1)=2:=rfl;have u13:IntKind.i64.wrap (1+2)=3:=rfl;have u14:IntKind.i64.wrap (1+3)=4:=rfl;have u15:IntKind.i64.wrap (1+4)=5:=rfl;have hip:=gG (n:=(i:Int)) (by omega);have ace :(zS (i:Int)).length+1<=9223372036854775807:=by unfold zS;omega
 have aa2:1+(zS (i:Int)).length<=9223372036854775807:=by omega
 have h:aa (aU prog) (fun _=>[]) (aS prog) (eI ⟨S,(D,z,u),(Z,X,W),N,(V,K2,K3,K4)⟩) 1 28 [.agg [.slice 0 0 n none,.slice 1 0 k none],.agg C,.int .i64 i] [.HS,.HS]=some ⟨(.agg (eG (bR i) (cK (V%6)) (uO (Z,X,W)))),none,[]⟩:=by
  rw[e2];have t6:((V:Nat):Int).tmod 6=((V%6:Nat):Int):=rfl;have x6:V%6<6:=Nat.mod_lt _ (by decide);obtain⟨x,hx⟩:=xE (V%6);rw[<-hx] at t6 x6 |-;have y1:(List.drop (x*4) ([.int .i64 1,.int .i64 0,.int .i64 0,.int .i64 1,.int .i64 2,.int .i64 1,.int .i64 0,.int .i64 0,.int .i64 1,.int .i64 1,.int .i64 1,.int .i64 1,.int .i64 3,.int .i64 0,.int .i64 1,.int .i64 0,.int .i64 0,.int .i64 1,.int .i64 0,.int .i64 0,.int .i64 1,.int .i64 0,.int .i64 0,.int .i64 0]:List AV)).take 4=[.int .i64 (cK x).1,.int .i64 (cK x).2.1,.int .i64 (cK x).2.2.1,.int .i64 (cK x).2.2.2]:=by
   have:x=0\/x=1\/x=2\/x=3\/x=4\/x=5:=by omega
   rcases this with rfl | rfl | rfl | rfl | rfl | rfl<;>rfl
  have y2:x*4+4<=24:=by omega
  have y3:(x:Int)<6:=by omega
  have y4:x*4<=20:=by omega
  obtain⟨⟨ta,tb,tc,td⟩,hT⟩:∃t,t=cK x:=⟨_,rfl⟩
  rw[<-hT] at y1 |-;simp only at y1;simp[aa,ahz,f28,eI,af,dF,zA,l0,j8,j0,j4,j5,j6,j7,h1,hA,<-e1,hkt,wN,wB1,wB2,wB3,<-ho,<-O,<-J,<-G,go,gi,g1',g2',g3',w4,w5,aa2,ix,bZ,aF,-aJ,cV j,cV Y,cV R,kX,qM,D2,nV,dm,qS,bef,ahA,ahB,aiJ,Nat.testBit,t6,y1,y2,y3,eG,bR]
 have:=(ah ae (al _) okd (ao _) h).1;rw[<-hC];simpa [afA.mem] using this
theorem BD(hk:d.kind%5=0)(hJ:d.K.1%3=0):
  kO prog 28 [.agg [.slice 0 0 n none,.slice 1 0 k none],.agg d.cells,.int .i64 i] [.HS,.HS] (.agg (aZ (bR i) (.slice 2 0 n none) (.slice 3 0 1 none) .y9)) ([.HS,.HS]++(jS 2 d n i 0)):=by
 obtain⟨os,m⟩:∃os,aN f28=os:=⟨_,rfl⟩
 have PP:=bP m (ls:=[[0,0,2,6,14,30,63,0,255],[0,1,3,7,15,0,32,96,255,0,1023],[0,0,0,4,12,28,60,0,128,384,896,1920,0,4096,12288,28672,61440,131068,262142,524287,1048575,2097151],[0,0,0,4,12,28,60,0,128,384,896,1920,0,4096,12288,28672,61440,131068,262142,524287,1048575,2097151],[0,1,3,0,8,24,56,0,128,504,1016,0,0,6144,14336,30720,63488,129024,0,262144,786432,1835008,3932160,8126464,16777208,33554424,67108856,134217727,268435455,536870911,1073741823],[0,0,2,6,14,30,62,126,0,510,1022,2047,4095,8191],[0,0,0,0,0,0,63,0,128,384,896,2047,4095,0,8192,24576,57344,122880,0,262144,786432,1835008,3932160,0,8388608,25165824,58720256,125829120,268427264,536870911,1073741823,2147483647]]) (by kernel_rfl);simp only[aN,cj,f28,lA] at m;subst m;simp only[lB] at PP;obtain⟨j,Y,hb2,hb3,hb4,hb5,hb6⟩:=PP;have hN:=hd.N;have hB:=xC hd.B;have hA:=xC hd.A;have n1:=cL d.A;have F:=iq d.B;have R:=pq d.N 5 (by decide);have Q:=Yn d;have I:=Yj d;have H:=Yk d;have y:=Yl d;have h6:=Ym d;have h7:=WS d;have h1:=Yo d;have l0:=zH d;have r0:=iX d;have o0:=Mn d;have okd:=jA d hd;clear hd;obtain⟨V,⟨S,O,M⟩,⟨Z,X,W⟩,N,⟨J,D,z,u⟩⟩:=d;simp only at hk hN hB hA n1 F R Q I H y h6 h7 h1 |-;simp only[Int.cast_ofNat_Int] at R;unfold Nx at hN;obtain⟨hB1,hB2,hB3⟩:=hB;simp only at hB1 hB2 hB3;have wN:IntKind.i64.wrap N=N:=cd (by omega) (by omega);have wB1:IntKind.i64.wrap Z=Z:=cd (by omega) (by omega);have wB2:IntKind.i64.wrap X=X:=cd (by omega) (by omega);have wB3:IntKind.i64.wrap W=W:=cd (by omega) (by omega);have hkt:((V:Nat):Int).tmod 5=0:=by have:((V:Nat):Int).tmod 5=((V%5:Nat):Int):=rfl;rw[this,hk];rfl
 obtain⟨⟨nx,ny,nz⟩,e1⟩:∃v,v=bQ (S,O,M):=⟨_,rfl⟩
 rw[<-e1] at n1;have e2:uO (Z,X,W)=(Z.tmod 3,X.tmod 3,W.tmod 3):=rfl;rw[e2] at F;obtain⟨o,ho⟩:=xE (N.tmod 5);rw[<-ho] at R;have go:o.natAbs<100000000:=by omega
 have gi:i<100000000:=by omega
 obtain⟨bx,hbx⟩:=xE (Z.tmod 3);obtain⟨G,hby⟩:=xE (X.tmod 3);obtain⟨bz,hbz⟩:=xE (W.tmod 3);rw[<-hbx,<-hby,<-hbz] at F e2;obtain⟨g1,g2,g3⟩:=F;simp only at g1 g2 g3;have g1' :bx.natAbs<=10000:=by omega
 have g2' :G.natAbs<=10000:=by omega
 have g3' :bz.natAbs<=10000:=by omega
 have m2:fR 2 (bx,G,bz):=⟨g1,g2,g3⟩;obtain⟨C,hC⟩:=xE (agf.cells ⟨V,(S,O,M),(Z,X,W),N,(J,D,z,u)⟩);rw[<-hC] at Q I H y h6 h7 h1 l0 r0 o0;have hC' :agf.cells ⟨V,(S,O,M),(Z,X,W),N,(J,D,z,u)⟩=C:=hC.symm;have tk:C.take 12=C:=GE (by omega);have j8:∀h,C[8]'h=_:=gE Q
 have j0:∀h,C[0]'h=_:=gE I
 have j4:∀h,C[4]'h=_:=gE H
 have j5:∀h,C[5]'h=_:=gE y
 have j6:∀h,C[6]'h=_:=gE h6
 have j7:∀h,C[7]'h=_:=gE h7
 have hp:=jf;have u12:IntKind.i64.wrap (1+1)=2:=rfl;have u13:IntKind.i64.wrap (1+2)=3:=rfl;have u14:IntKind.i64.wrap (1+3)=4:=rfl;have u15:IntKind.i64.wrap (1+4)=5:=rfl;have hip:=gG (n:=(i:Int)) (by omega);have ace :(zS (i:Int)).length+1<=9223372036854775807:=by unfold zS;omega
 have aa2:1+(zS (i:Int)).length<=9223372036854775807:=by omega
 have hi3:(i:Int)<6:=by omega
 have J3:J%3=0:=hJ;have h:aa (aU prog) (fun _=>[]) (aS prog) (eI ⟨V,(S,O,M),(Z,X,W),N,(J,D,z,u)⟩) 1 28 [.agg [.slice 0 0 n none,.slice 1 0 k none],.agg C,.int .i64 i] [.HS,.HS]=some ⟨(.agg (aZ (bR i) (.slice 2 0 n none) (.slice 3 0 1 none) .y9)),none,(jS 2 ⟨V,(S,O,M),(Z,X,W),N,(J,D,z,u)⟩ n i 0)⟩:=by simp[aa,ahz,f28,eI,af,dF,zA,l0,j0,j7,h1,hA,<-e1,hC',tk,hkt,wN,<-ho,go,gi,w0,w1,aa2,ix,bZ,aF,-aJ,cV j,cV Y, kX,qM,D2,nV,dm,qS,bef,ahA,ahB, Nat.testBit,J3,aZ,bR,Sl,jS,kR,ir,fO,bE,hn,hl,hi3,List.idxOf?_cons]
 have:=(ah ae (al _) okd (ao _) h).1;rw[<-hC];simpa [afA.mem] using this
theorem BE(hk:d.kind%5=0)(hJ:d.K.1%3=1):
  kO prog 28 [.agg [.slice 0 0 n none,.slice 1 0 k none],.agg d.cells,.int .i64 i] [.HS,.HS] (.agg (aZ (bR i) (.slice 2 0 n none) (.slice 3 0 2 none) (.slice 4 0 1 none))) ([.HS,.HS]++(jS 2 d n i 1)):=by
 obtain⟨os,m⟩:∃os,aN f28=os:=⟨_,rfl⟩
 have PP:=bP m (ls:=[[0,0,2,6,14,30,63,0,255],[0,1,3,7,15,0,32,96,255,0,1023],[0,0,0,4,12,28,60,0,128,384,896,1920,0,4096,12288,28672,61440,131068,262142,524287,1048575,2097151],[0,0,0,4,12,28,60,0,128,384,896,1920,0,4096,12288,28672,61440,131068,262142,524287,1048575,2097151],[0,1,3,0,8,24,56,0,128,504,1016,0,0,6144,14336,30720,63488,129024,0,262144,786432,1835008,3932160,8126464,16777208,33554424,67108856,134217727,268435455,536870911,1073741823],[0,0,2,6,14,30,62,126,0,510,1022,2047,4095,8191],[0,0,0,0,0,0,63,0,128,384,896,2047,4095,0,8192,24576,57344,122880,0,262144,786432,1835008,3932160,0,8388608,25165824,58720256,125829120,268427264,536870911,1073741823,2147483647]]) (by kernel_rfl);simp only[aN,cj,f28,lA] at m;subst m;simp only[lB] at PP;obtain⟨j,Y,hb2,hb3,hb4,hb5,hb6⟩:=PP;have hN:=hd.N;have hB:=xC hd.B;have hA:=xC hd.A;have n1:=cL d.A;have F:=iq d.B;have R:=pq d.N 5 (by decide);have Q:=Yn d;have I:=Yj d;have H:=Yk d;have y:=Yl d;have h6:=Ym d;have h7:=WS d;have h1:=Yo d;have l0:=zH d;have r0:=iX d;have o0:=Mn d;have okd:=jA d hd;clear hd;obtain⟨V,⟨S,O,M⟩,⟨Z,X,W⟩,N,⟨J,D,z,u⟩⟩:=d;simp only at hk hN hB hA n1 F R Q I H y h6 h7 h1 |-;simp only[Int.cast_ofNat_Int] at R;unfold Nx at hN;obtain⟨hB1,hB2,hB3⟩:=hB;simp only at hB1 hB2 hB3;have wN:IntKind.i64.wrap N=N:=cd (by omega) (by omega);have wB1:IntKind.i64.wrap Z=Z:=cd (by omega) (by omega);have wB2:IntKind.i64.wrap X=X:=cd (by omega) (by omega);have wB3:IntKind.i64.wrap W=W:=cd (by omega) (by omega);have hkt:((V:Nat):Int).tmod 5=0:=by have:((V:Nat):Int).tmod 5=((V%5:Nat):Int):=rfl;rw[this,hk];rfl
 obtain⟨⟨nx,ny,nz⟩,e1⟩:∃v,v=bQ (S,O,M):=⟨_,rfl⟩
 rw[<-e1] at n1;have e2:uO (Z,X,W)=(Z.tmod 3,X.tmod 3,W.tmod 3):=rfl;rw[e2] at F;obtain⟨o,ho⟩:=xE (N.tmod 5);rw[<-ho] at R;have go:o.natAbs<100000000:=by omega
 have gi:i<100000000:=by omega
 obtain⟨bx,hbx⟩:=xE (Z.tmod 3);obtain⟨G,hby⟩:=xE (X.tmod 3);obtain⟨bz,hbz⟩:=xE (W.tmod 3);rw[<-hbx,<-hby,<-hbz] at F e2;obtain⟨g1,g2,g3⟩:=F;simp only at g1 g2 g3;have g1' :bx.natAbs<=10000:=by omega
 have g2' :G.natAbs<=10000:=by omega
 have g3' :bz.natAbs<=10000:=by omega
 have m2:fR 2 (bx,G,bz):=⟨g1,g2,g3⟩;obtain⟨C,hC⟩:=xE (agf.cells ⟨V,(S,O,M),(Z,X,W),N,(J,D,z,u)⟩);rw[<-hC] at Q I H y h6 h7 h1 l0 r0 o0;have hC' :agf.cells ⟨V,(S,O,M),(Z,X,W),N,(J,D,z,u)⟩=C:=hC.symm;have tk:C.take 12=C:=GE (by omega);have j8:∀h,C[8]'h=_:=gE Q
 have j0:∀h,C[0]'h=_:=gE I
 have j4:∀h,C[4]'h=_:=gE H
 have j5:∀h,C[5]'h=_:=gE y
 have j6:∀h,C[6]'h=_:=gE h6
 have j7:∀h,C[7]'h=_:=gE h7
 have hp:=jf;have u12:IntKind.i64.wrap (1+1)=2:=rfl;have u13:IntKind.i64.wrap (1+2)=3:=rfl;have u14:IntKind.i64.wrap (1+3)=4:=rfl;have u15:IntKind.i64.wrap (1+4)=5:=rfl;have hip:=gG (n:=(i:Int)) (by omega);have ace :(zS (i:Int)).length+1<=9223372036854775807:=by unfold zS;omega
 have aa2:1+(zS (i:Int)).length<=9223372036854775807:=by omega
 have hi3:(i:Int)<6:=by omega
 have J3:J%3=1:=hJ;have h:aa (aU prog) (fun _=>[]) (aS prog) (eI ⟨V,(S,O,M),(Z,X,W),N,(J,D,z,u)⟩) 1 28 [.agg [.slice 0 0 n none,.slice 1 0 k none],.agg C,.int .i64 i] [.HS,.HS]=some ⟨(.agg (aZ (bR i) (.slice 2 0 n none) (.slice 3 0 2 none) (.slice 4 0 1 none))),none,(jS 2 ⟨V,(S,O,M),(Z,X,W),N,(J,D,z,u)⟩ n i 1)⟩:=by simp[aa,ahz,f28,eI,af,dF,zA,l0,j0,j7,h1,hA,<-e1,hC',tk,hkt,wN,<-ho,go,gi,w0,w1,aa2,ix,bZ,aF,-aJ,cV j,cV Y, kX,qM,D2,nV,dm,qS,bef,ahA,ahB, Nat.testBit,J3,aZ,bR,Sl,jS,kR,ir,fO,bE,hn,hl,hi3,List.idxOf?_cons]
 have:=(ah ae (al _) okd (ao _) h).1;rw[<-hC];simpa [afA.mem] using this
theorem BF(hk:d.kind%5=0)(hJ:d.K.1%3=2):
  kO prog 28 [.agg [.slice 0 0 n none,.slice 1 0 k none],.agg d.cells,.int .i64 i] [.HS,.HS] (.agg (aZ (bR i) (.slice 2 0 n none) (.slice 3 0 3 none) (.slice 4 0 2 none))) ([.HS,.HS]++(jS 2 d n i 2)):=by
 obtain⟨os,m⟩:∃os,aN f28=os:=⟨_,rfl⟩
 have PP:=bP m (ls:=[[0,0,2,6,14,30,63,0,255],[0,1,3,7,15,0,32,96,255,0,1023],[0,0,0,4,12,28,60,0,128,384,896,1920,0,4096,12288,28672,61440,131068,262142,524287,1048575,2097151],[0,0,0,4,12,28,60,0,128,384,896,1920,0,4096,12288,28672,61440,131068,262142,524287,1048575,2097151],[0,1,3,0,8,24,56,0,128,504,1016,0,0,6144,14336,30720,63488,129024,0,262144,786432,1835008,3932160,8126464,16777208,33554424,67108856,134217727,268435455,536870911,1073741823],[0,0,2,6,14,30,62,126,0,510,1022,2047,4095,8191],[0,0,0,0,0,0,63,0,128,384,896,2047,4095,0,8192,24576,57344,122880,0,262144,786432,1835008,3932160,0,8388608,25165824,58720256,125829120,268427264,536870911,1073741823,2147483647]]) (by kernel_rfl);simp only[aN,cj,f28,lA] at m;subst m;simp only[lB] at PP;obtain⟨j,Y,hb2,hb3,hb4,hb5,hb6⟩:=PP;have hN:=hd.N;have hB:=xC hd.B;have hA:=xC hd.A;have n1:=cL d.A;have F:=iq d.B;have R:=pq d.N 5 (by decide);have Q:=Yn d;have I:=Yj d;have H:=Yk d;have y:=Yl d;have h6:=Ym d;have h7:=WS d;have h1:=Yo d;have l0:=zH d;have r0:=iX d;have o0:=Mn d;have okd:=jA d hd;clear hd;obtain⟨V,⟨S,O,M⟩,⟨Z,X,W⟩,N,⟨J,D,z,u⟩⟩:=d;simp only at hk hN hB hA n1 F R Q I H y h6 h7 h1 |-;simp only[Int.cast_ofNat_Int] at R;unfold Nx at hN;obtain⟨hB1,hB2,hB3⟩:=hB;simp only at hB1 hB2 hB3;have wN:IntKind.i64.wrap N=N:=cd (by omega) (by omega);have wB1:IntKind.i64.wrap Z=Z:=cd (by omega) (by omega);have wB2:IntKind.i64.wrap X=X:=cd (by omega) (by omega);have wB3:IntKind.i64.wrap W=W:=cd (by omega) (by omega);have hkt:((V:Nat):Int).tmod 5=0:=by have:((V:Nat):Int).tmod 5=((V%5:Nat):Int):=rfl;rw[this,hk];rfl
 obtain⟨⟨nx,ny,nz⟩,e1⟩:∃v,v=bQ (S,O,M):=⟨_,rfl⟩
 rw[<-e1] at n1;have e2:uO (Z,X,W)=(Z.tmod 3,X.tmod 3,W.tmod 3):=rfl;rw[e2] at F;obtain⟨o,ho⟩:=xE (N.tmod 5);rw[<-ho] at R;have go:o.natAbs<100000000:=by omega
 have gi:i<100000000:=by omega
 obtain⟨bx,hbx⟩:=xE (Z.tmod 3);obtain⟨G,hby⟩:=xE (X.tmod 3);obtain⟨bz,hbz⟩:=xE (W.tmod 3);rw[<-hbx,<-hby,<-hbz] at F e2;obtain⟨g1,g2,g3⟩:=F;simp only at g1 g2 g3;have g1' :bx.natAbs<=10000:=by omega
 have g2' :G.natAbs<=10000:=by omega
 have g3' :bz.natAbs<=10000:=by omega
 have m2:fR 2 (bx,G,bz):=⟨g1,g2,g3⟩;obtain⟨C,hC⟩:=xE (agf.cells ⟨V,(S,O,M),(Z,X,W),N,(J,D,z,u)⟩);rw[<-hC] at Q I H y h6 h7 h1 l0 r0 o0;have hC' :agf.cells ⟨V,(S,O,M),(Z,X,W),N,(J,D,z,u)⟩=C:=hC.symm;have tk:C.take 12=C:=GE (by omega);have j8:∀h,C[8]'h=_:=gE Q
 have j0:∀h,C[0]'h=_:=gE I
 have j4:∀h,C[4]'h=_:=gE H
 have j5:∀h,C[5]'h=_:=gE y
 have j6:∀h,C[6]'h=_:=gE h6
 have j7:∀h,C[7]'h=_:=gE h7
 have hp:=jf;have u12:IntKind.i64.wrap (1+1)=2:=rfl;have u13:IntKind.i64.wrap (1+2)=3:=rfl;have u14:IntKind.i64.wrap (1+3)=4:=rfl;have u15:IntKind.i64.wrap (1+4)=5:=rfl;have hip:=gG (n:=(i:Int)) (by omega);have ace :(zS (i:Int)).length+1<=9223372036854775807:=by unfold zS;omega
 have aa2:1+(zS (i:Int)).length<=9223372036854775807:=by omega
 have hi3:(i:Int)<6:=by omega
 have J3:J%3=2:=hJ;have h:aa (aU prog) (fun _=>[]) (aS prog) (eI ⟨V,(S,O,M),(Z,X,W),N,(J,D,z,u)⟩) 1 28 [.agg [.slice 0 0 n none,.slice 1 0 k none],.agg C,.int .i64 i] [.HS,.HS]=some ⟨(.agg (aZ (bR i) (.slice 2 0 n none) (.slice 3 0 3 none) (.slice 4 0 2 none))),none,(jS 2 ⟨V,(S,O,M),(Z,X,W),N,(J,D,z,u)⟩ n i 2)⟩:=by simp[aa,ahz,f28,eI,af,dF,zA,l0,j0,j7,h1,hA,<-e1,hC',tk,hkt,wN,<-ho,go,gi,w0,w1,aa2,ix,bZ,aF,-aJ,cV j,cV Y, kX,qM,D2,nV,dm,qS,bef,ahA,ahB, Nat.testBit,J3,aZ,bR,Sl,jS,kR,ir,fO,bE,hn,hl,hi3,List.idxOf?_cons]
 have:=(ah ae (al _) okd (ao _) h).1;rw[<-hC];simpa [afA.mem] using this
end
theorem jr(s:af8):0<s.P.length/\s.P.length<=1000:=by
 have h:∀k<8,0<(er k).length/\(er k).length<=1000:=by decide
 have:=h (s.kind%8) (Nat.mod_lt _ (by decide));unfold af8.P
 rwa [QQi]
theorem ic{m n:Nat}{v:Z3}(h:fR m v)(y:m<=n):fR n v:=by obtain⟨Z,X,h3⟩:=h;exact⟨by omega,by omega,by omega⟩
theorem QF(d:agf)(j k:Nat):0<=Nj d j k/\Nj d j k<=3:=by unfold Nj;have:=Nat.mod_lt (MW d.K ((j+k)%4)) (show 0<4 by decide);omega
theorem nK(d:agf)(n:Nat):∀z∈bI d n,z.natAbs<=8:=by intro z Z;simp only[bI,QQj] at Z;obtain⟨k,_,rfl⟩:=Z;exact Bl k
theorem Ij(d:agf)(j n:Nat)(L:List Int)(m:Nat)(y:∀z∈L,z.natAbs<=m)(H:n<=L.length):∀z∈cR d j L n,z.natAbs<=m+3:=by
 intro z Z;simp only[cR,QQj,List.mem_range] at Z;obtain⟨k,W,rfl⟩:=Z;have V:=QF d j k;have X:L.getD k 0∈L:=by rw[List.getD_eq_getElem?_getD,GT (by omega)];exact List.getElem_mem _
 have:=y _ X;omega
theorem uj(d:agf)(j n:Nat)(L:List Int):∀(i:Nat) z y,L[i]? =some z->(cR d j L n)[i]? =some y->z<=y:=by
 intro i z y W Z;have V:=QF d j i;simp only[cR,QQX,Pl] at Z;obtain⟨k,X,rfl⟩:=Z;have e:k=i:=by rw[N4] at X;obtain⟨_,h⟩:=X;rw[List.getElem_range] at h;exact h.symm
 subst e;rw[List.getD_eq_getElem?_getD,W];simp only[Option.getD_some];omega
theorem hN5(n:Int):(n.tmod 5).natAbs<=1000:=by have: -5<n.tmod 5/\n.tmod 5<5:=pq n 5 (by decide);omega
def shB(s:af8)(p t:Nat):AV:=.agg [.slice p 0 s.P.length none,.slice t 0 s.T.length none]
def V5(s:af8)(U:List (List UInt8))(b:Nat)(new:Mem)(y:List AV):Prop:=∃c:Evc,agU s c/\unE c=U/\∀Z,agv b new Z ->agO Z y c
def jT(s:af8)(p t:Nat)(U:List (List UInt8))(b:Nat)(new:Mem)(y:List AV):Prop:=(∀(Z :Mem) (o X :Bool),Z[p]? =some (.cells o 2 (pC s.P))->Z[t]? =some (.cells X 3 (tC s.T))->agv b new Z ->kO prog 61 [shB s p t,.agg y] Z (.int .i64 0) Z)/\V5 s U b new y
theorem ku{s:af8}{d:agf}{i:Nat}{y:List AV}{new M:Mem}{p t:Nat}(H:p<M.length)(I:t<M.length)(Q:new.all (fun s=>s.own||match s with | .HS=>true | _=>false)=true)(h:kO prog 28 [.agg [.slice 0 0 s.P.length none,.slice 1 0 s.T.length none],.agg d.cells,.int .i64 i] [.HS,.HS] (.agg y) ([.HS,.HS]++new)):
  kO prog 28 [shB s p t,.agg d.cells,.int .i64 i] M (.agg (AV.agd (eg [p,t] M.length) y)) (M++new.map (af6.ren (eg [p,t] M.length))):=by
 have:=kO.frame (M:=M) (new:=new) [p,t] rfl (by simp[H,I]) (by rfl) (fun i q Z=>by
  match i with
  |0=>simp at Z;subst Z;trivial
  |1=>simp at Z;subst Z;trivial
  |i+2=>simp at Z) Q h
 simpa [shB,AV.agd,AV.ren,eg,agf.cells] using this
section
variable (s:af8)(d:agf)(hd:d.Ok)(i:Nat)(hi:i<6)
include s d hd i hi
theorem AH(hk:d.kind%5=1)(M:Mem)(p t:Nat)(o o' :Bool)(y:M[p]? =some (.cells o 2 (pC s.P)))(H:M[t]? =some (.cells o' 3 (tC s.T))):
  ∃X Z,kO prog 28 [shB s p t,.agg d.cells,.int .i64 i] M (.agg X) (M++Z)/\jT s p t (bU d i) M.length Z X/\iu M.length Z X (bU d i)/\Z.length<=5/\(X.length=32/\X[1]? =some (.str (bR i)))/\qU M Z/\AV.af7 (fun b=>decide (b<M.length+5)) X=true/\ux X:=by
 have O:=gL y;have K:=gL H;obtain⟨J,G⟩:=jr s;have h:=ku O K rfl (Ao d hd s.P.length s.T.length i hi J G hk);refine⟨_,_,h,⟨fun S w w' W V F=>?_,?_⟩,?_,by simp,⟨by rfl,by rfl⟩,?_,?_,?_⟩
 rotate_left
 .exact⟨C0 (bR i) (bQ d.A) (d.N.tmod 5) (fx (bQ d.A) (uO d.B)),Cq s (bR i) (bQ d.A) (d.N.tmod 5) (fx (bQ d.A) (uO d.B)) (fc hi) (ic (cL _) (by decide)) (mj _) (hN5 d.N) (ic (mh (cL d.A) (iq d.B)) (by decide)) (tV _ _) (cL _) (by have: -5<d.N.tmod 5/\d.N.tmod 5<5:=pq d.N 5 (by decide);omega) (mh (cL d.A) (iq d.B)),by rw[show bU d i=[] by simp[bU,hk]];rfl,fun S _=>Dc (by simp[cO,C0,Evc.cells,AV.agd,AV.ren]) rfl rfl rfl rfl⟩
 .rw[show bU d i=[] by simp[bU,hk]]
  refine sn fun M=>?_
  simpa [cO,AV.agd,AV.ren] using oF (bR i) (bQ d.A) (d.N.tmod 5) (fx (bQ d.A) (uO d.B)) M
 .simp[qU,af6.own,af6.afF]
 .simp[cO,AV.agd,AV.ren,AV.af7,AV.afF]
 .simp[ux,cO,AV.agd,AV.ren]
 have C: -5<d.N.tmod 5/\d.N.tmod 5<5:=pq d.N 5 (by decide);have D:=mh (cL d.A) (iq d.B);have:=mx s (bR i) (bQ d.A) (d.N.tmod 5) (fx (bQ d.A) (uO d.B)) (fc hi) (ic (cL _) (by decide)) (mj _) (by omega) (ic D (by decide)) (tV _ _) S p t w w' W V;simpa [shB,cO,AV.agd,AV.ren] using this
theorem Cf(hk:d.kind%5=3)(M:Mem)(p t:Nat)(o o' :Bool)(y:M[p]? =some (.cells o 2 (pC s.P)))(H:M[t]? =some (.cells o' 3 (tC s.T))):
  ∃X Z,kO prog 28 [shB s p t,.agg d.cells,.int .i64 i] M (.agg X) (M++Z)/\jT s p t (bU d i) M.length Z X/\iu M.length Z X (bU d i)/\Z.length<=5/\(X.length=32/\X[1]? =some (.str (bR i)))/\qU M Z/\AV.af7 (fun b=>decide (b<M.length+5)) X=true/\ux X:=by
 have O:=gL y;have J:=gL H;obtain⟨G,F⟩:=jr s;have h:=ku O J rfl (BG d hd s.P.length s.T.length i hi G F hk);refine⟨_,_,h,⟨fun S w w' W V D=>?_,?_⟩,?_,by simp,⟨by rfl,by rfl⟩,?_,?_,?_⟩
 rotate_left
 .exact⟨OR (bR i) (bQ d.A) (d.N.tmod 5) (1+(d.K.1%4:Nat)) (ju i),EK s (bR i) (bQ d.A) (d.N.tmod 5) (1+(d.K.1%4:Nat)) (ju i) (fc hi) (ic (cL _) (by decide)) (mj _) (hN5 d.N) (by have:=Nat.mod_lt d.K.1 (show 0<4 by decide);omega) (by have:=Nat.mod_lt d.K.1 (show 0<4 by decide);omega) (zJ hi) (cL _) (by have: -5<d.N.tmod 5/\d.N.tmod 5<5:=pq d.N 5 (by decide);omega) (by have:=Nat.mod_lt d.K.1 (show 0<4 by decide);omega),by rw[show bU d i=[ju i] by simp[bU,hk]];rfl,fun S _=>Dc (by simp[dY,OR,Evc.cells,AV.agd,AV.ren]) rfl rfl rfl rfl⟩
 .rw[show bU d i=[ju i] by simp[bU,hk]]
  simpa [dY,AV.agd,AV.ren] using xq (b:=M.length) (new:=[]) (bR i) (bQ d.A) (d.N.tmod 5) (1+(d.K.1%4:Nat)) (ju i)
 .simp[qU,af6.own,af6.afF]
 .simp[dY,AV.agd,AV.ren,AV.af7,AV.afF]
 .simp[ux,dY,AV.agd,AV.ren]
 have C: -5<d.N.tmod 5/\d.N.tmod 5<5:=pq d.N 5 (by decide);have B:=Nat.mod_lt d.K.1 (show 0<4 by decide);have:=nl s (bR i) (bQ d.A) (d.N.tmod 5) (1+(d.K.1%4:Nat)) (ju i) (fc hi) (ic (cL _) (by decide)) (mj _) (by omega) (by omega) (by omega) (zJ hi) S p t w w' W V;simpa [shB,dY,AV.agd,AV.ren] using this
theorem Ch(hk:d.kind%5=4)(M:Mem)(p t:Nat)(o o' :Bool)(y:M[p]? =some (.cells o 2 (pC s.P)))(H:M[t]? =some (.cells o' 3 (tC s.T))):
  ∃X Z,kO prog 28 [shB s p t,.agg d.cells,.int .i64 i] M (.agg X) (M++Z)/\jT s p t (bU d i) M.length Z X/\iu M.length Z X (bU d i)/\Z.length<=5/\(X.length=32/\X[1]? =some (.str (bR i)))/\qU M Z/\AV.af7 (fun b=>decide (b<M.length+5)) X=true/\ux X:=by
 have O:=gL y;have J:=gL H;obtain⟨G,F⟩:=jr s;have h:=ku O J rfl (BI d hd s.P.length s.T.length i hi G F hk);refine⟨_,_,h,⟨fun S w w' W V D=>?_,?_⟩,?_,by simp,⟨by rfl,by rfl⟩,?_,?_,?_⟩
 rotate_left
 .exact⟨OS (bR i) (cK (d.K.1%6)) (uO d.B),EM s _ _ _ (fc hi) (ic (iq _) (by decide)) (by have:=Nat.mod_lt d.K.1 (show 0<6 by decide);omega) (iq _),by rw[show bU d i=[] by simp[bU,hk]];rfl,fun S _=>Dc (by simp[eG,OS,Evc.cells,AV.agd,AV.ren]) rfl rfl rfl rfl⟩
 .rw[show bU d i=[] by simp[bU,hk]]
  refine sn fun M=>?_
  simpa [eG,AV.agd,AV.ren] using qD (bR i) (cK (d.K.1%6)) (uO d.B) M
 .simp[qU,af6.own,af6.afF]
 .simp[eG,AV.agd,AV.ren,AV.af7,AV.afF]
 .simp[ux,eG,AV.agd,AV.ren]
 have:=np s (bR i) (d.K.1%6) (uO d.B) (fc hi) (ic (iq _) (by decide)) S p t w w' W V;simpa [shB,eG,AV.agd,AV.ren] using this
theorem Cg(hk:d.kind%5=2)(M:Mem)(p t:Nat)(o o' :Bool)(y:M[p]? =some (.cells o 2 (pC s.P)))(H:M[t]? =some (.cells o' 3 (tC s.T))):
  ∃X Z,kO prog 28 [shB s p t,.agg d.cells,.int .i64 i] M (.agg X) (M++Z)/\jT s p t (bU d i) M.length Z X/\iu M.length Z X (bU d i)/\Z.length<=5/\(X.length=32/\X[1]? =some (.str (bR i)))/\qU M Z/\AV.af7 (fun b=>decide (b<M.length+5)) X=true/\ux X:=by
 have J:=gL y;have G:=gL H;obtain⟨F,D⟩:=jr s;have h3:=Nat.mod_lt d.K.1 (show 0<3 by decide);have h:=ku J G rfl (BH d hd s.P.length s.T.length i hi F D hk);refine⟨_,_,h,⟨fun V w w' S O W=>?_,?_⟩,?_,by simp,⟨by rfl,by rfl⟩,?_,?_,?_⟩
 rotate_left
 .refine⟨Md (bR i) (bQ d.A) (kT (cJ d (1+d.K.1%3))) (fx (bQ d.A) (uO d.B)),EL s _ _ _ d _ (by omega) (by omega) (fc hi) (ic (cL _) (by decide)) (mj _) (ic (mh (cL d.A) (iq d.B)) (by decide)) (tV _ _) (cL _) (mh (cL d.A) (iq d.B)),by rw[show bU d i=[] by simp[bU,hk]];rfl,fun V W=>?_⟩
  have:=UC (N:=V) (nm:=bR i) (n:=bQ d.A) (s:=fx (bQ d.A) (uO d.B)) (L:=cJ d (1+d.K.1%3)) (b:=M.length) (o:=true) (by rw[dK];omega) (by have:=W 0 _ rfl;simpa [af6.ren,iH] using this);rw[dK] at this;simpa [cn,AV.agd,AV.ren,eg] using this
 .rw[show bU d i=[] by simp[bU,hk]]
  refine sn fun V =>?_
  simpa [cn,AV.agd,AV.ren,eg] using qB (bR i) (bQ d.A) (fx (bQ d.A) (uO d.B)) (.slice M.length 0 (1+d.K.1%3) none) V
 .simp[qU,af6.own,af6.afF,af6.ren,iH,DL]
 .simp[cn,AV.agd,AV.ren,eg,AV.af7,AV.afF]
 .simp[ux,cn,AV.agd,AV.ren,eg]
 have C:=mh (cL d.A) (iq d.B);have:=nn s (bR i) (bQ d.A) (fx (bQ d.A) (uO d.B)) d (1+d.K.1%3) (by omega) (by omega) (fc hi) (ic (cL _) (by decide)) (mj _) (ic C (by decide)) (tV _ _) V p t w w' S O M.length true (by have:=W 0 _ rfl;simpa [af6.ren,iH] using this);simpa [shB,cn,AV.agd,AV.ren,af6.ren,eg,iH] using this
theorem Cc(hk:d.kind%5=0)(y:d.K.1%3=0)(M:Mem)(p t:Nat)(o o' :Bool)(H:M[p]? =some (.cells o 2 (pC s.P)))(I:M[t]? =some (.cells o' 3 (tC s.T))):
  ∃X Z,kO prog 28 [shB s p t,.agg d.cells,.int .i64 i] M (.agg X) (M++Z)/\jT s p t (bU d i) M.length Z X/\iu M.length Z X (bU d i)/\Z.length<=5/\(X.length=32/\X[1]? =some (.str (bR i)))/\qU M Z/\AV.af7 (fun b=>decide (b<M.length+5)) X=true/\ux X:=by
 have j:=gL H;have Y:=gL I;obtain⟨R,Q⟩:=jr s;have h:=ku j Y rfl (BD d hd s.P.length s.T.length i hi R Q hk y);have F:∀z∈(bI d s.P.length),z.natAbs<1000:=fun z D=>by have:=nK d _ z D;omega
 have C:((bI d s.P.length)).length=s.P.length:=eK d _;refine⟨_,_,h,⟨fun V w w' A m W=>?_,?_⟩,?_,by simp[jS],⟨by rfl,by rfl⟩,?_,?_,?_⟩
 rotate_left
 .have k0:(hT (bI d s.P.length)).length=s.P.length:=by rw[dT];exact eK d _
  refine⟨Ip (bR i) (hT (bI d s.P.length)) (bE i 0) [],EH s (bR i) [cU i,49] (bI d s.P.length) (fc hi) (jx (J:=0) hi (by decide) _ (by simp[bE]))  F (by omega) (by omega) C (fun z D=>by have:=nK d _ z D;omega),by rw[show bU d i=bE i 0 by simp[bU,hk,y]];rfl,fun V W=>?_⟩;obtain⟨N,O⟩:=xE (α:=Mem) [kR (bI d s.P.length),.cells true 1 [.str [cU i,49]]];have G:∀(k:Nat) x,N[k]? =some x->V[M.length+k]? =some x:=fun k x h=>W k x (by rw[O] at h;simpa [jS,kR,af6.ren,AV.agd,AV.ren,eg,fO,bE] using h)
  subst O;have:=HT (N:=V) (nm:=bR i) (B:=hT (bI d s.P.length)) (U:=bE i 0) (S:=[]) (b:=M.length) (u:=M.length+1) (o:=true) (o2:=true) (by omega) (by simp[bE]) (by have:=G 0 _ rfl;rwa [zc] at this) (G 1 _ rfl) (Ig V);rw[k0] at this;simpa [aZ,AV.agd,AV.ren,eg,bE] using this
 .rw[show bU d i=bE i 0 by simp[bU,hk,y]]
  have:=jN (b0:=M.length) (new:=[kR (bI d s.P.length),.cells true 1 [.str [cU i,49]]]) (bR i) (.slice M.length 0 s.P.length none) (.y9) (bE i 0) (by simp[bE]) (by simp[bE]) 1 true rfl;simpa [aZ,AV.agd,AV.ren,af6.ren,eg,jS,kR,fO,bE] using this
 .simp[qU,jS,kR,af6.own,af6.afF,af6.ren,AV.agd,AV.ren,AV.af7,AV.afF,fO,M5,bE]
 .simp[aZ,AV.agd,AV.ren,eg,AV.af7,AV.afF]
 .simp[ux,aZ,AV.agd,AV.ren,eg]
 obtain⟨N,O⟩:=xE (α:=Mem) [kR (bI d s.P.length),.cells true 1 [.str [cU i,49]]];have G:∀(k:Nat) x,N[k]? =some x->V[M.length+k]? =some x:=fun k x h=>W k x (by rw[O] at h;simpa [jS,kR,af6.ren,AV.agd,AV.ren,eg,fO,bE] using h)
 subst O;have:=ni s (bR i) [cU i,49] (bI d s.P.length) (fc hi) (jx (J:=0) hi (by decide) _ (by simp[bE]))  F (by omega) C  V p t w w' A m M.length (M.length+1) true true (G 0 _ rfl) (G 1 _ rfl);rw[C] at this;simpa [shB,aZ,AV.agd,AV.ren,af6.ren,eg,jS,kR,fO,bE] using this
theorem Cd(hk:d.kind%5=0)(y:d.K.1%3=1)(M:Mem)(p t:Nat)(o o' :Bool)(H:M[p]? =some (.cells o 2 (pC s.P)))(I:M[t]? =some (.cells o' 3 (tC s.T))):
  ∃W Z,kO prog 28 [shB s p t,.agg d.cells,.int .i64 i] M (.agg W) (M++Z)/\jT s p t (bU d i) M.length Z W/\iu M.length Z W (bU d i)/\Z.length<=5/\(W.length=32/\W[1]? =some (.str (bR i)))/\qU M Z/\AV.af7 (fun b=>decide (b<M.length+5)) W=true/\ux W:=by
 have Q:=gL H;have l1:=gL I;obtain⟨hn,hl⟩:=jr s;have h:=ku Q l1 rfl (BE d hd s.P.length s.T.length i hi hn hl hk y);have C:∀z∈(bI d s.P.length),z.natAbs<1000:=fun z V=>by have:=nK d _ z V;omega
 have D:((bI d s.P.length)).length=s.P.length:=eK d _;have j:=Ij d 0 s.P.length (bI d s.P.length) 8 (nK d s.P.length) (by simp[eK]);have Y:∀z∈(cR d 0 (bI d s.P.length) s.P.length),z.natAbs<1000:=fun z V=>by have:=j z V;omega
 have R:((cR d 0 (bI d s.P.length) s.P.length)).length=s.P.length:=fI d _ _ _;refine⟨_,_,h,⟨fun G w w' A m O=>?_,?_⟩,?_,by simp[jS],⟨by rfl,by rfl⟩,?_,?_,?_⟩
 rotate_left
 .have k0:(hT (bI d s.P.length)).length=s.P.length:=by rw[dT];exact eK d _
  have k1:(hT (cR d 0 (bI d s.P.length) s.P.length)).length=s.P.length:=by rw[dT];exact fI d _ _ _
  refine⟨Ip (bR i) (hT (bI d s.P.length)) (bE i 1) [hT (cR d 0 (bI d s.P.length) s.P.length)],EI s (bR i) [cU i,49] [cU i,50] (bI d s.P.length) (cR d 0 (bI d s.P.length) s.P.length) (fc hi) (jx (J:=1) hi (by decide) _ (by simp[bE])) (jx (J:=1) hi (by decide) _ (by simp[bE])) (by simp) C (by omega) (by omega) D Y R (uj d 0 s.P.length (bI d s.P.length)) (fun z V=>by have:=nK d _ z V;omega) (fun z V=>by have:=j z V;omega),by rw[show bU d i=bE i 1 by simp[bU,hk,y]];rfl,fun G O=>?_⟩;obtain⟨N,F⟩:=xE (α:=Mem) [kR (bI d s.P.length),.cells true 1 [.str [cU i,49],.str [cU i,50]],.cells true 1 [.slice (M.length+3) 0 s.P.length none],kR (cR d 0 (bI d s.P.length) s.P.length)];have X:∀(k:Nat) x,N[k]? =some x->G[M.length+k]? =some x:=fun k x h=>O k x (by rw[F] at h;simpa [jS,kR,af6.ren,AV.agd,AV.ren,eg,fO,bE] using h)
  subst F;have:=HT (N:=G) (nm:=bR i) (B:=hT (bI d s.P.length)) (U:=bE i 1) (S:=[hT (cR d 0 (bI d s.P.length) s.P.length)]) (b:=M.length) (u:=M.length+1) (o:=true) (o2:=true) (by omega) (by simp[bE]) (by have:=X 0 _ rfl;rwa [zc] at this) (X 1 _ rfl) (ZD (c:=M.length+2) (r1:=M.length+3) (o:=true) (o1:=true) (by rw[k1];exact X 2 _ rfl) (by have:=X 3 _ rfl;rwa [zc] at this) (by omega));rw[k0] at this;simpa [aZ,AV.agd,AV.ren,eg,bE] using this
 .rw[show bU d i=bE i 1 by simp[bU,hk,y]]
  have:=jN (b0:=M.length) (new:=[kR (bI d s.P.length),.cells true 1 [.str [cU i,49],.str [cU i,50]],.cells true 1 [.slice (M.length+3) 0 s.P.length none],kR (cR d 0 (bI d s.P.length) s.P.length)]) (bR i) (.slice M.length 0 s.P.length none) (.slice (M.length+2) 0 1 none) (bE i 1) (by simp[bE]) (by simp[bE]) 1 true rfl;simpa [aZ,AV.agd,AV.ren,af6.ren,eg,jS,kR,fO,bE] using this
 .simp[qU,jS,kR,af6.own,af6.afF,af6.ren,AV.agd,AV.ren,eg,AV.af7,AV.afF,fO,M5,bE]
 .simp[aZ,AV.agd,AV.ren,eg,AV.af7,AV.afF]
 .simp[ux,aZ,AV.agd,AV.ren,eg]
 obtain⟨N,F⟩:=xE (α:=Mem) [kR (bI d s.P.length),.cells true 1 [.str [cU i,49],.str [cU i,50]],.cells true 1 [.slice (M.length+3) 0 s.P.length none],kR (cR d 0 (bI d s.P.length) s.P.length)];have X:∀(k:Nat) x,N[k]? =some x->G[M.length+k]? =some x:=fun k x h=>O k x (by rw[F] at h;simpa [jS,kR,af6.ren,AV.agd,AV.ren,eg,fO,bE] using h)
 subst F;have:=nj s (bR i) [cU i,49] [cU i,50] (bI d s.P.length) (cR d 0 (bI d s.P.length) s.P.length) (fc hi) (jx (J:=1) hi (by decide) _ (by simp[bE])) (jx (J:=1) hi (by decide) _ (by simp[bE])) (by simp) C (by omega) D Y R (uj d 0 s.P.length (bI d s.P.length)) G p t w w' A m M.length (M.length+1) true true (X 0 _ rfl) (X 1 _ rfl) (M.length+2) (M.length+3) true true (by rw[D];exact X 2 _ rfl) (X 3 _ rfl);rw[D] at this;simpa [shB,aZ,AV.agd,AV.ren,af6.ren,eg,jS,kR,fO,bE] using this
theorem Ce(hk:d.kind%5=0)(y:d.K.1%3=2)(M:Mem)(p t:Nat)(o o' :Bool)(hp:M[p]? =some (.cells o 2 (pC s.P)))(ht:M[t]? =some (.cells o' 3 (tC s.T))):
  ∃V Z,kO prog 28 [shB s p t,.agg d.cells,.int .i64 i] M (.agg V) (M++Z)/\jT s p t (bU d i) M.length Z V/\iu M.length Z V (bU d i)/\Z.length<=5/\(V.length=32/\V[1]? =some (.str (bR i)))/\qU M Z/\AV.af7 (fun b=>decide (b<M.length+5)) V=true/\ux V:=by
 have l0:=gL hp;have l1:=gL ht;obtain⟨hn,hl⟩:=jr s;have h:=ku l0 l1 rfl (BF d hd s.P.length s.T.length i hi hn hl hk y);have C:∀z∈(bI d s.P.length),z.natAbs<1000:=fun z X=>by have:=nK d _ z X;omega
 have D:((bI d s.P.length)).length=s.P.length:=eK d _;have A:=Ij d 0 s.P.length (bI d s.P.length) 8 (nK d s.P.length) (by simp[eK]);have Y:∀z∈(cR d 0 (bI d s.P.length) s.P.length),z.natAbs<1000:=fun z X=>by have:=A z X;omega
 have R:((cR d 0 (bI d s.P.length) s.P.length)).length=s.P.length:=fI d _ _ _;have Q:=Ij d 1 s.P.length (cR d 0 (bI d s.P.length) s.P.length) 11 (A) (by simp[fI]);have I:∀z∈(cR d 1 (cR d 0 (bI d s.P.length) s.P.length) s.P.length),z.natAbs<1000:=fun z X=>by have:=Q z X;omega
 have H:((cR d 1 (cR d 0 (bI d s.P.length) s.P.length) s.P.length)).length=s.P.length:=fI d _ _ _;refine⟨_,_,h,⟨fun G w w' m j O=>?_,?_⟩,?_,by simp[jS],⟨by rfl,by rfl⟩,?_,?_,?_⟩
 rotate_left
 .have k0:(hT (bI d s.P.length)).length=s.P.length:=by rw[dT];exact eK d _
  have k1:(hT (cR d 0 (bI d s.P.length) s.P.length)).length=s.P.length:=by rw[dT];exact fI d _ _ _
  have k2:(hT (cR d 1 (cR d 0 (bI d s.P.length) s.P.length) s.P.length)).length=s.P.length:=by rw[dT];exact fI d _ _ _
  refine⟨Ip (bR i) (hT (bI d s.P.length)) (bE i 2) [hT (cR d 0 (bI d s.P.length) s.P.length),hT (cR d 1 (cR d 0 (bI d s.P.length) s.P.length) s.P.length)],EJ s (bR i) [cU i,49] [cU i,50] [cU i,51] (bI d s.P.length) (cR d 0 (bI d s.P.length) s.P.length) (cR d 1 (cR d 0 (bI d s.P.length) s.P.length) s.P.length) (fc hi) (jx (J:=2) hi (by decide) _ (by simp[bE])) (jx (J:=2) hi (by decide) _ (by simp[bE])) (jx (J:=2) hi (by decide) _ (by simp[bE])) (by simp) (by simp) (by simp) C (by omega) (by omega) D Y R (uj d 0 s.P.length (bI d s.P.length)) I H (uj d 1 s.P.length (cR d 0 (bI d s.P.length) s.P.length)) (fun z X=>by have:=nK d _ z X;omega) (fun z X=>by have:=A z X;omega) (fun z X=>by have:=Q z X;omega),by rw[show bU d i=bE i 2 by simp[bU,hk,y]];rfl,fun G O=>?_⟩;obtain⟨N,F⟩:=xE (α:=Mem) [kR (bI d s.P.length),.cells true 1 [.str [cU i,49],.str [cU i,50],.str [cU i,51]],.cells true 1 [.slice (M.length+3) 0 s.P.length none,.slice (M.length+4) 0 s.P.length none],kR (cR d 0 (bI d s.P.length) s.P.length),kR (cR d 1 (cR d 0 (bI d s.P.length) s.P.length) s.P.length)];have W:∀(k:Nat) x,N[k]? =some x->G[M.length+k]? =some x:=fun k x h=>O k x (by rw[F] at h;simpa [jS,kR,af6.ren,AV.agd,AV.ren,eg,fO,bE] using h)
  subst F;have:=HT (N:=G) (nm:=bR i) (B:=hT (bI d s.P.length)) (U:=bE i 2) (S:=[hT (cR d 0 (bI d s.P.length) s.P.length),hT (cR d 1 (cR d 0 (bI d s.P.length) s.P.length) s.P.length)]) (b:=M.length) (u:=M.length+1) (o:=true) (o2:=true) (by omega) (by simp[bE]) (by have:=W 0 _ rfl;rwa [zc] at this) (W 1 _ rfl) (ZE (c:=M.length+2) (r1:=M.length+3) (r2:=M.length+4) (o:=true) (o1:=true) (o2:=true) (by rw[k1,k2];exact W 2 _ rfl) (by have:=W 3 _ rfl;rwa [zc] at this) (by have:=W 4 _ rfl;rwa [zc] at this) (by omega) (by omega));rw[k0] at this;simpa [aZ,AV.agd,AV.ren,eg,bE] using this
 .rw[show bU d i=bE i 2 by simp[bU,hk,y]]
  have:=jN (b0:=M.length) (new:=[kR (bI d s.P.length),.cells true 1 [.str [cU i,49],.str [cU i,50],.str [cU i,51]],.cells true 1 [.slice (M.length+3) 0 s.P.length none,.slice (M.length+4) 0 s.P.length none],kR (cR d 0 (bI d s.P.length) s.P.length),kR (cR d 1 (cR d 0 (bI d s.P.length) s.P.length) s.P.length)]) (bR i) (.slice M.length 0 s.P.length none) (.slice (M.length+2) 0 2 none) (bE i 2) (by simp[bE]) (by simp[bE]) 1 true rfl;simpa [aZ,AV.agd,AV.ren,af6.ren,eg,jS,kR,fO,bE] using this
 .simp[qU,jS,kR,af6.own,af6.afF,af6.ren,AV.agd,AV.ren,eg,AV.af7,AV.afF,fO,M5,bE]
 .simp[aZ,AV.agd,AV.ren,eg,AV.af7,AV.afF]
 .simp[ux,aZ,AV.agd,AV.ren,eg]
 obtain⟨N,F⟩:=xE (α:=Mem) [kR (bI d s.P.length),.cells true 1 [.str [cU i,49],.str [cU i,50],.str [cU i,51]],.cells true 1 [.slice (M.length+3) 0 s.P.length none,.slice (M.length+4) 0 s.P.length none],kR (cR d 0 (bI d s.P.length) s.P.length),kR (cR d 1 (cR d 0 (bI d s.P.length) s.P.length) s.P.length)];have W:∀(k:Nat) x,N[k]? =some x->G[M.length+k]? =some x:=fun k x h=>O k x (by rw[F] at h;simpa [jS,kR,af6.ren,AV.agd,AV.ren,eg,fO,bE] using h)
 subst F;have:=nk s (bR i) [cU i,49] [cU i,50] [cU i,51] (bI d s.P.length) (cR d 0 (bI d s.P.length) s.P.length) (cR d 1 (cR d 0 (bI d s.P.length) s.P.length) s.P.length) (fc hi) (jx (J:=2) hi (by decide) _ (by simp[bE])) (jx (J:=2) hi (by decide) _ (by simp[bE])) (jx (J:=2) hi (by decide) _ (by simp[bE])) (by simp) (by simp) (by simp) C (by omega) D Y R (uj d 0 s.P.length (bI d s.P.length)) I H (uj d 1 s.P.length (cR d 0 (bI d s.P.length) s.P.length)) G p t w w' m j M.length (M.length+1) true true (W 0 _ rfl) (W 1 _ rfl) (M.length+2) (M.length+3) (M.length+4) true true true (by rw[D];exact W 2 _ rfl) (W 3 _ rfl) (W 4 _ rfl);rw[D] at this;simpa [shB,aZ,AV.agd,AV.ren,af6.ren,eg,jS,kR,fO,bE] using this
theorem Rp(M:Mem)(p t:Nat)(o o' :Bool)(y:M[p]? =some (.cells o 2 (pC s.P)))(H:M[t]? =some (.cells o' 3 (tC s.T))):
  ∃X Z,kO prog 28 [shB s p t,.agg d.cells,.int .i64 i] M (.agg X) (M++Z)/\jT s p t (bU d i) M.length Z X/\iu M.length Z X (bU d i)/\Z.length<=5/\(X.length=32/\X[1]? =some (.str (bR i)))/\qU M Z/\AV.af7 (fun b=>decide (b<M.length+5)) X=true/\ux X:=by
 have W:=Nat.mod_lt d.kind (show 0<5 by decide);have h3:=Nat.mod_lt d.K.1 (show 0<3 by decide);have:d.kind%5=0\/d.kind%5=1\/d.kind%5=2\/d.kind%5=3\/d.kind%5=4:=by omega
 rcases this with h | h | h | h | h
 .have:d.K.1%3=0\/d.K.1%3=1\/d.K.1%3=2:=by omega
  rcases this with g | g | g
  .exact Cc s d hd i hi h g M p t o o' y H
  .exact Cd s d hd i hi h g M p t o o' y H
  .exact Ce s d hd i hi h g M p t o o' y H
 .exact AH s d hd i hi h M p t o o' y H
 .exact Cg s d hd i hi h M p t o o' y H
 .exact Cf s d hd i hi h M p t o o' y H
 .exact Ch s d hd i hi h M p t o o' y H
end
theorem HE{P:Program}{f:FuncId}{args:List AV}{m y :Mem}{v:AV}(h:kO P f args m v y):kO P f args m v (y ++[.HS]):=by refine⟨h.1,fun base μ w Vs h0 h1 h2=>(h.2 base μ w Vs h0 h1 h2).mono ?_⟩;rintro e w' ⟨V,v',m1,μ',he,hv,hh,hs,rfl,rfl⟩;obtain⟨X,Z⟩:=hh.HS (μ' 0);exact⟨V,_,_,_,he,hv.mono (by simp) Z.agree,X,hs.trans (Z.mono hs.len),rfl,rfl⟩
theorem xu{P:Program}{f:FuncId}{args:List AV}{m:Mem}{v:AV}:∀(k:Nat) {y :Mem},kO P f args m v y ->kO P f args m v (y ++List.replicate k .HS)
 |0,y,h=>by simpa using h
 |k+1,y,h=>by
  have:=xu k (HE h)
  rwa [SP,List.singleton_append,<-List.replicate_succ] at this
theorem NY(s:af8)(d:agf)(hd:d.Ok)(i:Nat)(y:i<6)(M:Mem)(p t:Nat)(o o' :Bool)(H:M[p]? =some (.cells o 2 (pC s.P)))(I:M[t]? =some (.cells o' 3 (tC s.T))):
  ∃X S O K J G,kO prog 28 [shB s p t,.agg d.cells,.int .i64 i] M (.agg X) (M++[S,O,K,J,G])/\jT s p t (bU d i) M.length [S,O,K,J,G] X/\iu M.length [S,O,K,J,G] X (bU d i)/\(X.length=32/\X[1]? =some (.str (bR i)))/\qU M [S,O,K,J,G]/\AV.af7 (fun b=>decide (b<M.length+5)) X=true/\ux X:=by
 obtain⟨X,Z,u,B,h3,h4,m,A,j,Y⟩:=Rp s d hd i y M p t o o' H I;have e:(Z++List.replicate (5-Z.length) af6.HS).length=5:=by simp;omega
 have F:=xu (5-Z.length) u;rw[SP] at F;have z:∀W,agv M.length (Z++List.replicate (5-Z.length) af6.HS) W ->agv M.length Z W :=fun W c k x V=>c k x (gU V _)
 have D:jT s p t (bU d i) M.length (Z++List.replicate (5-Z.length) af6.HS) X:=by obtain⟨B,R,Q,hu,V⟩:=B;exact⟨fun W w w' a b c=>B W w w' a b (z W c),R,Q,hu,fun W c=>V W (z W c)⟩
 have g3:iu M.length (Z++List.replicate (5-Z.length) af6.HS) X (bU d i):=fun W c=>
  h3 W fun k x V=>c k x (gU V _)
 have C:qU M (Z++List.replicate (5-Z.length) af6.HS):=by unfold qU at A |-;rw[List.all_append,A,Bool.true_and,List.all_eq_true];intro x V;rw[List.eq_of_mem_replicate V];rfl
 obtain⟨N,hN⟩:=xE (Z++List.replicate (5-Z.length) af6.HS);rw[<-hN] at e F D g3 C
 match N,e,F,D,g3,C with
 | [S,O,K,J,G],_,F,D,g3,C=>exact⟨X,S,O,K,J,G,F,D,g3,m,C,j,Y⟩
end Go.Proofs
