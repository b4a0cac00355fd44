/- See F54. -/
import Derived.Test.YtgafjliihahjgaaGreatDoorF17
set_option linter.all false
set_option maxRecDepth 100000
set_option maxHeartbeats 40000000
namespace Go.Proofs
open Go.Eng
open Tryz
theorem agv:aK prog 28=some f28:=by kernel_rfl
theorem agw:ba [0,0,2,6,14,30,63,0,255] 8=true:=by decide
theorem agx:ba [0,1,3,7,15,0,32,96,255,0,1023] 10=true:=by decide
theorem ahF:ba [0,0,0,4,12,28,60,0,128,384,896,1920,0,4096,12288,28672,61440,131068,262142,524287,1048575,2097151] 21=true:=by decide
theorem ahu:ba [0,0,2,6,14,30,62,126,0,510,1022,2047,4095,8191] 13=true:=by decide
theorem ahv:ba [0,0,0,0,0,0,63,0,128,384,896,2047,4095,0,8192,24576,57344,122880,0,262144,786432,1835008,3932160,0,8388608,25165824,58720256,125829120,268427264,536870911,1073741823,2147483647] 31=true:=by decide
section
variable (d:ae6)(hd:d.Ok)(n k i:Nat)(hi:i<6)(hn:0<n)(hl:n≤1000)
include d hd n k i hi hn hl
theorem Ay(hk:d.kind%5=3):
  kO prog 28 [.agg [.slice 0 0 n none,.slice 1 0 k none],.agg d.cells,.int .i64 i] [.aeP,.aeP] (.agg (cX (bO i) (bN d.A) (d.N.tmod 5) (1+(d.K.1%4:Nat)) (iw i))) ([.aeP,.aeP]++[]):=by
 obtain⟨os,u⟩:∃os,aC f28=os:=⟨_,rfl⟩
 have I':=be u (ls:=[[0,0,2,6,14,30,63,0,255],[0,1,3,7,15,0,32,96,255,0,1023],[0,0,0,4,12,28,60,0,128,384,896,1920,0,4096,12288,28672,61440,131068,262142,524287,1048575,2097151],[0,0,0,4,12,28,60,0,128,384,896,1920,0,4096,12288,28672,61440,131068,262142,524287,1048575,2097151],[0,1,3,0,8,24,56,0,128,504,1016,0,0,6144,14336,30720,63488,129024,0,262144,786432,1835008,3932160,8126464,16777208,33554424,67108856,134217727,268435455,536870911,1073741823],[0,0,2,6,14,30,62,126,0,510,1022,2047,4095,8191],[0,0,0,0,0,0,63,0,128,384,896,2047,4095,0,8192,24576,57344,122880,0,262144,786432,1835008,3932160,0,8388608,25165824,58720256,125829120,268427264,536870911,1073741823,2147483647]]) (by kernel_rfl);simp only[aC,bn,f28,lA] at u;subst u;simp only[lB] at I';obtain⟨Z9,m,hb2,hb3,hb4,j,hb6⟩:=I';have hN:=hd.N;have hB:=vP hd.B;have hA:=vP hd.A;have n1:=cw d.A;have D:=gp d.B;have Y:=nT d.N 5 (by decide);have R:=XZ d;have I:=XV d;have H:=XW d;have G:=XX d;have h6:=XY d;have h7:=Wy d;have h1:=X0 d;have l0:=yu d;have r0:=ia d;have o0:=LD d;have okd:=iB d hd;clear hd;obtain⟨S,⟨O,M,J⟩,⟨Z,X,W⟩,N,⟨V,K2,K3,K4⟩⟩:=d;simp only at hk hN hB hA n1 D Y R I H G h6 h7 h1 ⊢;simp only[Int.cast_ofNat_Int] at Y;unfold Ak at hN;obtain⟨hB1,hB2,hB3⟩:=hB;simp only at hB1 hB2 hB3;have wN:IntKind.i64.wrap N=N:=bV (by omega) (by omega);have wB1:IntKind.i64.wrap Z=Z:=bV (by omega) (by omega);have wB2:IntKind.i64.wrap X=X:=bV (by omega) (by omega);have wB3:IntKind.i64.wrap W=W:=bV (by omega) (by omega);have hkt:((S:Nat):Int).tmod 5=3:=by have:((S:Nat):Int).tmod 5=((S%5:Nat):Int):=rfl;rw[this,hk];rfl
 obtain⟨⟨nx,ny,nz⟩,e1⟩:∃v,v=bN (O,M,J):=⟨_,rfl⟩
 rw[←e1] at n1;have e2:tz (Z,X,W)=(Z.tmod 3,X.tmod 3,W.tmod 3):=rfl;rw[e2] at D;obtain⟨o,ho⟩:=xE (N.tmod 5);rw[←ho] at Y;have go:o.natAbs<100000000:=by omega
 have gi:i<100000000:=by omega
 obtain⟨bx,hbx⟩:=xE (Z.tmod 3);obtain⟨F,hby⟩:=xE (X.tmod 3);obtain⟨bz,hbz⟩:=xE (W.tmod 3);rw[←hbx,←hby,←hbz] at D e2;obtain⟨g1,g2,g3⟩:=D;simp only at g1 g2 g3;have g1' :bx.natAbs≤10000:=by omega
 have g2' :F.natAbs≤10000:=by omega
 have g3' :bz.natAbs≤10000:=by omega
 have m2:fq 2 (bx,F,bz):=⟨g1,g2,g3⟩;obtain⟨C,hC⟩:=xE (ae6.cells ⟨S,(O,M,J),(Z,X,W),N,(V,K2,K3,K4)⟩);rw[←hC] at R I H G h6 h7 h1 l0 r0 o0;have hC' :ae6.cells ⟨S,(O,M,J),(Z,X,W),N,(V,K2,K3,K4)⟩=C:=hC.symm;have tk:C.take 12=C:=List.take_of_length_le (by omega);have j8:∀h,C[8]'h=_:=gE R
 have j0:∀h,C[0]'h=_:=gE I
 have j4:∀h,C[4]'h=_:=gE H
 have j5:∀h,C[5]'h=_:=gE G
 have j6:∀h,C[6]'h=_:=gE h6
 have j7:∀h,C[7]'h=_:=gE h7
 have hp:=ij;have u12:IntKind.i64.wrap (1+1)=2:=rfl;have u13:IntKind.i64.wrap (1+2)=3:=rfl;have u14:IntKind.i64.wrap (1+3)=4:=rfl;have u15:IntKind.i64.wrap (1+4)=5:=rfl;have hip:=fX (n:=(i:Int)) (by omega);have abx :(zS (i:Int)).length+1≤9223372036854775807:=by unfold zS;omega
 have aaH:1+(zS (i:Int)).length≤9223372036854775807:=by omega
 have h:aa (aN prog) (fun _=>[]) (aK prog) (dQ ⟨S,(O,M,J),(Z,X,W),N,(V,K2,K3,K4)⟩) 1 28 [.agg [.slice 0 0 n none,.slice 1 0 k none],.agg C,.int .i64 i] [.aeP,.aeP]=some ⟨(.agg (cX (bO i) (bN (O,M,J)) (N.tmod 5) (1+(V%4:Nat)) (iw i))),none,[]⟩:=by
  rw[←e1,←ho];have t4:((V:Nat):Int).tmod 4=((V%4:Nat):Int):=rfl;have x4:V%4<4:=Nat.mod_lt _ (by decide);obtain⟨x,hx⟩:=xE (V%4);rw[←hx] at t4 x4 ⊢;have y0:IntKind.i64.wrap (x:Int)=(x:Int):=bV (by omega) (by omega);have y1:IntKind.i64.wrap (1+(x:Int))=1+(x:Int):=bV (by omega) (by omega);have y2:(1+(x:Int)).natAbs<100000000:=by omega
  have eQ:∀z:Int,mkRat z 2=hQ z:=fun _=>rfl
  simp[aa,agv,f28,dQ,af,dm,zA,l0,j8,j0,j7,h1,hA,←e1,hkt,wN,←ho,go,gi,w3,w4,aaH,gv,bW,aE,-aB,cK Z9,cK m,cK j,jD,pr,CL,mK,bR,oM,bef,agw,agx,ahu,Nat.testBit,t4,y0,y1,y2,eQ,cX,bO,iw]
 have:=(ah ae (ar _) okd (au _) h).1;rw[←hC];simpa [aeQ.mem] using this
theorem AA(hk:d.kind%5=4):
  kO prog 28 [.agg [.slice 0 0 n none,.slice 1 0 k none],.agg d.cells,.int .i64 i] [.aeP,.aeP] (.agg (cL (bO i) (bC (d.K.1%6)) (tz d.B))) ([.aeP,.aeP]++[]):=by
 obtain⟨os,j⟩:∃os,aC f28=os:=⟨_,rfl⟩
 have I':=be j (ls:=[[0,0,2,6,14,30,63,0,255],[0,1,3,7,15,0,32,96,255,0,1023],[0,0,0,4,12,28,60,0,128,384,896,1920,0,4096,12288,28672,61440,131068,262142,524287,1048575,2097151],[0,0,0,4,12,28,60,0,128,384,896,1920,0,4096,12288,28672,61440,131068,262142,524287,1048575,2097151],[0,1,3,0,8,24,56,0,128,504,1016,0,0,6144,14336,30720,63488,129024,0,262144,786432,1835008,3932160,8126464,16777208,33554424,67108856,134217727,268435455,536870911,1073741823],[0,0,2,6,14,30,62,126,0,510,1022,2047,4095,8191],[0,0,0,0,0,0,63,0,128,384,896,2047,4095,0,8192,24576,57344,122880,0,262144,786432,1835008,3932160,0,8388608,25165824,58720256,125829120,268427264,536870911,1073741823,2147483647]]) (by kernel_rfl);simp only[aC,bn,f28,lA] at j;subst j;simp only[lB] at I';obtain⟨Z9,Y,hb2,hb3,hb4,hb5,R⟩:=I';have hN:=hd.N;have hB:=vP hd.B;have hA:=vP hd.A;have n1:=cw d.A;have D:=gp d.B;have I:=nT d.N 5 (by decide);have H:=XZ d;have G:=XV d;have h4:=XW d;have h5:=XX d;have h6:=XY d;have h7:=Wy d;have h1:=X0 d;have l0:=yu d;have r0:=ia d;have o0:=LD d;have okd:=iB d hd;clear hd;obtain⟨S,⟨z,u,m⟩,⟨Z,X,W⟩,N,⟨V,K2,K3,K4⟩⟩:=d;simp only at hk hN hB hA n1 D I H G h4 h5 h6 h7 h1 ⊢;simp only[Int.cast_ofNat_Int] at I;unfold Ak at hN;obtain⟨hB1,hB2,hB3⟩:=hB;simp only at hB1 hB2 hB3;have wN:IntKind.i64.wrap N=N:=bV (by omega) (by omega);have wB1:IntKind.i64.wrap Z=Z:=bV (by omega) (by omega);have wB2:IntKind.i64.wrap X=X:=bV (by omega) (by omega);have wB3:IntKind.i64.wrap W=W:=bV (by omega) (by omega);have hkt:((S:Nat):Int).tmod 5=4:=by have:((S:Nat):Int).tmod 5=((S%5:Nat):Int):=rfl;rw[this,hk];rfl
 obtain⟨⟨nx,ny,nz⟩,e1⟩:∃v,v=bN (z,u,m):=⟨_,rfl⟩
 rw[←e1] at n1;have e2:tz (Z,X,W)=(Z.tmod 3,X.tmod 3,W.tmod 3):=rfl;rw[e2] at D;obtain⟨o,ho⟩:=xE (N.tmod 5);rw[←ho] at I;have go:o.natAbs<100000000:=by omega
 have gi:i<100000000:=by omega
 obtain⟨bx,O⟩:=xE (Z.tmod 3);obtain⟨M,J⟩:=xE (X.tmod 3);obtain⟨bz,F⟩:=xE (W.tmod 3);rw[←O,←J,←F] at D e2;obtain⟨g1,g2,g3⟩:=D;simp only at g1 g2 g3;have g1' :bx.natAbs≤10000:=by omega
 have g2' :M.natAbs≤10000:=by omega
 have g3' :bz.natAbs≤10000:=by omega
 have m2:fq 2 (bx,M,bz):=⟨g1,g2,g3⟩;obtain⟨C,hC⟩:=xE (ae6.cells ⟨S,(z,u,m),(Z,X,W),N,(V,K2,K3,K4)⟩);rw[←hC] at H G h4 h5 h6 h7 h1 l0 r0 o0;have hC' :ae6.cells ⟨S,(z,u,m),(Z,X,W),N,(V,K2,K3,K4)⟩=C:=hC.symm;have tk:C.take 12=C:=List.take_of_length_le (by omega);have j8:∀h,C[8]'h=_:=gE H
 have j0:∀h,C[0]'h=_:=gE G
 have j4:∀h,C[4]'h=_:=gE h4
 have j5:∀h,C[5]'h=_:=gE h5
 have j6:∀h,C[6]'h=_:=gE h6
 have j7:∀h,C[7]'h=_:=gE h7
 have hp:=ij;have u12:IntKind.i64.wrap (1+1)=2:=rfl;have u13:IntKind.i64.wrap (1+2)=3:=rfl;have u14:IntKind.i64.wrap (1+3)=4:=rfl;have u15:IntKind.i64.wrap (1+4)=5:=rfl;have hip:=fX (n:=(i:Int)) (by omega);have abx :(zS (i:Int)).length+1≤9223372036854775807:=by unfold zS;omega
 have aaH:1+(zS (i:Int)).length≤9223372036854775807:=by omega
 have h:aa (aN prog) (fun _=>[]) (aK prog) (dQ ⟨S,(z,u,m),(Z,X,W),N,(V,K2,K3,K4)⟩) 1 28 [.agg [.slice 0 0 n none,.slice 1 0 k none],.agg C,.int .i64 i] [.aeP,.aeP]=some ⟨(.agg (cL (bO i) (bC (V%6)) (tz (Z,X,W)))),none,[]⟩:=by
  rw[e2];have t6:((V:Nat):Int).tmod 6=((V%6:Nat):Int):=rfl;have x6:V%6<6:=Nat.mod_lt _ (by decide);obtain⟨x,hx⟩:=xE (V%6);rw[←hx] at t6 x6 ⊢;have y1:(List.drop (x*4) ([.int .i64 1,.int .i64 0,.int .i64 0,.int .i64 1,.int .i64 2,.int .i64 1,.int .i64 0,.int .i64 0,.int .i64 1,.int .i64 1,.int .i64 1,.int .i64 1,.int .i64 3,.int .i64 0,.int .i64 1,.int .i64 0,.int .i64 0,.int .i64 1,.int .i64 0,.int .i64 0,.int .i64 1,.int .i64 0,.int .i64 0,.int .i64 0]:List AV)).take 4=[.int .i64 (bC x).1,.int .i64 (bC x).2.1,.int .i64 (bC x).2.2.1,.int .i64 (bC x).2.2.2]:=by
   have:x=0∨x=1∨x=2∨x=3∨x=4∨x=5:=by omega
   rcases this with rfl | rfl | rfl | rfl | rfl | rfl<;>rfl
  have y2:x*4+4≤24:=by omega
  have y3:(x:Int)<6:=by omega
  have y4:x*4≤20:=by omega
  obtain⟨⟨ta,tb,tc,td⟩,hT⟩:∃t,t=bC x:=⟨_,rfl⟩
  rw[←hT] at y1 ⊢;simp only at y1;simp[aa,agv,f28,dQ,af,dm,zA,l0,j8,j0,j4,j5,j6,j7,h1,hA,←e1,hkt,wN,wB1,wB2,wB3,←ho,←O,←J,←F,go,gi,g1',g2',g3',w4,w5,aaH,gv,bW,aE,-aB,cK Z9,cK Y,cK R,jD,pr,CL,mK,bR,oM,bef,agw,agx,ahv,Nat.testBit,t6,y1,y2,y3,cL,bO]
 have:=(ah ae (ar _) okd (au _) h).1;rw[←hC];simpa [aeQ.mem] using this
theorem Av(hk:d.kind%5=0)(hJ:d.K.1%3=0):
  kO prog 28 [.agg [.slice 0 0 n none,.slice 1 0 k none],.agg d.cells,.int .i64 i] [.aeP,.aeP] (.agg (bf (bO i) (.slice 2 0 n none) (.slice 3 0 1 none) .y9)) ([.aeP,.aeP]++(iT 2 d n i 0)):=by
 obtain⟨os,j⟩:∃os,aC f28=os:=⟨_,rfl⟩
 have I':=be j (ls:=[[0,0,2,6,14,30,63,0,255],[0,1,3,7,15,0,32,96,255,0,1023],[0,0,0,4,12,28,60,0,128,384,896,1920,0,4096,12288,28672,61440,131068,262142,524287,1048575,2097151],[0,0,0,4,12,28,60,0,128,384,896,1920,0,4096,12288,28672,61440,131068,262142,524287,1048575,2097151],[0,1,3,0,8,24,56,0,128,504,1016,0,0,6144,14336,30720,63488,129024,0,262144,786432,1835008,3932160,8126464,16777208,33554424,67108856,134217727,268435455,536870911,1073741823],[0,0,2,6,14,30,62,126,0,510,1022,2047,4095,8191],[0,0,0,0,0,0,63,0,128,384,896,2047,4095,0,8192,24576,57344,122880,0,262144,786432,1835008,3932160,0,8388608,25165824,58720256,125829120,268427264,536870911,1073741823,2147483647]]) (by kernel_rfl);simp only[aC,bn,f28,lA] at j;subst j;simp only[lB] at I';obtain⟨Z9,Y,hb2,hb3,hb4,hb5,hb6⟩:=I';have hN:=hd.N;have hB:=vP hd.B;have hA:=vP hd.A;have n1:=cw d.A;have D:=gp d.B;have R:=nT d.N 5 (by decide);have I:=XZ d;have H:=XV d;have G:=XW d;have h5:=XX d;have h6:=XY d;have h7:=Wy d;have h1:=X0 d;have l0:=yu d;have r0:=ia d;have o0:=LD d;have okd:=iB d hd;clear hd;obtain⟨V,⟨S,O,M⟩,⟨Z,X,W⟩,N,⟨J,z,u,m⟩⟩:=d;simp only at hk hN hB hA n1 D R I H G h5 h6 h7 h1 ⊢;simp only[Int.cast_ofNat_Int] at R;unfold Ak at hN;obtain⟨hB1,hB2,hB3⟩:=hB;simp only at hB1 hB2 hB3;have wN:IntKind.i64.wrap N=N:=bV (by omega) (by omega);have wB1:IntKind.i64.wrap Z=Z:=bV (by omega) (by omega);have wB2:IntKind.i64.wrap X=X:=bV (by omega) (by omega);have wB3:IntKind.i64.wrap W=W:=bV (by omega) (by omega);have hkt:((V:Nat):Int).tmod 5=0:=by have:((V:Nat):Int).tmod 5=((V%5:Nat):Int):=rfl;rw[this,hk];rfl
 obtain⟨⟨nx,ny,nz⟩,e1⟩:∃v,v=bN (S,O,M):=⟨_,rfl⟩
 rw[←e1] at n1;have e2:tz (Z,X,W)=(Z.tmod 3,X.tmod 3,W.tmod 3):=rfl;rw[e2] at D;obtain⟨o,ho⟩:=xE (N.tmod 5);rw[←ho] at R;have go:o.natAbs<100000000:=by omega
 have gi:i<100000000:=by omega
 obtain⟨bx,hbx⟩:=xE (Z.tmod 3);obtain⟨F,hby⟩:=xE (X.tmod 3);obtain⟨bz,hbz⟩:=xE (W.tmod 3);rw[←hbx,←hby,←hbz] at D e2;obtain⟨g1,g2,g3⟩:=D;simp only at g1 g2 g3;have g1' :bx.natAbs≤10000:=by omega
 have g2' :F.natAbs≤10000:=by omega
 have g3' :bz.natAbs≤10000:=by omega
 have m2:fq 2 (bx,F,bz):=⟨g1,g2,g3⟩;obtain⟨C,hC⟩:=xE (ae6.cells ⟨V,(S,O,M),(Z,X,W),N,(J,z,u,m)⟩);rw[←hC] at I H G h5 h6 h7 h1 l0 r0 o0;have hC' :ae6.cells ⟨V,(S,O,M),(Z,X,W),N,(J,z,u,m)⟩=C:=hC.symm;have tk:C.take 12=C:=List.take_of_length_le (by omega);have j8:∀h,C[8]'h=_:=gE I
 have j0:∀h,C[0]'h=_:=gE H
 have j4:∀h,C[4]'h=_:=gE G
 have j5:∀h,C[5]'h=_:=gE h5
 have j6:∀h,C[6]'h=_:=gE h6
 have j7:∀h,C[7]'h=_:=gE h7
 have hp:=ij;have u12:IntKind.i64.wrap (1+1)=2:=rfl;have u13:IntKind.i64.wrap (1+2)=3:=rfl;have u14:IntKind.i64.wrap (1+3)=4:=rfl;have u15:IntKind.i64.wrap (1+4)=5:=rfl;have hip:=fX (n:=(i:Int)) (by omega);have abx :(zS (i:Int)).length+1≤9223372036854775807:=by unfold zS;omega
 have aaH:1+(zS (i:Int)).length≤9223372036854775807:=by omega
 have hi3:(i:Int)<6:=by omega
 have J3:J%3=0:=hJ;have h:aa (aN prog) (fun _=>[]) (aK prog) (dQ ⟨V,(S,O,M),(Z,X,W),N,(J,z,u,m)⟩) 1 28 [.agg [.slice 0 0 n none,.slice 1 0 k none],.agg C,.int .i64 i] [.aeP,.aeP]=some ⟨(.agg (bf (bO i) (.slice 2 0 n none) (.slice 3 0 1 none) .y9)),none,(iT 2 ⟨V,(S,O,M),(Z,X,W),N,(J,z,u,m)⟩ n i 0)⟩:=by simp[aa,agv,f28,dQ,af,dm,zA,l0,j0,j7,h1,hA,←e1,hC',tk,hkt,wN,←ho,go,gi,w0,w1,aaH,gv,bW,aE,-aB,cK Z9,cK Y, jD,pr,CL,mK,bR,oM,bef,agw,agx, Nat.testBit,J3,bf,bO,RF,iT,jB,gq,fj,bE,hn,hl,hi3,List.idxOf?_cons]
 have:=(ah ae (ar _) okd (au _) h).1;rw[←hC];simpa [aeQ.mem] using this
theorem Aw(hk:d.kind%5=0)(hJ:d.K.1%3=1):
  kO prog 28 [.agg [.slice 0 0 n none,.slice 1 0 k none],.agg d.cells,.int .i64 i] [.aeP,.aeP] (.agg (bf (bO i) (.slice 2 0 n none) (.slice 3 0 2 none) (.slice 4 0 1 none))) ([.aeP,.aeP]++(iT 2 d n i 1)):=by
 obtain⟨os,j⟩:∃os,aC f28=os:=⟨_,rfl⟩
 have I':=be j (ls:=[[0,0,2,6,14,30,63,0,255],[0,1,3,7,15,0,32,96,255,0,1023],[0,0,0,4,12,28,60,0,128,384,896,1920,0,4096,12288,28672,61440,131068,262142,524287,1048575,2097151],[0,0,0,4,12,28,60,0,128,384,896,1920,0,4096,12288,28672,61440,131068,262142,524287,1048575,2097151],[0,1,3,0,8,24,56,0,128,504,1016,0,0,6144,14336,30720,63488,129024,0,262144,786432,1835008,3932160,8126464,16777208,33554424,67108856,134217727,268435455,536870911,1073741823],[0,0,2,6,14,30,62,126,0,510,1022,2047,4095,8191],[0,0,0,0,0,0,63,0,128,384,896,2047,4095,0,8192,24576,57344,122880,0,262144,786432,1835008,3932160,0,8388608,25165824,58720256,125829120,268427264,536870911,1073741823,2147483647]]) (by kernel_rfl);simp only[aC,bn,f28,lA] at j;subst j;simp only[lB] at I';obtain⟨Z9,Y,hb2,hb3,hb4,hb5,hb6⟩:=I';have hN:=hd.N;have hB:=vP hd.B;have hA:=vP hd.A;have n1:=cw d.A;have D:=gp d.B;have R:=nT d.N 5 (by decide);have I:=XZ d;have H:=XV d;have G:=XW d;have h5:=XX d;have h6:=XY d;have h7:=Wy d;have h1:=X0 d;have l0:=yu d;have r0:=ia d;have o0:=LD d;have okd:=iB d hd;clear hd;obtain⟨V,⟨S,O,M⟩,⟨Z,X,W⟩,N,⟨J,z,u,m⟩⟩:=d;simp only at hk hN hB hA n1 D R I H G h5 h6 h7 h1 ⊢;simp only[Int.cast_ofNat_Int] at R;unfold Ak at hN;obtain⟨hB1,hB2,hB3⟩:=hB;simp only at hB1 hB2 hB3;have wN:IntKind.i64.wrap N=N:=bV (by omega) (by omega);have wB1:IntKind.i64.wrap Z=Z:=bV (by omega) (by omega);have wB2:IntKind.i64.wrap X=X:=bV (by omega) (by omega);have wB3:IntKind.i64.wrap W=W:=bV (by omega) (by omega);have hkt:((V:Nat):Int).tmod 5=0:=by have:((V:Nat):Int).tmod 5=((V%5:Nat):Int):=rfl;rw[this,hk];rfl
 obtain⟨⟨nx,ny,nz⟩,e1⟩:∃v,v=bN (S,O,M):=⟨_,rfl⟩
 rw[←e1] at n1;have e2:tz (Z,X,W)=(Z.tmod 3,X.tmod 3,W.tmod 3):=rfl;rw[e2] at D;obtain⟨o,ho⟩:=xE (N.tmod 5);rw[←ho] at R;have go:o.natAbs<100000000:=by omega
 have gi:i<100000000:=by omega
 obtain⟨bx,hbx⟩:=xE (Z.tmod 3);obtain⟨F,hby⟩:=xE (X.tmod 3);obtain⟨bz,hbz⟩:=xE (W.tmod 3);rw[←hbx,←hby,←hbz] at D e2;obtain⟨g1,g2,g3⟩:=D;simp only at g1 g2 g3;have g1' :bx.natAbs≤10000:=by omega
 have g2' :F.natAbs≤10000:=by omega
 have g3' :bz.natAbs≤10000:=by omega
 have m2:fq 2 (bx,F,bz):=⟨g1,g2,g3⟩;obtain⟨C,hC⟩:=xE (ae6.cells ⟨V,(S,O,M),(Z,X,W),N,(J,z,u,m)⟩);rw[←hC] at I H G h5 h6 h7 h1 l0 r0 o0;have hC' :ae6.cells ⟨V,(S,O,M),(Z,X,W),N,(J,z,u,m)⟩=C:=hC.symm;have tk:C.take 12=C:=List.take_of_length_le (by omega);have j8:∀h,C[8]'h=_:=gE I
 have j0:∀h,C[0]'h=_:=gE H
 have j4:∀h,C[4]'h=_:=gE G
 have j5:∀h,C[5]'h=_:=gE h5
 have j6:∀h,C[6]'h=_:=gE h6
 have j7:∀h,C[7]'h=_:=gE h7
 have hp:=ij;have u12:IntKind.i64.wrap (1+1)=2:=rfl;have u13:IntKind.i64.wrap (1+2)=3:=rfl;have u14:IntKind.i64.wrap (1+3)=4:=rfl;have u15:IntKind.i64.wrap (1+4)=5:=rfl;have hip:=fX (n:=(i:Int)) (by omega);have abx :(zS (i:Int)).length+1≤9223372036854775807:=by unfold zS;omega
 have aaH:1+(zS (i:Int)).length≤9223372036854775807:=by omega
 have hi3:(i:Int)<6:=by omega
 have J3:J%3=1:=hJ;have h:aa (aN prog) (fun _=>[]) (aK prog) (dQ ⟨V,(S,O,M),(Z,X,W),N,(J,z,u,m)⟩) 1 28 [.agg [.slice 0 0 n none,.slice 1 0 k none],.agg C,.int .i64 i] [.aeP,.aeP]=some ⟨(.agg (bf (bO i) (.slice 2 0 n none) (.slice 3 0 2 none) (.slice 4 0 1 none))),none,(iT 2 ⟨V,(S,O,M),(Z,X,W),N,(J,z,u,m)⟩ n i 1)⟩:=by simp[aa,agv,f28,dQ,af,dm,zA,l0,j0,j7,h1,hA,←e1,hC',tk,hkt,wN,←ho,go,gi,w0,w1,aaH,gv,bW,aE,-aB,cK Z9,cK Y, jD,pr,CL,mK,bR,oM,bef,agw,agx, Nat.testBit,J3,bf,bO,RF,iT,jB,gq,fj,bE,hn,hl,hi3,List.idxOf?_cons]
 have:=(ah ae (ar _) okd (au _) h).1;rw[←hC];simpa [aeQ.mem] using this
theorem Ax(hk:d.kind%5=0)(hJ:d.K.1%3=2):
  kO prog 28 [.agg [.slice 0 0 n none,.slice 1 0 k none],.agg d.cells,.int .i64 i] [.aeP,.aeP] (.agg (bf (bO i) (.slice 2 0 n none) (.slice 3 0 3 none) (.slice 4 0 2 none))) ([.aeP,.aeP]++(iT 2 d n i 2)):=by
 obtain⟨os,j⟩:∃os,aC f28=os:=⟨_,rfl⟩
 have I':=be j (ls:=[[0,0,2,6,14,30,63,0,255],[0,1,3,7,15,0,32,96,255,0,1023],[0,0,0,4,12,28,60,0,128,384,896,1920,0,4096,12288,28672,61440,131068,262142,524287,1048575,2097151],[0,0,0,4,12,28,60,0,128,384,896,1920,0,4096,12288,28672,61440,131068,262142,524287,1048575,2097151],[0,1,3,0,8,24,56,0,128,504,1016,0,0,6144,14336,30720,63488,129024,0,262144,786432,1835008,3932160,8126464,16777208,33554424,67108856,134217727,268435455,536870911,1073741823],[0,0,2,6,14,30,62,126,0,510,1022,2047,4095,8191],[0,0,0,0,0,0,63,0,128,384,896,2047,4095,0,8192,24576,57344,122880,0,262144,786432,1835008,3932160,0,8388608,25165824,58720256,125829120,268427264,536870911,1073741823,2147483647]]) (by kernel_rfl);simp only[aC,bn,f28,lA] at j;subst j;simp only[lB] at I';obtain⟨Z9,Y,hb2,hb3,hb4,hb5,hb6⟩:=I';have hN:=hd.N;have hB:=vP hd.B;have hA:=vP hd.A;have n1:=cw d.A;have D:=gp d.B;have R:=nT d.N 5 (by decide);have I:=XZ d;have H:=XV d;have G:=XW d;have h5:=XX d;have h6:=XY d;have h7:=Wy d;have h1:=X0 d;have l0:=yu d;have r0:=ia d;have o0:=LD d;have okd:=iB d hd;clear hd;obtain⟨V,⟨S,O,M⟩,⟨Z,X,W⟩,N,⟨J,z,u,m⟩⟩:=d;simp only at hk hN hB hA n1 D R I H G h5 h6 h7 h1 ⊢;simp only[Int.cast_ofNat_Int] at R;unfold Ak at hN;obtain⟨hB1,hB2,hB3⟩:=hB;simp only at hB1 hB2 hB3;have wN:IntKind.i64.wrap N=N:=bV (by omega) (by omega);have wB1:IntKind.i64.wrap Z=Z:=bV (by omega) (by omega);have wB2:IntKind.i64.wrap X=X:=bV (by omega) (by omega);have wB3:IntKind.i64.wrap W=W:=bV (by omega) (by omega);have hkt:((V:Nat):Int).tmod 5=0:=by have:((V:Nat):Int).tmod 5=((V%5:Nat):Int):=rfl;rw[this,hk];rfl
 obtain⟨⟨nx,ny,nz⟩,e1⟩:∃v,v=bN (S,O,M):=⟨_,rfl⟩
 rw[←e1] at n1;have e2:tz (Z,X,W)=(Z.tmod 3,X.tmod 3,W.tmod 3):=rfl;rw[e2] at D;obtain⟨o,ho⟩:=xE (N.tmod 5);rw[←ho] at R;have go:o.natAbs<100000000:=by omega
 have gi:i<100000000:=by omega
 obtain⟨bx,hbx⟩:=xE (Z.tmod 3);obtain⟨F,hby⟩:=xE (X.tmod 3);obtain⟨bz,hbz⟩:=xE (W.tmod 3);rw[←hbx,←hby,←hbz] at D e2;obtain⟨g1,g2,g3⟩:=D;simp only at g1 g2 g3;have g1' :bx.natAbs≤10000:=by omega
 have g2' :F.natAbs≤10000:=by omega
 have g3' :bz.natAbs≤10000:=by omega
 have m2:fq 2 (bx,F,bz):=⟨g1,g2,g3⟩;obtain⟨C,hC⟩:=xE (ae6.cells ⟨V,(S,O,M),(Z,X,W),N,(J,z,u,m)⟩);rw[←hC] at I H G h5 h6 h7 h1 l0 r0 o0;have hC' :ae6.cells ⟨V,(S,O,M),(Z,X,W),N,(J,z,u,m)⟩=C:=hC.symm;have tk:C.take 12=C:=List.take_of_length_le (by omega);have j8:∀h,C[8]'h=_:=gE I
 have j0:∀h,C[0]'h=_:=gE H
 have j4:∀h,C[4]'h=_:=gE G
 have j5:∀h,C[5]'h=_:=gE h5
 have j6:∀h,C[6]'h=_:=gE h6
 have j7:∀h,C[7]'h=_:=gE h7
 have hp:=ij;have u12:IntKind.i64.wrap (1+1)=2:=rfl;have u13:IntKind.i64.wrap (1+2)=3:=rfl;have u14:IntKind.i64.wrap (1+3)=4:=rfl;have u15:IntKind.i64.wrap (1+4)=5:=rfl;have hip:=fX (n:=(i:Int)) (by omega);have abx :(zS (i:Int)).length+1≤9223372036854775807:=by unfold zS;omega
 have aaH:1+(zS (i:Int)).length≤9223372036854775807:=by omega
 have hi3:(i:Int)<6:=by omega
 have J3:J%3=2:=hJ;have h:aa (aN prog) (fun _=>[]) (aK prog) (dQ ⟨V,(S,O,M),(Z,X,W),N,(J,z,u,m)⟩) 1 28 [.agg [.slice 0 0 n none,.slice 1 0 k none],.agg C,.int .i64 i] [.aeP,.aeP]=some ⟨(.agg (bf (bO i) (.slice 2 0 n none) (.slice 3 0 3 none) (.slice 4 0 2 none))),none,(iT 2 ⟨V,(S,O,M),(Z,X,W),N,(J,z,u,m)⟩ n i 2)⟩:=by simp[aa,agv,f28,dQ,af,dm,zA,l0,j0,j7,h1,hA,←e1,hC',tk,hkt,wN,←ho,go,gi,w0,w1,aaH,gv,bW,aE,-aB,cK Z9,cK Y, jD,pr,CL,mK,bR,oM,bef,agw,agx, Nat.testBit,J3,bf,bO,RF,iT,jB,gq,fj,bE,hn,hl,hi3,List.idxOf?_cons]
 have:=(ah ae (ar _) okd (au _) h).1;rw[←hC];simpa [aeQ.mem] using this
end
end Go.Proofs
