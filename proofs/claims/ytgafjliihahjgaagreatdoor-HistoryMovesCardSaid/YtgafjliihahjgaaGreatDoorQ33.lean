/- See Q54. -/
import Derived.Test.YtgafjliihahjgaaGreatDoorQ22
set_option linter.all false
namespace Go.Proofs
open Go.Eng
set_option maxRecDepth 8192 in
set_option maxHeartbeats 12800000 in
theorem xw(d:Deed) (hd:d.Ok) (n k i:Nat) (hi:i<6) (hn:0<n) (hl:n≤1000) (hk:d.kind%5=3):
  ACallsTo Tryz.prog 28 [.agg [.slice 0 0 n none,.slice 1 0 k none],.agg d.cells,.int .i64 i] [.absent,.absent] (.agg (db (bA i) (bw d.A) (d.N.tmod 5) (1+(d.K.1%4:Nat)) (gj i))) ([.absent,.absent]++[]):=by
 have hG:aL Tryz.prog 28=some Tryz.f28:=by kernel_rfl
 obtain⟨os,hops⟩:∃os,aE Tryz.f28=os:=⟨_,rfl⟩
 have hbs:=br hops (ls:=[[0,0,2,6,14,30,63,0,255],[0,1,3,7,15,0,32,96,255,0,1023],[0,0,0,4,12,28,60,0,128,384,896,1920,0,4096,12288,28672,61440,131068,262142,524287,1048575,2097151],[0,0,0,4,12,28,60,0,128,384,896,1920,0,4096,12288,28672,61440,131068,262142,524287,1048575,2097151],[0,1,3,0,8,24,56,0,128,504,1016,0,0,6144,14336,30720,63488,129024,0,262144,786432,1835008,3932160,8126464,16777208,33554424,67108856,134217727,268435455,536870911,1073741823],[0,0,2,6,14,30,62,126,0,510,1022,2047,4095,8191],[0,0,0,0,0,0,63,0,128,384,896,2047,4095,0,8192,24576,57344,122880,0,262144,786432,1835008,3932160,0,8388608,25165824,58720256,125829120,268427264,536870911,1073741823,2147483647]]) (by kernel_rfl);simp only[aE,bC,Tryz.f28,List.nil_append,List.append_nil,List.cons_append] at hops;subst hops;simp only[List.map_cons,List.map_nil,List.cons.injEq,and_true] at hbs;obtain⟨hb0,hb1,hb2,hb3,hb4,hb5,hb6⟩:=hbs;have a08:aN [0,0,2,6,14,30,63,0,255] 8=true:=by decide
 have a110:aN [0,1,3,7,15,0,32,96,255,0,1023] 10=true:=by decide
 have a221:aN [0,0,0,4,12,28,60,0,128,384,896,1920,0,4096,12288,28672,61440,131068,262142,524287,1048575,2097151] 21=true:=by decide
 have a513:aN [0,0,2,6,14,30,62,126,0,510,1022,2047,4095,8191] 13=true:=by decide
 have a631:aN [0,0,0,0,0,0,63,0,128,384,896,2047,4095,0,8192,24576,57344,122880,0,262144,786432,1835008,3932160,0,8388608,25165824,58720256,125829120,268427264,536870911,1073741823,2147483647] 31=true:=by decide
 have hN:=hd.N;have hB:=sG hd.B;have hA:=sG hd.A;have n1:=bR d.A;have m1:=fl d.B;have q3:=lQ d.N 5 (by decide);have h8:=Sb d;have h0:=R7 d;have h4:=R8 d;have h5:=R9 d;have h6:=Sa d;have h7:=Q7 d;have h1:=Sc d;have l0:=u6 d;have r0:=fV d;have o0:=Hr d;have okd:=gn d hd;clear hd;obtain⟨kd,⟨A1,A2,A3⟩,⟨B1,B2,B3⟩,N,⟨K1,K2,K3,K4⟩⟩:=d;simp only at hk hN hB hA n1 m1 q3 h8 h0 h4 h5 h6 h7 h1 ⊢;simp only[Int.cast_ofNat_Int] at q3;unfold xh at hN;obtain⟨hB1,hB2,hB3⟩:=hB;simp only at hB1 hB2 hB3;have wN:IntKind.i64.wrap N=N:=bF (by omega) (by omega);have wB1:IntKind.i64.wrap B1=B1:=bF (by omega) (by omega);have wB2:IntKind.i64.wrap B2=B2:=bF (by omega) (by omega);have wB3:IntKind.i64.wrap B3=B3:=bF (by omega) (by omega);have hkt:((kd:Nat):Int).tmod 5=3:=by have:((kd:Nat):Int).tmod 5=((kd%5:Nat):Int):=rfl;rw[this,hk];rfl
 obtain⟨⟨nx,ny,nz⟩,e1⟩:∃v,v=bw (A1,A2,A3):=⟨_,rfl⟩
 rw[←e1] at n1;have e2:qc (B1,B2,B3)=(B1.tmod 3,B2.tmod 3,B3.tmod 3):=rfl;rw[e2] at m1;obtain⟨o,ho⟩:∃o,o=N.tmod 5:=⟨_,rfl⟩
 rw[←ho] at q3;have go:o.natAbs<100000000:=by omega
 have gi:i<100000000:=by omega
 obtain⟨bx,hbx⟩:∃o,o=B1.tmod 3:=⟨_,rfl⟩
 obtain⟨by',hby⟩:∃o,o=B2.tmod 3:=⟨_,rfl⟩
 obtain⟨bz,hbz⟩:∃o,o=B3.tmod 3:=⟨_,rfl⟩
 rw[←hbx,←hby,←hbz] at m1 e2;obtain⟨g1,g2,g3⟩:=m1;simp only at g1 g2 g3;have g1' :bx.natAbs≤10000:=by omega
 have g2' :by'.natAbs≤10000:=by omega
 have g3' :bz.natAbs≤10000:=by omega
 have m2:dO 2 (bx,by',bz):=⟨g1,g2,g3⟩;obtain⟨C,hC⟩:∃C,C=Deed.cells ⟨kd,(A1,A2,A3),(B1,B2,B3),N,(K1,K2,K3,K4)⟩:=⟨_,rfl⟩
 rw[←hC] at h8 h0 h4 h5 h6 h7 h1 l0 r0 o0;have hC' :Deed.cells ⟨kd,(A1,A2,A3),(B1,B2,B3),N,(K1,K2,K3,K4)⟩=C:=hC.symm;have tk:C.take 12=C:=List.take_of_length_le (by omega);have j8:∀h,C[8]'h=_:=fun h=>Option.some.inj ((List.getElem?_eq_getElem h).symm.trans h8)
 have j0:∀h,C[0]'h=_:=fun h=>Option.some.inj ((List.getElem?_eq_getElem h).symm.trans h0)
 have j4:∀h,C[4]'h=_:=fun h=>Option.some.inj ((List.getElem?_eq_getElem h).symm.trans h4)
 have j5:∀h,C[5]'h=_:=fun h=>Option.some.inj ((List.getElem?_eq_getElem h).symm.trans h5)
 have j6:∀h,C[6]'h=_:=fun h=>Option.some.inj ((List.getElem?_eq_getElem h).symm.trans h6)
 have j7:∀h,C[7]'h=_:=fun h=>Option.some.inj ((List.getElem?_eq_getElem h).symm.trans h7)
 have hp:=fX;have w1:IntKind.i64.wrap 1=1:=rfl;have w2:IntKind.i64.wrap 2=2:=rfl;have w3:IntKind.i64.wrap 3=3:=rfl;have w4:IntKind.i64.wrap 4=4:=rfl;have w5:IntKind.i64.wrap 5=5:=rfl;have w0:IntKind.i64.wrap 0=0:=rfl;have u12:IntKind.i64.wrap (1+1)=2:=rfl;have u13:IntKind.i64.wrap (1+2)=3:=rfl;have u14:IntKind.i64.wrap (1+3)=4:=rfl;have u15:IntKind.i64.wrap (1+4)=5:=rfl;have hip:=eW (n:=(i:Int)) (by omega);have hip' :(zS (i:Int)).length+1≤9223372036854775807:=by unfold zS;omega
 have hip2:1+(zS (i:Int)).length≤9223372036854775807:=by omega
 have h:aa (aM Tryz.prog) (fun _=>[]) (aL Tryz.prog) (cX ⟨kd,(A1,A2,A3),(B1,B2,B3),N,(K1,K2,K3,K4)⟩) 1 28 [.agg [.slice 0 0 n none,.slice 1 0 k none],.agg C,.int .i64 i] [.absent,.absent]=some ⟨(.agg (db (bA i) (bw (A1,A2,A3)) (N.tmod 5) (1+(K1%4:Nat)) (gj i))),none,[]⟩:=by
  rw[←e1,←ho];have t4:((K1:Nat):Int).tmod 4=((K1%4:Nat):Int):=rfl;have x4:K1%4<4:=Nat.mod_lt _ (by decide);obtain⟨x,hx⟩:∃x,x=K1%4:=⟨_,rfl⟩
  rw[←hx] at t4 x4 ⊢;have y0:IntKind.i64.wrap (x:Int)=(x:Int):=bF (by omega) (by omega);have y1:IntKind.i64.wrap (1+(x:Int))=1+(x:Int):=bF (by omega) (by omega);have y2:(1+(x:Int)).natAbs<100000000:=by omega
  have eQ:∀z:Int,mkRat z 2=hQ z:=fun _=>rfl
  simp[aa,hG,Tryz.f28,cX,af,cC,zA,l0,j8,j0,j7,h1,hA,←e1,hkt,wN,←ho,go,gi,w3,w4,hip2,fx,bO,aH,-aD,bX hb0,bX hb1,bX hb5,iB,ni,zG,kI,cj,mF,bef,a08,a110,a513,Nat.testBit,t4,y0,y1,y2,eQ,db,bA,gj]
 have:=(al ae (aw _) okd (az _) h).1;rw[←hC];simpa [CallRes.mem] using this
set_option maxRecDepth 8192 in
set_option maxHeartbeats 12800000 in
theorem xy(d:Deed) (hd:d.Ok) (n k i:Nat) (hi:i<6) (hn:0<n) (hl:n≤1000) (hk:d.kind%5=4):
  ACallsTo Tryz.prog 28 [.agg [.slice 0 0 n none,.slice 1 0 k none],.agg d.cells,.int .i64 i] [.absent,.absent] (.agg (cx (bA i) (bn (d.K.1%6)) (qc d.B))) ([.absent,.absent]++[]):=by
 have hG:aL Tryz.prog 28=some Tryz.f28:=by kernel_rfl
 obtain⟨os,hops⟩:∃os,aE Tryz.f28=os:=⟨_,rfl⟩
 have hbs:=br hops (ls:=[[0,0,2,6,14,30,63,0,255],[0,1,3,7,15,0,32,96,255,0,1023],[0,0,0,4,12,28,60,0,128,384,896,1920,0,4096,12288,28672,61440,131068,262142,524287,1048575,2097151],[0,0,0,4,12,28,60,0,128,384,896,1920,0,4096,12288,28672,61440,131068,262142,524287,1048575,2097151],[0,1,3,0,8,24,56,0,128,504,1016,0,0,6144,14336,30720,63488,129024,0,262144,786432,1835008,3932160,8126464,16777208,33554424,67108856,134217727,268435455,536870911,1073741823],[0,0,2,6,14,30,62,126,0,510,1022,2047,4095,8191],[0,0,0,0,0,0,63,0,128,384,896,2047,4095,0,8192,24576,57344,122880,0,262144,786432,1835008,3932160,0,8388608,25165824,58720256,125829120,268427264,536870911,1073741823,2147483647]]) (by kernel_rfl);simp only[aE,bC,Tryz.f28,List.nil_append,List.append_nil,List.cons_append] at hops;subst hops;simp only[List.map_cons,List.map_nil,List.cons.injEq,and_true] at hbs;obtain⟨hb0,hb1,hb2,hb3,hb4,hb5,hb6⟩:=hbs;have a08:aN [0,0,2,6,14,30,63,0,255] 8=true:=by decide
 have a110:aN [0,1,3,7,15,0,32,96,255,0,1023] 10=true:=by decide
 have a221:aN [0,0,0,4,12,28,60,0,128,384,896,1920,0,4096,12288,28672,61440,131068,262142,524287,1048575,2097151] 21=true:=by decide
 have a513:aN [0,0,2,6,14,30,62,126,0,510,1022,2047,4095,8191] 13=true:=by decide
 have a631:aN [0,0,0,0,0,0,63,0,128,384,896,2047,4095,0,8192,24576,57344,122880,0,262144,786432,1835008,3932160,0,8388608,25165824,58720256,125829120,268427264,536870911,1073741823,2147483647] 31=true:=by decide
 have hN:=hd.N;have hB:=sG hd.B;have hA:=sG hd.A;have n1:=bR d.A;have m1:=fl d.B;have q3:=lQ d.N 5 (by decide);have h8:=Sb d;have h0:=R7 d;have h4:=R8 d;have h5:=R9 d;have h6:=Sa d;have h7:=Q7 d;have h1:=Sc d;have l0:=u6 d;have r0:=fV d;have o0:=Hr d;have okd:=gn d hd;clear hd;obtain⟨kd,⟨A1,A2,A3⟩,⟨B1,B2,B3⟩,N,⟨K1,K2,K3,K4⟩⟩:=d;simp only at hk hN hB hA n1 m1 q3 h8 h0 h4 h5 h6 h7 h1 ⊢;simp only[Int.cast_ofNat_Int] at q3;unfold xh at hN;obtain⟨hB1,hB2,hB3⟩:=hB;simp only at hB1 hB2 hB3;have wN:IntKind.i64.wrap N=N:=bF (by omega) (by omega);have wB1:IntKind.i64.wrap B1=B1:=bF (by omega) (by omega);have wB2:IntKind.i64.wrap B2=B2:=bF (by omega) (by omega);have wB3:IntKind.i64.wrap B3=B3:=bF (by omega) (by omega);have hkt:((kd:Nat):Int).tmod 5=4:=by have:((kd:Nat):Int).tmod 5=((kd%5:Nat):Int):=rfl;rw[this,hk];rfl
 obtain⟨⟨nx,ny,nz⟩,e1⟩:∃v,v=bw (A1,A2,A3):=⟨_,rfl⟩
 rw[←e1] at n1;have e2:qc (B1,B2,B3)=(B1.tmod 3,B2.tmod 3,B3.tmod 3):=rfl;rw[e2] at m1;obtain⟨o,ho⟩:∃o,o=N.tmod 5:=⟨_,rfl⟩
 rw[←ho] at q3;have go:o.natAbs<100000000:=by omega
 have gi:i<100000000:=by omega
 obtain⟨bx,hbx⟩:∃o,o=B1.tmod 3:=⟨_,rfl⟩
 obtain⟨by',hby⟩:∃o,o=B2.tmod 3:=⟨_,rfl⟩
 obtain⟨bz,hbz⟩:∃o,o=B3.tmod 3:=⟨_,rfl⟩
 rw[←hbx,←hby,←hbz] at m1 e2;obtain⟨g1,g2,g3⟩:=m1;simp only at g1 g2 g3;have g1' :bx.natAbs≤10000:=by omega
 have g2' :by'.natAbs≤10000:=by omega
 have g3' :bz.natAbs≤10000:=by omega
 have m2:dO 2 (bx,by',bz):=⟨g1,g2,g3⟩;obtain⟨C,hC⟩:∃C,C=Deed.cells ⟨kd,(A1,A2,A3),(B1,B2,B3),N,(K1,K2,K3,K4)⟩:=⟨_,rfl⟩
 rw[←hC] at h8 h0 h4 h5 h6 h7 h1 l0 r0 o0;have hC' :Deed.cells ⟨kd,(A1,A2,A3),(B1,B2,B3),N,(K1,K2,K3,K4)⟩=C:=hC.symm;have tk:C.take 12=C:=List.take_of_length_le (by omega);have j8:∀h,C[8]'h=_:=fun h=>Option.some.inj ((List.getElem?_eq_getElem h).symm.trans h8)
 have j0:∀h,C[0]'h=_:=fun h=>Option.some.inj ((List.getElem?_eq_getElem h).symm.trans h0)
 have j4:∀h,C[4]'h=_:=fun h=>Option.some.inj ((List.getElem?_eq_getElem h).symm.trans h4)
 have j5:∀h,C[5]'h=_:=fun h=>Option.some.inj ((List.getElem?_eq_getElem h).symm.trans h5)
 have j6:∀h,C[6]'h=_:=fun h=>Option.some.inj ((List.getElem?_eq_getElem h).symm.trans h6)
 have j7:∀h,C[7]'h=_:=fun h=>Option.some.inj ((List.getElem?_eq_getElem h).symm.trans h7)
 have hp:=fX;have w1:IntKind.i64.wrap 1=1:=rfl;have w2:IntKind.i64.wrap 2=2:=rfl;have w3:IntKind.i64.wrap 3=3:=rfl;have w4:IntKind.i64.wrap 4=4:=rfl;have w5:IntKind.i64.wrap 5=5:=rfl;have w0:IntKind.i64.wrap 0=0:=rfl;have u12:IntKind.i64.wrap (1+1)=2:=rfl;have u13:IntKind.i64.wrap (1+2)=3:=rfl;have u14:IntKind.i64.wrap (1+3)=4:=rfl;have u15:IntKind.i64.wrap (1+4)=5:=rfl;have hip:=eW (n:=(i:Int)) (by omega);have hip' :(zS (i:Int)).length+1≤9223372036854775807:=by unfold zS;omega
 have hip2:1+(zS (i:Int)).length≤9223372036854775807:=by omega
 have h:aa (aM Tryz.prog) (fun _=>[]) (aL Tryz.prog) (cX ⟨kd,(A1,A2,A3),(B1,B2,B3),N,(K1,K2,K3,K4)⟩) 1 28 [.agg [.slice 0 0 n none,.slice 1 0 k none],.agg C,.int .i64 i] [.absent,.absent]=some ⟨(.agg (cx (bA i) (bn (K1%6)) (qc (B1,B2,B3)))),none,[]⟩:=by
  rw[e2];have t6:((K1:Nat):Int).tmod 6=((K1%6:Nat):Int):=rfl;have x6:K1%6<6:=Nat.mod_lt _ (by decide);obtain⟨x,hx⟩:∃x,x=K1%6:=⟨_,rfl⟩
  rw[←hx] at t6 x6 ⊢;have y1:(List.drop (x*4) ([.int .i64 1,.int .i64 0,.int .i64 0,.int .i64 1,.int .i64 2,.int .i64 1,.int .i64 0,.int .i64 0,.int .i64 1,.int .i64 1,.int .i64 1,.int .i64 1,.int .i64 3,.int .i64 0,.int .i64 1,.int .i64 0,.int .i64 0,.int .i64 1,.int .i64 0,.int .i64 0,.int .i64 1,.int .i64 0,.int .i64 0,.int .i64 0]:List AV)).take 4=[.int .i64 (bn x).1,.int .i64 (bn x).2.1,.int .i64 (bn x).2.2.1,.int .i64 (bn x).2.2.2]:=by
   have:x=0∨x=1∨x=2∨x=3∨x=4∨x=5:=by omega
   rcases this with rfl | rfl | rfl | rfl | rfl | rfl<;>rfl
  have y2:x*4+4≤24:=by omega
  have y3:(x:Int)<6:=by omega
  have y4:x*4≤20:=by omega
  obtain⟨⟨ta,tb,tc,td⟩,hT⟩:∃t,t=bn x:=⟨_,rfl⟩
  rw[←hT] at y1 ⊢;simp only at y1;simp[aa,hG,Tryz.f28,cX,af,cC,zA,l0,j8,j0,j4,j5,j6,j7,h1,hA,←e1,hkt,wN,wB1,wB2,wB3,←ho,←hbx,←hby,←hbz,go,gi,g1',g2',g3',w4,w5,hip2,fx,bO,aH,-aD,bX hb0,bX hb1,bX hb6,iB,ni,zG,kI,cj,mF,bef,a08,a110,a631,Nat.testBit,t6,y1,y2,y3,cx,bA]
 have:=(al ae (aw _) okd (az _) h).1;rw[←hC];simpa [CallRes.mem] using this
set_option maxRecDepth 8192 in
set_option maxHeartbeats 12800000 in
theorem xt(d:Deed) (hd:d.Ok) (n k i:Nat) (hi:i<6) (hn:0<n) (hl:n≤1000) (hk:d.kind%5=0) (hJ:d.K.1%3=0):
  ACallsTo Tryz.prog 28 [.agg [.slice 0 0 n none,.slice 1 0 k none],.agg d.cells,.int .i64 i] [.absent,.absent] (.agg (aU (bA i) (.slice 2 0 n none) (.slice 3 0 1 none) .nilslice)) ([.absent,.absent]++(gH 2 d n i 0)):=by
 have hG:aL Tryz.prog 28=some Tryz.f28:=by kernel_rfl
 obtain⟨os,hops⟩:∃os,aE Tryz.f28=os:=⟨_,rfl⟩
 have hbs:=br hops (ls:=[[0,0,2,6,14,30,63,0,255],[0,1,3,7,15,0,32,96,255,0,1023],[0,0,0,4,12,28,60,0,128,384,896,1920,0,4096,12288,28672,61440,131068,262142,524287,1048575,2097151],[0,0,0,4,12,28,60,0,128,384,896,1920,0,4096,12288,28672,61440,131068,262142,524287,1048575,2097151],[0,1,3,0,8,24,56,0,128,504,1016,0,0,6144,14336,30720,63488,129024,0,262144,786432,1835008,3932160,8126464,16777208,33554424,67108856,134217727,268435455,536870911,1073741823],[0,0,2,6,14,30,62,126,0,510,1022,2047,4095,8191],[0,0,0,0,0,0,63,0,128,384,896,2047,4095,0,8192,24576,57344,122880,0,262144,786432,1835008,3932160,0,8388608,25165824,58720256,125829120,268427264,536870911,1073741823,2147483647]]) (by kernel_rfl);simp only[aE,bC,Tryz.f28,List.nil_append,List.append_nil,List.cons_append] at hops;subst hops;simp only[List.map_cons,List.map_nil,List.cons.injEq,and_true] at hbs;obtain⟨hb0,hb1,hb2,hb3,hb4,hb5,hb6⟩:=hbs;have a08:aN [0,0,2,6,14,30,63,0,255] 8=true:=by decide
 have a110:aN [0,1,3,7,15,0,32,96,255,0,1023] 10=true:=by decide
 have a221:aN [0,0,0,4,12,28,60,0,128,384,896,1920,0,4096,12288,28672,61440,131068,262142,524287,1048575,2097151] 21=true:=by decide
 have a513:aN [0,0,2,6,14,30,62,126,0,510,1022,2047,4095,8191] 13=true:=by decide
 have a631:aN [0,0,0,0,0,0,63,0,128,384,896,2047,4095,0,8192,24576,57344,122880,0,262144,786432,1835008,3932160,0,8388608,25165824,58720256,125829120,268427264,536870911,1073741823,2147483647] 31=true:=by decide
 have hN:=hd.N;have hB:=sG hd.B;have hA:=sG hd.A;have n1:=bR d.A;have m1:=fl d.B;have q3:=lQ d.N 5 (by decide);have h8:=Sb d;have h0:=R7 d;have h4:=R8 d;have h5:=R9 d;have h6:=Sa d;have h7:=Q7 d;have h1:=Sc d;have l0:=u6 d;have r0:=fV d;have o0:=Hr d;have okd:=gn d hd;clear hd;obtain⟨kd,⟨A1,A2,A3⟩,⟨B1,B2,B3⟩,N,⟨K1,K2,K3,K4⟩⟩:=d;simp only at hk hN hB hA n1 m1 q3 h8 h0 h4 h5 h6 h7 h1 ⊢;simp only[Int.cast_ofNat_Int] at q3;unfold xh at hN;obtain⟨hB1,hB2,hB3⟩:=hB;simp only at hB1 hB2 hB3;have wN:IntKind.i64.wrap N=N:=bF (by omega) (by omega);have wB1:IntKind.i64.wrap B1=B1:=bF (by omega) (by omega);have wB2:IntKind.i64.wrap B2=B2:=bF (by omega) (by omega);have wB3:IntKind.i64.wrap B3=B3:=bF (by omega) (by omega);have hkt:((kd:Nat):Int).tmod 5=0:=by have:((kd:Nat):Int).tmod 5=((kd%5:Nat):Int):=rfl;rw[this,hk];rfl
 obtain⟨⟨nx,ny,nz⟩,e1⟩:∃v,v=bw (A1,A2,A3):=⟨_,rfl⟩
 rw[←e1] at n1;have e2:qc (B1,B2,B3)=(B1.tmod 3,B2.tmod 3,B3.tmod 3):=rfl;rw[e2] at m1;obtain⟨o,ho⟩:∃o,o=N.tmod 5:=⟨_,rfl⟩
 rw[←ho] at q3;have go:o.natAbs<100000000:=by omega
 have gi:i<100000000:=by omega
 obtain⟨bx,hbx⟩:∃o,o=B1.tmod 3:=⟨_,rfl⟩
 obtain⟨by',hby⟩:∃o,o=B2.tmod 3:=⟨_,rfl⟩
 obtain⟨bz,hbz⟩:∃o,o=B3.tmod 3:=⟨_,rfl⟩
 rw[←hbx,←hby,←hbz] at m1 e2;obtain⟨g1,g2,g3⟩:=m1;simp only at g1 g2 g3;have g1' :bx.natAbs≤10000:=by omega
 have g2' :by'.natAbs≤10000:=by omega
 have g3' :bz.natAbs≤10000:=by omega
 have m2:dO 2 (bx,by',bz):=⟨g1,g2,g3⟩;obtain⟨C,hC⟩:∃C,C=Deed.cells ⟨kd,(A1,A2,A3),(B1,B2,B3),N,(K1,K2,K3,K4)⟩:=⟨_,rfl⟩
 rw[←hC] at h8 h0 h4 h5 h6 h7 h1 l0 r0 o0;have hC' :Deed.cells ⟨kd,(A1,A2,A3),(B1,B2,B3),N,(K1,K2,K3,K4)⟩=C:=hC.symm;have tk:C.take 12=C:=List.take_of_length_le (by omega);have j8:∀h,C[8]'h=_:=fun h=>Option.some.inj ((List.getElem?_eq_getElem h).symm.trans h8)
 have j0:∀h,C[0]'h=_:=fun h=>Option.some.inj ((List.getElem?_eq_getElem h).symm.trans h0)
 have j4:∀h,C[4]'h=_:=fun h=>Option.some.inj ((List.getElem?_eq_getElem h).symm.trans h4)
 have j5:∀h,C[5]'h=_:=fun h=>Option.some.inj ((List.getElem?_eq_getElem h).symm.trans h5)
 have j6:∀h,C[6]'h=_:=fun h=>Option.some.inj ((List.getElem?_eq_getElem h).symm.trans h6)
 have j7:∀h,C[7]'h=_:=fun h=>Option.some.inj ((List.getElem?_eq_getElem h).symm.trans h7)
 have hp:=fX;have w1:IntKind.i64.wrap 1=1:=rfl;have w2:IntKind.i64.wrap 2=2:=rfl;have w3:IntKind.i64.wrap 3=3:=rfl;have w4:IntKind.i64.wrap 4=4:=rfl;have w5:IntKind.i64.wrap 5=5:=rfl;have w0:IntKind.i64.wrap 0=0:=rfl;have u12:IntKind.i64.wrap (1+1)=2:=rfl;have u13:IntKind.i64.wrap (1+2)=3:=rfl;have u14:IntKind.i64.wrap (1+3)=4:=rfl;have u15:IntKind.i64.wrap (1+4)=5:=rfl;have hip:=eW (n:=(i:Int)) (by omega);have hip' :(zS (i:Int)).length+1≤9223372036854775807:=by unfold zS;omega
 have hip2:1+(zS (i:Int)).length≤9223372036854775807:=by omega
 have hi3:(i:Int)<6:=by omega
 have J3:K1%3=0:=hJ;have h:aa (aM Tryz.prog) (fun _=>[]) (aL Tryz.prog) (cX ⟨kd,(A1,A2,A3),(B1,B2,B3),N,(K1,K2,K3,K4)⟩) 1 28 [.agg [.slice 0 0 n none,.slice 1 0 k none],.agg C,.int .i64 i] [.absent,.absent]=some ⟨(.agg (aU (bA i) (.slice 2 0 n none) (.slice 3 0 1 none) .nilslice)),none,(gH 2 ⟨kd,(A1,A2,A3),(B1,B2,B3),N,(K1,K2,K3,K4)⟩ n i 0)⟩:=by simp[aa,hG,Tryz.f28,cX,af,cC,zA,l0,j0,j7,h1,hA,←e1,hC',tk,hkt,wN,←ho,go,gi,w0,w1,hip2,fx,bO,aH,-aD,bX hb0,bX hb1, iB,ni,zG,kI,cj,mF,bef,a08,a110, Nat.testBit,J3,aU,bA,MN,gH,iz,fm,dL,bj,hn,hl,hi3,List.idxOf?_cons]
 have:=(al ae (aw _) okd (az _) h).1;rw[←hC];simpa [CallRes.mem] using this
set_option maxRecDepth 8192 in
set_option maxHeartbeats 12800000 in
theorem xu(d:Deed) (hd:d.Ok) (n k i:Nat) (hi:i<6) (hn:0<n) (hl:n≤1000) (hk:d.kind%5=0) (hJ:d.K.1%3=1):
  ACallsTo Tryz.prog 28 [.agg [.slice 0 0 n none,.slice 1 0 k none],.agg d.cells,.int .i64 i] [.absent,.absent] (.agg (aU (bA i) (.slice 2 0 n none) (.slice 3 0 2 none) (.slice 4 0 1 none))) ([.absent,.absent]++(gH 2 d n i 1)):=by
 have hG:aL Tryz.prog 28=some Tryz.f28:=by kernel_rfl
 obtain⟨os,hops⟩:∃os,aE Tryz.f28=os:=⟨_,rfl⟩
 have hbs:=br hops (ls:=[[0,0,2,6,14,30,63,0,255],[0,1,3,7,15,0,32,96,255,0,1023],[0,0,0,4,12,28,60,0,128,384,896,1920,0,4096,12288,28672,61440,131068,262142,524287,1048575,2097151],[0,0,0,4,12,28,60,0,128,384,896,1920,0,4096,12288,28672,61440,131068,262142,524287,1048575,2097151],[0,1,3,0,8,24,56,0,128,504,1016,0,0,6144,14336,30720,63488,129024,0,262144,786432,1835008,3932160,8126464,16777208,33554424,67108856,134217727,268435455,536870911,1073741823],[0,0,2,6,14,30,62,126,0,510,1022,2047,4095,8191],[0,0,0,0,0,0,63,0,128,384,896,2047,4095,0,8192,24576,57344,122880,0,262144,786432,1835008,3932160,0,8388608,25165824,58720256,125829120,268427264,536870911,1073741823,2147483647]]) (by kernel_rfl);simp only[aE,bC,Tryz.f28,List.nil_append,List.append_nil,List.cons_append] at hops;subst hops;simp only[List.map_cons,List.map_nil,List.cons.injEq,and_true] at hbs;obtain⟨hb0,hb1,hb2,hb3,hb4,hb5,hb6⟩:=hbs;have a08:aN [0,0,2,6,14,30,63,0,255] 8=true:=by decide
 have a110:aN [0,1,3,7,15,0,32,96,255,0,1023] 10=true:=by decide
 have a221:aN [0,0,0,4,12,28,60,0,128,384,896,1920,0,4096,12288,28672,61440,131068,262142,524287,1048575,2097151] 21=true:=by decide
 have a513:aN [0,0,2,6,14,30,62,126,0,510,1022,2047,4095,8191] 13=true:=by decide
 have a631:aN [0,0,0,0,0,0,63,0,128,384,896,2047,4095,0,8192,24576,57344,122880,0,262144,786432,1835008,3932160,0,8388608,25165824,58720256,125829120,268427264,536870911,1073741823,2147483647] 31=true:=by decide
 have hN:=hd.N;have hB:=sG hd.B;have hA:=sG hd.A;have n1:=bR d.A;have m1:=fl d.B;have q3:=lQ d.N 5 (by decide);have h8:=Sb d;have h0:=R7 d;have h4:=R8 d;have h5:=R9 d;have h6:=Sa d;have h7:=Q7 d;have h1:=Sc d;have l0:=u6 d;have r0:=fV d;have o0:=Hr d;have okd:=gn d hd;clear hd;obtain⟨kd,⟨A1,A2,A3⟩,⟨B1,B2,B3⟩,N,⟨K1,K2,K3,K4⟩⟩:=d;simp only at hk hN hB hA n1 m1 q3 h8 h0 h4 h5 h6 h7 h1 ⊢;simp only[Int.cast_ofNat_Int] at q3;unfold xh at hN;obtain⟨hB1,hB2,hB3⟩:=hB;simp only at hB1 hB2 hB3;have wN:IntKind.i64.wrap N=N:=bF (by omega) (by omega);have wB1:IntKind.i64.wrap B1=B1:=bF (by omega) (by omega);have wB2:IntKind.i64.wrap B2=B2:=bF (by omega) (by omega);have wB3:IntKind.i64.wrap B3=B3:=bF (by omega) (by omega);have hkt:((kd:Nat):Int).tmod 5=0:=by have:((kd:Nat):Int).tmod 5=((kd%5:Nat):Int):=rfl;rw[this,hk];rfl
 obtain⟨⟨nx,ny,nz⟩,e1⟩:∃v,v=bw (A1,A2,A3):=⟨_,rfl⟩
 rw[←e1] at n1;have e2:qc (B1,B2,B3)=(B1.tmod 3,B2.tmod 3,B3.tmod 3):=rfl;rw[e2] at m1;obtain⟨o,ho⟩:∃o,o=N.tmod 5:=⟨_,rfl⟩
 rw[←ho] at q3;have go:o.natAbs<100000000:=by omega
 have gi:i<100000000:=by omega
 obtain⟨bx,hbx⟩:∃o,o=B1.tmod 3:=⟨_,rfl⟩
 obtain⟨by',hby⟩:∃o,o=B2.tmod 3:=⟨_,rfl⟩
 obtain⟨bz,hbz⟩:∃o,o=B3.tmod 3:=⟨_,rfl⟩
 rw[←hbx,←hby,←hbz] at m1 e2;obtain⟨g1,g2,g3⟩:=m1;simp only at g1 g2 g3;have g1' :bx.natAbs≤10000:=by omega
 have g2' :by'.natAbs≤10000:=by omega
 have g3' :bz.natAbs≤10000:=by omega
 have m2:dO 2 (bx,by',bz):=⟨g1,g2,g3⟩;obtain⟨C,hC⟩:∃C,C=Deed.cells ⟨kd,(A1,A2,A3),(B1,B2,B3),N,(K1,K2,K3,K4)⟩:=⟨_,rfl⟩
 rw[←hC] at h8 h0 h4 h5 h6 h7 h1 l0 r0 o0;have hC' :Deed.cells ⟨kd,(A1,A2,A3),(B1,B2,B3),N,(K1,K2,K3,K4)⟩=C:=hC.symm;have tk:C.take 12=C:=List.take_of_length_le (by omega);have j8:∀h,C[8]'h=_:=fun h=>Option.some.inj ((List.getElem?_eq_getElem h).symm.trans h8)
 have j0:∀h,C[0]'h=_:=fun h=>Option.some.inj ((List.getElem?_eq_getElem h).symm.trans h0)
 have j4:∀h,C[4]'h=_:=fun h=>Option.some.inj ((List.getElem?_eq_getElem h).symm.trans h4)
 have j5:∀h,C[5]'h=_:=fun h=>Option.some.inj ((List.getElem?_eq_getElem h).symm.trans h5)
 have j6:∀h,C[6]'h=_:=fun h=>Option.some.inj ((List.getElem?_eq_getElem h).symm.trans h6)
 have j7:∀h,C[7]'h=_:=fun h=>Option.some.inj ((List.getElem?_eq_getElem h).symm.trans h7)
 have hp:=fX;have w1:IntKind.i64.wrap 1=1:=rfl;have w2:IntKind.i64.wrap 2=2:=rfl;have w3:IntKind.i64.wrap 3=3:=rfl;have w4:IntKind.i64.wrap 4=4:=rfl;have w5:IntKind.i64.wrap 5=5:=rfl;have w0:IntKind.i64.wrap 0=0:=rfl;have u12:IntKind.i64.wrap (1+1)=2:=rfl;have u13:IntKind.i64.wrap (1+2)=3:=rfl;have u14:IntKind.i64.wrap (1+3)=4:=rfl;have u15:IntKind.i64.wrap (1+4)=5:=rfl;have hip:=eW (n:=(i:Int)) (by omega);have hip' :(zS (i:Int)).length+1≤9223372036854775807:=by unfold zS;omega
 have hip2:1+(zS (i:Int)).length≤9223372036854775807:=by omega
 have hi3:(i:Int)<6:=by omega
 have J3:K1%3=1:=hJ;have h:aa (aM Tryz.prog) (fun _=>[]) (aL Tryz.prog) (cX ⟨kd,(A1,A2,A3),(B1,B2,B3),N,(K1,K2,K3,K4)⟩) 1 28 [.agg [.slice 0 0 n none,.slice 1 0 k none],.agg C,.int .i64 i] [.absent,.absent]=some ⟨(.agg (aU (bA i) (.slice 2 0 n none) (.slice 3 0 2 none) (.slice 4 0 1 none))),none,(gH 2 ⟨kd,(A1,A2,A3),(B1,B2,B3),N,(K1,K2,K3,K4)⟩ n i 1)⟩:=by simp[aa,hG,Tryz.f28,cX,af,cC,zA,l0,j0,j7,h1,hA,←e1,hC',tk,hkt,wN,←ho,go,gi,w0,w1,hip2,fx,bO,aH,-aD,bX hb0,bX hb1, iB,ni,zG,kI,cj,mF,bef,a08,a110, Nat.testBit,J3,aU,bA,MN,gH,iz,fm,dL,bj,hn,hl,hi3,List.idxOf?_cons]
 have:=(al ae (aw _) okd (az _) h).1;rw[←hC];simpa [CallRes.mem] using this
set_option maxRecDepth 8192 in
set_option maxHeartbeats 12800000 in
theorem xv(d:Deed) (hd:d.Ok) (n k i:Nat) (hi:i<6) (hn:0<n) (hl:n≤1000) (hk:d.kind%5=0) (hJ:d.K.1%3=2):
  ACallsTo Tryz.prog 28 [.agg [.slice 0 0 n none,.slice 1 0 k none],.agg d.cells,.int .i64 i] [.absent,.absent] (.agg (aU (bA i) (.slice 2 0 n none) (.slice 3 0 3 none) (.slice 4 0 2 none))) ([.absent,.absent]++(gH 2 d n i 2)):=by
 have hG:aL Tryz.prog 28=some Tryz.f28:=by kernel_rfl
 obtain⟨os,hops⟩:∃os,aE Tryz.f28=os:=⟨_,rfl⟩
 have hbs:=br hops (ls:=[[0,0,2,6,14,30,63,0,255],[0,1,3,7,15,0,32,96,255,0,1023],[0,0,0,4,12,28,60,0,128,384,896,1920,0,4096,12288,28672,61440,131068,262142,524287,1048575,2097151],[0,0,0,4,12,28,60,0,128,384,896,1920,0,4096,12288,28672,61440,131068,262142,524287,1048575,2097151],[0,1,3,0,8,24,56,0,128,504,1016,0,0,6144,14336,30720,63488,129024,0,262144,786432,1835008,3932160,8126464,16777208,33554424,67108856,134217727,268435455,536870911,1073741823],[0,0,2,6,14,30,62,126,0,510,1022,2047,4095,8191],[0,0,0,0,0,0,63,0,128,384,896,2047,4095,0,8192,24576,57344,122880,0,262144,786432,1835008,3932160,0,8388608,25165824,58720256,125829120,268427264,536870911,1073741823,2147483647]]) (by kernel_rfl);simp only[aE,bC,Tryz.f28,List.nil_append,List.append_nil,List.cons_append] at hops;subst hops;simp only[List.map_cons,List.map_nil,List.cons.injEq,and_true] at hbs;obtain⟨hb0,hb1,hb2,hb3,hb4,hb5,hb6⟩:=hbs;have a08:aN [0,0,2,6,14,30,63,0,255] 8=true:=by decide
 have a110:aN [0,1,3,7,15,0,32,96,255,0,1023] 10=true:=by decide
 have a221:aN [0,0,0,4,12,28,60,0,128,384,896,1920,0,4096,12288,28672,61440,131068,262142,524287,1048575,2097151] 21=true:=by decide
 have a513:aN [0,0,2,6,14,30,62,126,0,510,1022,2047,4095,8191] 13=true:=by decide
 have a631:aN [0,0,0,0,0,0,63,0,128,384,896,2047,4095,0,8192,24576,57344,122880,0,262144,786432,1835008,3932160,0,8388608,25165824,58720256,125829120,268427264,536870911,1073741823,2147483647] 31=true:=by decide
 have hN:=hd.N;have hB:=sG hd.B;have hA:=sG hd.A;have n1:=bR d.A;have m1:=fl d.B;have q3:=lQ d.N 5 (by decide);have h8:=Sb d;have h0:=R7 d;have h4:=R8 d;have h5:=R9 d;have h6:=Sa d;have h7:=Q7 d;have h1:=Sc d;have l0:=u6 d;have r0:=fV d;have o0:=Hr d;have okd:=gn d hd;clear hd;obtain⟨kd,⟨A1,A2,A3⟩,⟨B1,B2,B3⟩,N,⟨K1,K2,K3,K4⟩⟩:=d;simp only at hk hN hB hA n1 m1 q3 h8 h0 h4 h5 h6 h7 h1 ⊢;simp only[Int.cast_ofNat_Int] at q3;unfold xh at hN;obtain⟨hB1,hB2,hB3⟩:=hB;simp only at hB1 hB2 hB3;have wN:IntKind.i64.wrap N=N:=bF (by omega) (by omega);have wB1:IntKind.i64.wrap B1=B1:=bF (by omega) (by omega);have wB2:IntKind.i64.wrap B2=B2:=bF (by omega) (by omega);have wB3:IntKind.i64.wrap B3=B3:=bF (by omega) (by omega);have hkt:((kd:Nat):Int).tmod 5=0:=by have:((kd:Nat):Int).tmod 5=((kd%5:Nat):Int):=rfl;rw[this,hk];rfl
 obtain⟨⟨nx,ny,nz⟩,e1⟩:∃v,v=bw (A1,A2,A3):=⟨_,rfl⟩
 rw[←e1] at n1;have e2:qc (B1,B2,B3)=(B1.tmod 3,B2.tmod 3,B3.tmod 3):=rfl;rw[e2] at m1;obtain⟨o,ho⟩:∃o,o=N.tmod 5:=⟨_,rfl⟩
 rw[←ho] at q3;have go:o.natAbs<100000000:=by omega
 have gi:i<100000000:=by omega
 obtain⟨bx,hbx⟩:∃o,o=B1.tmod 3:=⟨_,rfl⟩
 obtain⟨by',hby⟩:∃o,o=B2.tmod 3:=⟨_,rfl⟩
 obtain⟨bz,hbz⟩:∃o,o=B3.tmod 3:=⟨_,rfl⟩
 rw[←hbx,←hby,←hbz] at m1 e2;obtain⟨g1,g2,g3⟩:=m1;simp only at g1 g2 g3;have g1' :bx.natAbs≤10000:=by omega
 have g2' :by'.natAbs≤10000:=by omega
 have g3' :bz.natAbs≤10000:=by omega
 have m2:dO 2 (bx,by',bz):=⟨g1,g2,g3⟩;obtain⟨C,hC⟩:∃C,C=Deed.cells ⟨kd,(A1,A2,A3),(B1,B2,B3),N,(K1,K2,K3,K4)⟩:=⟨_,rfl⟩
 rw[←hC] at h8 h0 h4 h5 h6 h7 h1 l0 r0 o0;have hC' :Deed.cells ⟨kd,(A1,A2,A3),(B1,B2,B3),N,(K1,K2,K3,K4)⟩=C:=hC.symm;have tk:C.take 12=C:=List.take_of_length_le (by omega);have j8:∀h,C[8]'h=_:=fun h=>Option.some.inj ((List.getElem?_eq_getElem h).symm.trans h8)
 have j0:∀h,C[0]'h=_:=fun h=>Option.some.inj ((List.getElem?_eq_getElem h).symm.trans h0)
 have j4:∀h,C[4]'h=_:=fun h=>Option.some.inj ((List.getElem?_eq_getElem h).symm.trans h4)
 have j5:∀h,C[5]'h=_:=fun h=>Option.some.inj ((List.getElem?_eq_getElem h).symm.trans h5)
 have j6:∀h,C[6]'h=_:=fun h=>Option.some.inj ((List.getElem?_eq_getElem h).symm.trans h6)
 have j7:∀h,C[7]'h=_:=fun h=>Option.some.inj ((List.getElem?_eq_getElem h).symm.trans h7)
 have hp:=fX;have w1:IntKind.i64.wrap 1=1:=rfl;have w2:IntKind.i64.wrap 2=2:=rfl;have w3:IntKind.i64.wrap 3=3:=rfl;have w4:IntKind.i64.wrap 4=4:=rfl;have w5:IntKind.i64.wrap 5=5:=rfl;have w0:IntKind.i64.wrap 0=0:=rfl;have u12:IntKind.i64.wrap (1+1)=2:=rfl;have u13:IntKind.i64.wrap (1+2)=3:=rfl;have u14:IntKind.i64.wrap (1+3)=4:=rfl;have u15:IntKind.i64.wrap (1+4)=5:=rfl;have hip:=eW (n:=(i:Int)) (by omega);have hip' :(zS (i:Int)).length+1≤9223372036854775807:=by unfold zS;omega
 have hip2:1+(zS (i:Int)).length≤9223372036854775807:=by omega
 have hi3:(i:Int)<6:=by omega
 have J3:K1%3=2:=hJ;have h:aa (aM Tryz.prog) (fun _=>[]) (aL Tryz.prog) (cX ⟨kd,(A1,A2,A3),(B1,B2,B3),N,(K1,K2,K3,K4)⟩) 1 28 [.agg [.slice 0 0 n none,.slice 1 0 k none],.agg C,.int .i64 i] [.absent,.absent]=some ⟨(.agg (aU (bA i) (.slice 2 0 n none) (.slice 3 0 3 none) (.slice 4 0 2 none))),none,(gH 2 ⟨kd,(A1,A2,A3),(B1,B2,B3),N,(K1,K2,K3,K4)⟩ n i 2)⟩:=by simp[aa,hG,Tryz.f28,cX,af,cC,zA,l0,j0,j7,h1,hA,←e1,hC',tk,hkt,wN,←ho,go,gi,w0,w1,hip2,fx,bO,aH,-aD,bX hb0,bX hb1, iB,ni,zG,kI,cj,mF,bef,a08,a110, Nat.testBit,J3,aU,bA,MN,gH,iz,fm,dL,bj,hn,hl,hi3,List.idxOf?_cons]
 have:=(al ae (aw _) okd (az _) h).1;rw[←hC];simpa [CallRes.mem] using this
end Go.Proofs
