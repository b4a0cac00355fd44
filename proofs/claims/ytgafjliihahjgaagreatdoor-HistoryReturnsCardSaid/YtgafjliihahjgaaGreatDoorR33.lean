/- See R54. -/
import Derived.Test.YtgafjliihahjgaaGreatDoorR22
set_option linter.all false
set_option maxRecDepth 100000
set_option maxHeartbeats 40000000
namespace Go.Proofs
open Go.Eng
open Tryz
theorem af4:aT prog 28=some f28:=by kernel_rfl
theorem af5:aX [0,0,2,6,14,30,63,0,255] 8=true:=by decide
theorem af6:aX [0,1,3,7,15,0,32,96,255,0,1023] 10=true:=by decide
theorem ahs:aX [0,0,0,4,12,28,60,0,128,384,896,1920,0,4096,12288,28672,61440,131068,262142,524287,1048575,2097151] 21=true:=by decide
theorem ahg:aX [0,0,2,6,14,30,62,126,0,510,1022,2047,4095,8191] 13=true:=by decide
theorem ahh:aX [0,0,0,0,0,0,63,0,128,384,896,2047,4095,0,8192,24576,57344,122880,0,262144,786432,1835008,3932160,0,8388608,25165824,58720256,125829120,268427264,536870911,1073741823,2147483647] 31=true:=by decide
def af7:=bj (rfl:aG f28=_) (ls:=[[0,0,2,6,14,30,63,0,255],[0,1,3,7,15,0,32,96,255,0,1023],[0,0,0,4,12,28,60,0,128,384,896,1920,0,4096,12288,28672,61440,131068,262142,524287,1048575,2097151],[0,0,0,4,12,28,60,0,128,384,896,1920,0,4096,12288,28672,61440,131068,262142,524287,1048575,2097151],[0,1,3,0,8,24,56,0,128,504,1016,0,0,6144,14336,30720,63488,129024,0,262144,786432,1835008,3932160,8126464,16777208,33554424,67108856,134217727,268435455,536870911,1073741823],[0,0,2,6,14,30,62,126,0,510,1022,2047,4095,8191],[0,0,0,0,0,0,63,0,128,384,896,2047,4095,0,8192,24576,57344,122880,0,262144,786432,1835008,3932160,0,8388608,25165824,58720256,125829120,268427264,536870911,1073741823,2147483647]]) (by kernel_rfl)
section
variable (d:aeN)(hd:d.Ok)(n k i:Nat)(hi:i<6)(hn:0<n)(hl:n≤1000)
include d hd n k i hi hn hl
theorem zk(hk:d.kind%5=3):
  kF prog 28 [.agg [.slice 0 0 n none,.slice 1 0 k none],.agg d.cells,.int .i64 i] [.kO,.kO] (.agg (di (bH i) (bG d.A) (d.N.tmod 5) (1+(d.K.1%4:Nat)) (ig i))) ([.kO,.kO]++[]):=by
 have IR:=af7;simp only[aG,bF,f28,List.nil_append,List.append_nil,List.cons_append,List.map_cons,List.map_nil,List.cons.injEq,and_true] at IR;obtain⟨XY,hb1,Yl,ZP,hb4,hb5,hb6⟩:=IR;have hN:=hd.N;have hB:=uU hd.B;have hA:=uU hd.A;have n1:=bZ d.A;have m1:=gd d.B;have q3:=nv d.N 5 (by decide);have h8:=VS d;have h0:=VO d;have h4:=VP d;have h5:=VQ d;have h6:=VR d;have h7:=Uq d;have h1:=VT d;have l0:=xm d;have r0:=gR d;have o0:=JP d;have okd:=iq d hd;clear hd;obtain⟨kd,⟨A1,A2,A3⟩,⟨B1,B2,B3⟩,N,⟨K1,K2,K3,K4⟩⟩:=d;simp only at hk hN hB hA n1 m1 q3 h8 h0 h4 h5 h6 h7 h1 ⊢;simp only[Int.cast_ofNat_Int] at q3;unfold yY at hN;obtain⟨hB1,hB2,hB3⟩:=hB;simp only at hB1 hB2 hB3;have wN:IntKind.i64.wrap N=N:=bN (by omega) (by omega);have wB1:IntKind.i64.wrap B1=B1:=bN (by omega) (by omega);have wB2:IntKind.i64.wrap B2=B2:=bN (by omega) (by omega);have wB3:IntKind.i64.wrap B3=B3:=bN (by omega) (by omega);have ZX:((kd:Nat):Int).tmod 5=3:=by have:((kd:Nat):Int).tmod 5=((kd%5:Nat):Int):=rfl;rw[this,hk];rfl
 obtain⟨⟨nx,ny,nz⟩,e1⟩:∃v,v=bG (A1,A2,A3):=⟨_,rfl⟩
 rw[←e1] at n1;have e2:se (B1,B2,B3)=(B1.tmod 3,B2.tmod 3,B3.tmod 3):=rfl;rw[e2] at m1;obtain⟨o,ho⟩:∃o,o=N.tmod 5:=⟨_,rfl⟩
 rw[←ho] at q3;have go:o.natAbs<100000000:=by omega
 have gi:i<100000000:=by omega
 obtain⟨bx,ZQ⟩:∃o,o=B1.tmod 3:=⟨_,rfl⟩
 obtain⟨ZA,hby⟩:∃o,o=B2.tmod 3:=⟨_,rfl⟩
 obtain⟨bz,Zo⟩:∃o,o=B3.tmod 3:=⟨_,rfl⟩
 rw[←ZQ,←hby,←Zo] at m1 e2;obtain⟨g1,g2,g3⟩:=m1;simp only at g1 g2 g3;have g1' :bx.natAbs≤10000:=by omega
 have g2' :ZA.natAbs≤10000:=by omega
 have g3' :bz.natAbs≤10000:=by omega
 have m2:eS 2 (bx,ZA,bz):=⟨g1,g2,g3⟩;obtain⟨C,hC⟩:∃C,C=aeN.cells ⟨kd,(A1,A2,A3),(B1,B2,B3),N,(K1,K2,K3,K4)⟩:=⟨_,rfl⟩
 rw[←hC] at h8 h0 h4 h5 h6 h7 h1 l0 r0 o0;have hC' :aeN.cells ⟨kd,(A1,A2,A3),(B1,B2,B3),N,(K1,K2,K3,K4)⟩=C:=hC.symm;have tk:C.take 12=C:=List.take_of_length_le (by omega);have j8:∀h,C[8]'h=_:=gE h8
 have j0:∀h,C[0]'h=_:=gE h0
 have j4:∀h,C[4]'h=_:=gE h4
 have j5:∀h,C[5]'h=_:=gE h5
 have j6:∀h,C[6]'h=_:=gE h6
 have j7:∀h,C[7]'h=_:=gE h7
 have hp:=gU;have u12:IntKind.i64.wrap (1+1)=2:=rfl;have u13:IntKind.i64.wrap (1+2)=3:=rfl;have u14:IntKind.i64.wrap (1+3)=4:=rfl;have u15:IntKind.i64.wrap (1+4)=5:=rfl;have hip:=fQ (n:=(i:Int)) (by omega);have aaS :(zS (i:Int)).length+1≤9223372036854775807:=by unfold zS;omega
 have Zb:1+(zS (i:Int)).length≤9223372036854775807:=by omega
 have h:ad (aM prog) (fun _=>[]) (aT prog) (dE ⟨kd,(A1,A2,A3),(B1,B2,B3),N,(K1,K2,K3,K4)⟩) 1 28 [.agg [.slice 0 0 n none,.slice 1 0 k none],.agg C,.int .i64 i] [.kO,.kO]=some ⟨(.agg (di (bH i) (bG (A1,A2,A3)) (N.tmod 5) (1+(K1%4:Nat)) (ig i))),none,[]⟩:=by
  rw[←e1,←ho];have t4:((K1:Nat):Int).tmod 4=((K1%4:Nat):Int):=rfl;have x4:K1%4<4:=Nat.mod_lt _ (by decide);obtain⟨x,hx⟩:∃x,x=K1%4:=⟨_,rfl⟩
  rw[←hx] at t4 x4 ⊢;have y0:IntKind.i64.wrap (x:Int)=(x:Int):=bN (by omega) (by omega);have y1:IntKind.i64.wrap (1+(x:Int))=1+(x:Int):=bN (by omega) (by omega);have y2:(1+(x:Int)).natAbs<100000000:=by omega
  have eQ:∀z:Int,mkRat z 2=hQ z:=fun _=>rfl
  simp[ad,af4,f28,dE,ag,cQ,zA,l0,j8,j0,j7,h1,hA,←e1,ZX,wN,←ho,go,gi,w3,w4,Zb,gk,cM,aR,-aE,cq XY,cq hb1,cq hb5,jz,oM,By,my,bW,oU,bef,af5,af6,ahg,Nat.testBit,t4,y0,y1,y2,eQ,di,bH,ig]
 have:=(ak ae (aq _) okd (au _) h).1;rw[←hC];simpa [HS.mem] using this
theorem zm(hk:d.kind%5=4):
  kF prog 28 [.agg [.slice 0 0 n none,.slice 1 0 k none],.agg d.cells,.int .i64 i] [.kO,.kO] (.agg (dB (bH i) (bR (d.K.1%6)) (se d.B))) ([.kO,.kO]++[]):=by
 have IR:=af7;simp only[aG,bF,f28,List.nil_append,List.append_nil,List.cons_append,List.map_cons,List.map_nil,List.cons.injEq,and_true] at IR;obtain⟨XY,hb1,Yl,ZP,hb4,hb5,hb6⟩:=IR;have hN:=hd.N;have hB:=uU hd.B;have hA:=uU hd.A;have n1:=bZ d.A;have m1:=gd d.B;have q3:=nv d.N 5 (by decide);have h8:=VS d;have h0:=VO d;have h4:=VP d;have h5:=VQ d;have h6:=VR d;have h7:=Uq d;have h1:=VT d;have l0:=xm d;have r0:=gR d;have o0:=JP d;have okd:=iq d hd;clear hd;obtain⟨kd,⟨A1,A2,A3⟩,⟨B1,B2,B3⟩,N,⟨K1,K2,K3,K4⟩⟩:=d;simp only at hk hN hB hA n1 m1 q3 h8 h0 h4 h5 h6 h7 h1 ⊢;simp only[Int.cast_ofNat_Int] at q3;unfold yY at hN;obtain⟨hB1,hB2,hB3⟩:=hB;simp only at hB1 hB2 hB3;have wN:IntKind.i64.wrap N=N:=bN (by omega) (by omega);have wB1:IntKind.i64.wrap B1=B1:=bN (by omega) (by omega);have wB2:IntKind.i64.wrap B2=B2:=bN (by omega) (by omega);have wB3:IntKind.i64.wrap B3=B3:=bN (by omega) (by omega);have ZX:((kd:Nat):Int).tmod 5=4:=by have:((kd:Nat):Int).tmod 5=((kd%5:Nat):Int):=rfl;rw[this,hk];rfl
 obtain⟨⟨nx,ny,nz⟩,e1⟩:∃v,v=bG (A1,A2,A3):=⟨_,rfl⟩
 rw[←e1] at n1;have e2:se (B1,B2,B3)=(B1.tmod 3,B2.tmod 3,B3.tmod 3):=rfl;rw[e2] at m1;obtain⟨o,ho⟩:∃o,o=N.tmod 5:=⟨_,rfl⟩
 rw[←ho] at q3;have go:o.natAbs<100000000:=by omega
 have gi:i<100000000:=by omega
 obtain⟨bx,ZQ⟩:∃o,o=B1.tmod 3:=⟨_,rfl⟩
 obtain⟨ZA,hby⟩:∃o,o=B2.tmod 3:=⟨_,rfl⟩
 obtain⟨bz,Zo⟩:∃o,o=B3.tmod 3:=⟨_,rfl⟩
 rw[←ZQ,←hby,←Zo] at m1 e2;obtain⟨g1,g2,g3⟩:=m1;simp only at g1 g2 g3;have g1' :bx.natAbs≤10000:=by omega
 have g2' :ZA.natAbs≤10000:=by omega
 have g3' :bz.natAbs≤10000:=by omega
 have m2:eS 2 (bx,ZA,bz):=⟨g1,g2,g3⟩;obtain⟨C,hC⟩:∃C,C=aeN.cells ⟨kd,(A1,A2,A3),(B1,B2,B3),N,(K1,K2,K3,K4)⟩:=⟨_,rfl⟩
 rw[←hC] at h8 h0 h4 h5 h6 h7 h1 l0 r0 o0;have hC' :aeN.cells ⟨kd,(A1,A2,A3),(B1,B2,B3),N,(K1,K2,K3,K4)⟩=C:=hC.symm;have tk:C.take 12=C:=List.take_of_length_le (by omega);have j8:∀h,C[8]'h=_:=gE h8
 have j0:∀h,C[0]'h=_:=gE h0
 have j4:∀h,C[4]'h=_:=gE h4
 have j5:∀h,C[5]'h=_:=gE h5
 have j6:∀h,C[6]'h=_:=gE h6
 have j7:∀h,C[7]'h=_:=gE h7
 have hp:=gU;have u12:IntKind.i64.wrap (1+1)=2:=rfl;have u13:IntKind.i64.wrap (1+2)=3:=rfl;have u14:IntKind.i64.wrap (1+3)=4:=rfl;have u15:IntKind.i64.wrap (1+4)=5:=rfl;have hip:=fQ (n:=(i:Int)) (by omega);have aaS :(zS (i:Int)).length+1≤9223372036854775807:=by unfold zS;omega
 have Zb:1+(zS (i:Int)).length≤9223372036854775807:=by omega
 have h:ad (aM prog) (fun _=>[]) (aT prog) (dE ⟨kd,(A1,A2,A3),(B1,B2,B3),N,(K1,K2,K3,K4)⟩) 1 28 [.agg [.slice 0 0 n none,.slice 1 0 k none],.agg C,.int .i64 i] [.kO,.kO]=some ⟨(.agg (dB (bH i) (bR (K1%6)) (se (B1,B2,B3)))),none,[]⟩:=by
  rw[e2];have t6:((K1:Nat):Int).tmod 6=((K1%6:Nat):Int):=rfl;have x6:K1%6<6:=Nat.mod_lt _ (by decide);obtain⟨x,hx⟩:∃x,x=K1%6:=⟨_,rfl⟩
  rw[←hx] at t6 x6 ⊢;have y1:(List.drop (x*4) ([.int .i64 1,.int .i64 0,.int .i64 0,.int .i64 1,.int .i64 2,.int .i64 1,.int .i64 0,.int .i64 0,.int .i64 1,.int .i64 1,.int .i64 1,.int .i64 1,.int .i64 3,.int .i64 0,.int .i64 1,.int .i64 0,.int .i64 0,.int .i64 1,.int .i64 0,.int .i64 0,.int .i64 1,.int .i64 0,.int .i64 0,.int .i64 0]:List AV)).take 4=[.int .i64 (bR x).1,.int .i64 (bR x).2.1,.int .i64 (bR x).2.2.1,.int .i64 (bR x).2.2.2]:=by
   have:x=0∨x=1∨x=2∨x=3∨x=4∨x=5:=by omega
   rcases this with rfl | rfl | rfl | rfl | rfl | rfl<;>rfl
  have y2:x*4+4≤24:=by omega
  have y3:(x:Int)<6:=by omega
  have y4:x*4≤20:=by omega
  obtain⟨⟨ta,tb,tc,td⟩,hT⟩:∃t,t=bR x:=⟨_,rfl⟩
  rw[←hT] at y1 ⊢;simp only at y1;simp[ad,af4,f28,dE,ag,cQ,zA,l0,j8,j0,j4,j5,j6,j7,h1,hA,←e1,ZX,wN,wB1,wB2,wB3,←ho,←ZQ,←hby,←Zo,go,gi,g1',g2',g3',w4,w5,Zb,gk,cM,aR,-aE,cq XY,cq hb1,cq hb6,jz,oM,By,my,bW,oU,bef,af5,af6,ahh,Nat.testBit,t6,y1,y2,y3,dB,bH]
 have:=(ak ae (aq _) okd (au _) h).1;rw[←hC];simpa [HS.mem] using this
theorem zh(hk:d.kind%5=0)(hJ:d.K.1%3=0):
  kF prog 28 [.agg [.slice 0 0 n none,.slice 1 0 k none],.agg d.cells,.int .i64 i] [.kO,.kO] (.agg (bc (bH i) (.slice 2 0 n none) (.slice 3 0 1 none) .kK)) ([.kO,.kO]++(iI 2 d n i 0)):=by
 have IR:=af7;simp only[aG,bF,f28,List.nil_append,List.append_nil,List.cons_append,List.map_cons,List.map_nil,List.cons.injEq,and_true] at IR;obtain⟨XY,hb1,Yl,ZP,hb4,hb5,hb6⟩:=IR;have hN:=hd.N;have hB:=uU hd.B;have hA:=uU hd.A;have n1:=bZ d.A;have m1:=gd d.B;have q3:=nv d.N 5 (by decide);have h8:=VS d;have h0:=VO d;have h4:=VP d;have h5:=VQ d;have h6:=VR d;have h7:=Uq d;have h1:=VT d;have l0:=xm d;have r0:=gR d;have o0:=JP d;have okd:=iq d hd;clear hd;obtain⟨kd,⟨A1,A2,A3⟩,⟨B1,B2,B3⟩,N,⟨K1,K2,K3,K4⟩⟩:=d;simp only at hk hN hB hA n1 m1 q3 h8 h0 h4 h5 h6 h7 h1 ⊢;simp only[Int.cast_ofNat_Int] at q3;unfold yY at hN;obtain⟨hB1,hB2,hB3⟩:=hB;simp only at hB1 hB2 hB3;have wN:IntKind.i64.wrap N=N:=bN (by omega) (by omega);have wB1:IntKind.i64.wrap B1=B1:=bN (by omega) (by omega);have wB2:IntKind.i64.wrap B2=B2:=bN (by omega) (by omega);have wB3:IntKind.i64.wrap B3=B3:=bN (by omega) (by omega);have ZX:((kd:Nat):Int).tmod 5=0:=by have:((kd:Nat):Int).tmod 5=((kd%5:Nat):Int):=rfl;rw[this,hk];rfl
 obtain⟨⟨nx,ny,nz⟩,e1⟩:∃v,v=bG (A1,A2,A3):=⟨_,rfl⟩
 rw[←e1] at n1;have e2:se (B1,B2,B3)=(B1.tmod 3,B2.tmod 3,B3.tmod 3):=rfl;rw[e2] at m1;obtain⟨o,ho⟩:∃o,o=N.tmod 5:=⟨_,rfl⟩
 rw[←ho] at q3;have go:o.natAbs<100000000:=by omega
 have gi:i<100000000:=by omega
 obtain⟨bx,ZQ⟩:∃o,o=B1.tmod 3:=⟨_,rfl⟩
 obtain⟨ZA,hby⟩:∃o,o=B2.tmod 3:=⟨_,rfl⟩
 obtain⟨bz,Zo⟩:∃o,o=B3.tmod 3:=⟨_,rfl⟩
 rw[←ZQ,←hby,←Zo] at m1 e2;obtain⟨g1,g2,g3⟩:=m1;simp only at g1 g2 g3;have g1' :bx.natAbs≤10000:=by omega
 have g2' :ZA.natAbs≤10000:=by omega
 have g3' :bz.natAbs≤10000:=by omega
 have m2:eS 2 (bx,ZA,bz):=⟨g1,g2,g3⟩;obtain⟨C,hC⟩:∃C,C=aeN.cells ⟨kd,(A1,A2,A3),(B1,B2,B3),N,(K1,K2,K3,K4)⟩:=⟨_,rfl⟩
 rw[←hC] at h8 h0 h4 h5 h6 h7 h1 l0 r0 o0;have hC' :aeN.cells ⟨kd,(A1,A2,A3),(B1,B2,B3),N,(K1,K2,K3,K4)⟩=C:=hC.symm;have tk:C.take 12=C:=List.take_of_length_le (by omega);have j8:∀h,C[8]'h=_:=gE h8
 have j0:∀h,C[0]'h=_:=gE h0
 have j4:∀h,C[4]'h=_:=gE h4
 have j5:∀h,C[5]'h=_:=gE h5
 have j6:∀h,C[6]'h=_:=gE h6
 have j7:∀h,C[7]'h=_:=gE h7
 have hp:=gU;have u12:IntKind.i64.wrap (1+1)=2:=rfl;have u13:IntKind.i64.wrap (1+2)=3:=rfl;have u14:IntKind.i64.wrap (1+3)=4:=rfl;have u15:IntKind.i64.wrap (1+4)=5:=rfl;have hip:=fQ (n:=(i:Int)) (by omega);have aaS :(zS (i:Int)).length+1≤9223372036854775807:=by unfold zS;omega
 have Zb:1+(zS (i:Int)).length≤9223372036854775807:=by omega
 have hi3:(i:Int)<6:=by omega
 have J3:K1%3=0:=hJ;have h:ad (aM prog) (fun _=>[]) (aT prog) (dE ⟨kd,(A1,A2,A3),(B1,B2,B3),N,(K1,K2,K3,K4)⟩) 1 28 [.agg [.slice 0 0 n none,.slice 1 0 k none],.agg C,.int .i64 i] [.kO,.kO]=some ⟨(.agg (bc (bH i) (.slice 2 0 n none) (.slice 3 0 1 none) .kK)),none,(iI 2 ⟨kd,(A1,A2,A3),(B1,B2,B3),N,(K1,K2,K3,K4)⟩ n i 0)⟩:=by simp[ad,af4,f28,dE,ag,cQ,zA,l0,j0,j7,h1,hA,←e1,hC',tk,ZX,wN,←ho,go,gi,w0,w1,Zb,gk,cM,aR,-aE,cq XY,cq hb1, jz,oM,By,my,bW,oU,bef,af5,af6, Nat.testBit,J3,bc,bH,Ps,iI,jx,gg,eJ,bu,hn,hl,hi3,List.idxOf?_cons]
 have:=(ak ae (aq _) okd (au _) h).1;rw[←hC];simpa [HS.mem] using this
theorem zi(hk:d.kind%5=0)(hJ:d.K.1%3=1):
  kF prog 28 [.agg [.slice 0 0 n none,.slice 1 0 k none],.agg d.cells,.int .i64 i] [.kO,.kO] (.agg (bc (bH i) (.slice 2 0 n none) (.slice 3 0 2 none) (.slice 4 0 1 none))) ([.kO,.kO]++(iI 2 d n i 1)):=by
 have IR:=af7;simp only[aG,bF,f28,List.nil_append,List.append_nil,List.cons_append,List.map_cons,List.map_nil,List.cons.injEq,and_true] at IR;obtain⟨XY,hb1,Yl,ZP,hb4,hb5,hb6⟩:=IR;have hN:=hd.N;have hB:=uU hd.B;have hA:=uU hd.A;have n1:=bZ d.A;have m1:=gd d.B;have q3:=nv d.N 5 (by decide);have h8:=VS d;have h0:=VO d;have h4:=VP d;have h5:=VQ d;have h6:=VR d;have h7:=Uq d;have h1:=VT d;have l0:=xm d;have r0:=gR d;have o0:=JP d;have okd:=iq d hd;clear hd;obtain⟨kd,⟨A1,A2,A3⟩,⟨B1,B2,B3⟩,N,⟨K1,K2,K3,K4⟩⟩:=d;simp only at hk hN hB hA n1 m1 q3 h8 h0 h4 h5 h6 h7 h1 ⊢;simp only[Int.cast_ofNat_Int] at q3;unfold yY at hN;obtain⟨hB1,hB2,hB3⟩:=hB;simp only at hB1 hB2 hB3;have wN:IntKind.i64.wrap N=N:=bN (by omega) (by omega);have wB1:IntKind.i64.wrap B1=B1:=bN (by omega) (by omega);have wB2:IntKind.i64.wrap B2=B2:=bN (by omega) (by omega);have wB3:IntKind.i64.wrap B3=B3:=bN (by omega) (by omega);have ZX:((kd:Nat):Int).tmod 5=0:=by have:((kd:Nat):Int).tmod 5=((kd%5:Nat):Int):=rfl;rw[this,hk];rfl
 obtain⟨⟨nx,ny,nz⟩,e1⟩:∃v,v=bG (A1,A2,A3):=⟨_,rfl⟩
 rw[←e1] at n1;have e2:se (B1,B2,B3)=(B1.tmod 3,B2.tmod 3,B3.tmod 3):=rfl;rw[e2] at m1;obtain⟨o,ho⟩:∃o,o=N.tmod 5:=⟨_,rfl⟩
 rw[←ho] at q3;have go:o.natAbs<100000000:=by omega
 have gi:i<100000000:=by omega
 obtain⟨bx,ZQ⟩:∃o,o=B1.tmod 3:=⟨_,rfl⟩
 obtain⟨ZA,hby⟩:∃o,o=B2.tmod 3:=⟨_,rfl⟩
 obtain⟨bz,Zo⟩:∃o,o=B3.tmod 3:=⟨_,rfl⟩
 rw[←ZQ,←hby,←Zo] at m1 e2;obtain⟨g1,g2,g3⟩:=m1;simp only at g1 g2 g3;have g1' :bx.natAbs≤10000:=by omega
 have g2' :ZA.natAbs≤10000:=by omega
 have g3' :bz.natAbs≤10000:=by omega
 have m2:eS 2 (bx,ZA,bz):=⟨g1,g2,g3⟩;obtain⟨C,hC⟩:∃C,C=aeN.cells ⟨kd,(A1,A2,A3),(B1,B2,B3),N,(K1,K2,K3,K4)⟩:=⟨_,rfl⟩
 rw[←hC] at h8 h0 h4 h5 h6 h7 h1 l0 r0 o0;have hC' :aeN.cells ⟨kd,(A1,A2,A3),(B1,B2,B3),N,(K1,K2,K3,K4)⟩=C:=hC.symm;have tk:C.take 12=C:=List.take_of_length_le (by omega);have j8:∀h,C[8]'h=_:=gE h8
 have j0:∀h,C[0]'h=_:=gE h0
 have j4:∀h,C[4]'h=_:=gE h4
 have j5:∀h,C[5]'h=_:=gE h5
 have j6:∀h,C[6]'h=_:=gE h6
 have j7:∀h,C[7]'h=_:=gE h7
 have hp:=gU;have u12:IntKind.i64.wrap (1+1)=2:=rfl;have u13:IntKind.i64.wrap (1+2)=3:=rfl;have u14:IntKind.i64.wrap (1+3)=4:=rfl;have u15:IntKind.i64.wrap (1+4)=5:=rfl;have hip:=fQ (n:=(i:Int)) (by omega);have aaS :(zS (i:Int)).length+1≤9223372036854775807:=by unfold zS;omega
 have Zb:1+(zS (i:Int)).length≤9223372036854775807:=by omega
 have hi3:(i:Int)<6:=by omega
 have J3:K1%3=1:=hJ;have h:ad (aM prog) (fun _=>[]) (aT prog) (dE ⟨kd,(A1,A2,A3),(B1,B2,B3),N,(K1,K2,K3,K4)⟩) 1 28 [.agg [.slice 0 0 n none,.slice 1 0 k none],.agg C,.int .i64 i] [.kO,.kO]=some ⟨(.agg (bc (bH i) (.slice 2 0 n none) (.slice 3 0 2 none) (.slice 4 0 1 none))),none,(iI 2 ⟨kd,(A1,A2,A3),(B1,B2,B3),N,(K1,K2,K3,K4)⟩ n i 1)⟩:=by simp[ad,af4,f28,dE,ag,cQ,zA,l0,j0,j7,h1,hA,←e1,hC',tk,ZX,wN,←ho,go,gi,w0,w1,Zb,gk,cM,aR,-aE,cq XY,cq hb1, jz,oM,By,my,bW,oU,bef,af5,af6, Nat.testBit,J3,bc,bH,Ps,iI,jx,gg,eJ,bu,hn,hl,hi3,List.idxOf?_cons]
 have:=(ak ae (aq _) okd (au _) h).1;rw[←hC];simpa [HS.mem] using this
theorem zj(hk:d.kind%5=0)(hJ:d.K.1%3=2):
  kF prog 28 [.agg [.slice 0 0 n none,.slice 1 0 k none],.agg d.cells,.int .i64 i] [.kO,.kO] (.agg (bc (bH i) (.slice 2 0 n none) (.slice 3 0 3 none) (.slice 4 0 2 none))) ([.kO,.kO]++(iI 2 d n i 2)):=by
 have IR:=af7;simp only[aG,bF,f28,List.nil_append,List.append_nil,List.cons_append,List.map_cons,List.map_nil,List.cons.injEq,and_true] at IR;obtain⟨XY,hb1,Yl,ZP,hb4,hb5,hb6⟩:=IR;have hN:=hd.N;have hB:=uU hd.B;have hA:=uU hd.A;have n1:=bZ d.A;have m1:=gd d.B;have q3:=nv d.N 5 (by decide);have h8:=VS d;have h0:=VO d;have h4:=VP d;have h5:=VQ d;have h6:=VR d;have h7:=Uq d;have h1:=VT d;have l0:=xm d;have r0:=gR d;have o0:=JP d;have okd:=iq d hd;clear hd;obtain⟨kd,⟨A1,A2,A3⟩,⟨B1,B2,B3⟩,N,⟨K1,K2,K3,K4⟩⟩:=d;simp only at hk hN hB hA n1 m1 q3 h8 h0 h4 h5 h6 h7 h1 ⊢;simp only[Int.cast_ofNat_Int] at q3;unfold yY at hN;obtain⟨hB1,hB2,hB3⟩:=hB;simp only at hB1 hB2 hB3;have wN:IntKind.i64.wrap N=N:=bN (by omega) (by omega);have wB1:IntKind.i64.wrap B1=B1:=bN (by omega) (by omega);have wB2:IntKind.i64.wrap B2=B2:=bN (by omega) (by omega);have wB3:IntKind.i64.wrap B3=B3:=bN (by omega) (by omega);have ZX:((kd:Nat):Int).tmod 5=0:=by have:((kd:Nat):Int).tmod 5=((kd%5:Nat):Int):=rfl;rw[this,hk];rfl
 obtain⟨⟨nx,ny,nz⟩,e1⟩:∃v,v=bG (A1,A2,A3):=⟨_,rfl⟩
 rw[←e1] at n1;have e2:se (B1,B2,B3)=(B1.tmod 3,B2.tmod 3,B3.tmod 3):=rfl;rw[e2] at m1;obtain⟨o,ho⟩:∃o,o=N.tmod 5:=⟨_,rfl⟩
 rw[←ho] at q3;have go:o.natAbs<100000000:=by omega
 have gi:i<100000000:=by omega
 obtain⟨bx,ZQ⟩:∃o,o=B1.tmod 3:=⟨_,rfl⟩
 obtain⟨ZA,hby⟩:∃o,o=B2.tmod 3:=⟨_,rfl⟩
 obtain⟨bz,Zo⟩:∃o,o=B3.tmod 3:=⟨_,rfl⟩
 rw[←ZQ,←hby,←Zo] at m1 e2;obtain⟨g1,g2,g3⟩:=m1;simp only at g1 g2 g3;have g1' :bx.natAbs≤10000:=by omega
 have g2' :ZA.natAbs≤10000:=by omega
 have g3' :bz.natAbs≤10000:=by omega
 have m2:eS 2 (bx,ZA,bz):=⟨g1,g2,g3⟩;obtain⟨C,hC⟩:∃C,C=aeN.cells ⟨kd,(A1,A2,A3),(B1,B2,B3),N,(K1,K2,K3,K4)⟩:=⟨_,rfl⟩
 rw[←hC] at h8 h0 h4 h5 h6 h7 h1 l0 r0 o0;have hC' :aeN.cells ⟨kd,(A1,A2,A3),(B1,B2,B3),N,(K1,K2,K3,K4)⟩=C:=hC.symm;have tk:C.take 12=C:=List.take_of_length_le (by omega);have j8:∀h,C[8]'h=_:=gE h8
 have j0:∀h,C[0]'h=_:=gE h0
 have j4:∀h,C[4]'h=_:=gE h4
 have j5:∀h,C[5]'h=_:=gE h5
 have j6:∀h,C[6]'h=_:=gE h6
 have j7:∀h,C[7]'h=_:=gE h7
 have hp:=gU;have u12:IntKind.i64.wrap (1+1)=2:=rfl;have u13:IntKind.i64.wrap (1+2)=3:=rfl;have u14:IntKind.i64.wrap (1+3)=4:=rfl;have u15:IntKind.i64.wrap (1+4)=5:=rfl;have hip:=fQ (n:=(i:Int)) (by omega);have aaS :(zS (i:Int)).length+1≤9223372036854775807:=by unfold zS;omega
 have Zb:1+(zS (i:Int)).length≤9223372036854775807:=by omega
 have hi3:(i:Int)<6:=by omega
 have J3:K1%3=2:=hJ;have h:ad (aM prog) (fun _=>[]) (aT prog) (dE ⟨kd,(A1,A2,A3),(B1,B2,B3),N,(K1,K2,K3,K4)⟩) 1 28 [.agg [.slice 0 0 n none,.slice 1 0 k none],.agg C,.int .i64 i] [.kO,.kO]=some ⟨(.agg (bc (bH i) (.slice 2 0 n none) (.slice 3 0 3 none) (.slice 4 0 2 none))),none,(iI 2 ⟨kd,(A1,A2,A3),(B1,B2,B3),N,(K1,K2,K3,K4)⟩ n i 2)⟩:=by simp[ad,af4,f28,dE,ag,cQ,zA,l0,j0,j7,h1,hA,←e1,hC',tk,ZX,wN,←ho,go,gi,w0,w1,Zb,gk,cM,aR,-aE,cq XY,cq hb1, jz,oM,By,my,bW,oU,bef,af5,af6, Nat.testBit,J3,bc,bH,Ps,iI,jx,gg,eJ,bu,hn,hl,hi3,List.idxOf?_cons]
 have:=(ak ae (aq _) okd (au _) h).1;rw[←hC];simpa [HS.mem] using this
end
end Go.Proofs
