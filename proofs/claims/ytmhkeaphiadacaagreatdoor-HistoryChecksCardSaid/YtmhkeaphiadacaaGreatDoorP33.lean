/- See P53. -/
import Derived.Test.YtmhkeaphiadacaaGreatDoorP22
set_option linter.all false
set_option maxRecDepth 100000
set_option maxHeartbeats 40000000
namespace Go.Proofs
open Go.Eng
open Tryz
theorem abL:aO prog 9=some f9:=by kernel_rfl
theorem abM:ba [0,0,2,6,14,30,63,0,255] 8=true:=by decide
theorem abN:ba [0,1,3,7,15,0,32,96,255,0,1023] 10=true:=by decide
theorem adh:ba [0,0,0,4,12,28,60,0,128,384,896,1920,0,4096,12288,28672,61440,131068,262142,524287,1048575,2097151] 21=true:=by decide
theorem ac6:ba [0,0,2,6,14,30,62,126,0,510,1022,2047,4095,8191] 13=true:=by decide
theorem ac7:ba [0,0,0,0,0,0,63,0,128,384,896,2047,4095,0,8192,24576,57344,122880,0,262144,786432,1835008,3932160,0,8388608,25165824,58720256,125829120,268427264,536870911,1073741823,2147483647] 31=true:=by decide
def abO:=bH (rfl:aP f9=_) (ls:=[[0,0,2,6,14,30,63,0,255],[0,1,3,7,15,0,32,96,255,0,1023],[0,0,0,4,12,28,60,0,128,384,896,1920,0,4096,12288,28672,61440,131068,262142,524287,1048575,2097151],[0,0,0,4,12,28,60,0,128,384,896,1920,0,4096,12288,28672,61440,131068,262142,524287,1048575,2097151],[0,1,3,0,8,24,56,0,128,504,1016,0,0,6144,14336,30720,63488,129024,0,262144,786432,1835008,3932160,8126464,16777208,33554424,67108856,134217727,268435455,536870911,1073741823],[0,0,2,6,14,30,62,126,0,510,1022,2047,4095,8191],[0,0,0,0,0,0,63,0,128,384,896,2047,4095,0,8192,24576,57344,122880,0,262144,786432,1835008,3932160,0,8388608,25165824,58720256,125829120,268427264,536870911,1073741823,2147483647]]) (by kernel_rfl)
section
variable (d:aao)(hd:d.Ok)(n k i:Nat)(hi:i<6)(hn:0<n)(hl:n≤1000)
include d hd n k i hi hn hl
theorem zC(hk:d.kind%5=3):
  mB prog 9 [.agg [.slice 0 0 n none,.slice 1 0 k none],.agg d.cells,.int .i64 i] [.qF,.qF] (.agg (dG (bF i) (bE d.A) (d.N.tmod 5) (1+(d.K.1%4:Nat)) (ik i))) ([.qF,.qF]++[]):=by
 have PP:=abO;simp only[aP,bQ,f9,List.nil_append,List.append_nil,List.cons_append,List.map_cons,List.map_nil,List.cons.injEq,and_true] at PP;obtain⟨WS,hb1,WE,hb3,hb4,hb5,hb6⟩:=PP;have hN:=hd.N;have hB:=vf hd.B;have hA:=vf hd.A;have n1:=dj d.A;have m1:=iw d.B;have q3:=ru d.N 5 (by decide);have h8:=UK d;have h0:=UG d;have h4:=UH d;have h5:=UI d;have h6:=UJ d;have h7:=TD d;have h1:=UL d;have l0:=xy d;have r0:=gQ d;have o0:=Kf d;have okd:=ir d hd;clear hd;obtain⟨kd,⟨A1,A2,A3⟩,⟨B1,B2,B3⟩,N,⟨K1,K2,K3,K4⟩⟩:=d;simp only at hk hN hB hA n1 m1 q3 h8 h0 h4 h5 h6 h7 h1 ⊢;simp only[Int.cast_ofNat_Int] at q3;unfold Lf at hN;obtain⟨Yq,Yr,YK⟩:=hB;simp only at Yq Yr YK;have wN:IntKind.i64.wrap N=N:=bN (by omega) (by omega);have wB1:IntKind.i64.wrap B1=B1:=bN (by omega) (by omega);have wB2:IntKind.i64.wrap B2=B2:=bN (by omega) (by omega);have wB3:IntKind.i64.wrap B3=B3:=bN (by omega) (by omega);have YZ:((kd:Nat):Int).tmod 5=3:=by have:((kd:Nat):Int).tmod 5=((kd%5:Nat):Int):=rfl;rw[this,hk];rfl
 obtain⟨⟨nx,ny,nz⟩,e1⟩:∃v,v=bE (A1,A2,A3):=⟨_,rfl⟩
 rw[←e1] at n1;have e2:sG (B1,B2,B3)=(B1.tmod 3,B2.tmod 3,B3.tmod 3):=rfl;rw[e2] at m1;obtain⟨o,ho⟩:∃o,o=N.tmod 5:=⟨_,rfl⟩
 rw[←ho] at q3;have go:o.natAbs<100000000:=by omega
 have gi:i<100000000:=by omega
 obtain⟨bx,YS⟩:∃o,o=B1.tmod 3:=⟨_,rfl⟩
 obtain⟨YF,ZJ⟩:∃o,o=B2.tmod 3:=⟨_,rfl⟩
 obtain⟨bz,Yc⟩:∃o,o=B3.tmod 3:=⟨_,rfl⟩
 rw[←YS,←ZJ,←Yc] at m1 e2;obtain⟨g1,g2,g3⟩:=m1;simp only at g1 g2 g3;have g1' :bx.natAbs≤10000:=by omega
 have g2' :YF.natAbs≤10000:=by omega
 have g3' :bz.natAbs≤10000:=by omega
 have m2:gm 2 (bx,YF,bz):=⟨g1,g2,g3⟩;obtain⟨C,hC⟩:∃C,C=aao.cells ⟨kd,(A1,A2,A3),(B1,B2,B3),N,(K1,K2,K3,K4)⟩:=⟨_,rfl⟩
 rw[←hC] at h8 h0 h4 h5 h6 h7 h1 l0 r0 o0;have Xg :aao.cells ⟨kd,(A1,A2,A3),(B1,B2,B3),N,(K1,K2,K3,K4)⟩=C:=hC.symm;have tk:C.take 12=C:=List.take_of_length_le (by omega);have j8:∀h,C[8]'h=_:=fun h=>Option.some.inj ((List.getElem?_eq_getElem h).symm.trans h8)
 have j0:∀h,C[0]'h=_:=fun h=>Option.some.inj ((List.getElem?_eq_getElem h).symm.trans h0)
 have j4:∀h,C[4]'h=_:=fun h=>Option.some.inj ((List.getElem?_eq_getElem h).symm.trans h4)
 have j5:∀h,C[5]'h=_:=fun h=>Option.some.inj ((List.getElem?_eq_getElem h).symm.trans h5)
 have j6:∀h,C[6]'h=_:=fun h=>Option.some.inj ((List.getElem?_eq_getElem h).symm.trans h6)
 have j7:∀h,C[7]'h=_:=fun h=>Option.some.inj ((List.getElem?_eq_getElem h).symm.trans h7)
 have hp:=gW;have u12:IntKind.i64.wrap (1+1)=2:=rfl;have u13:IntKind.i64.wrap (1+2)=3:=rfl;have u14:IntKind.i64.wrap (1+3)=4:=rfl;have u15:IntKind.i64.wrap (1+4)=5:=rfl;have hip:=fE (n:=(i:Int)) (by omega);have hip' :(zS (i:Int)).length+1≤9223372036854775807:=by unfold zS;omega
 have X6:1+(zS (i:Int)).length≤9223372036854775807:=by omega
 have h:ad (aC prog) (fun _=>[]) (aO prog) (dD ⟨kd,(A1,A2,A3),(B1,B2,B3),N,(K1,K2,K3,K4)⟩) 1 9 [.agg [.slice 0 0 n none,.slice 1 0 k none],.agg C,.int .i64 i] [.qF,.qF]=some ⟨(.agg (dG (bF i) (bE (A1,A2,A3)) (N.tmod 5) (1+(K1%4:Nat)) (ik i))),none,[]⟩:=by
  rw[←e1,←ho];have t4:((K1:Nat):Int).tmod 4=((K1%4:Nat):Int):=rfl;have x4:K1%4<4:=Nat.mod_lt _ (by decide);obtain⟨x,hx⟩:∃x,x=K1%4:=⟨_,rfl⟩
  rw[←hx] at t4 x4 ⊢;have y0:IntKind.i64.wrap (x:Int)=(x:Int):=bN (by omega) (by omega);have y1:IntKind.i64.wrap (1+(x:Int))=1+(x:Int):=bN (by omega) (by omega);have y2:(1+(x:Int)).natAbs<100000000:=by omega
  have eQ:∀z:Int,mkRat z 2=hQ z:=fun _=>rfl
  simp[ad,abL,f9,dD,ar,cQ,zA,l0,j8,j0,j7,h1,hA,←e1,YZ,wN,←ho,go,gi,w3,w4,X6,gd,bO,aL,-ay,cm WS,cm hb1,cm hb5,jo,ph,By,mh,cj,jd,bef,abM,abN,ac6,Nat.testBit,t4,y0,y1,y2,eQ,dG,bF,ik]
 have:=(au af (aw _) okd (ax _) h).1;rw[←hC];simpa [HS.mem] using this
theorem zE(hk:d.kind%5=4):
  mB prog 9 [.agg [.slice 0 0 n none,.slice 1 0 k none],.agg d.cells,.int .i64 i] [.qF,.qF] (.agg (dZ (bF i) (fk (d.K.1%6)) (sG d.B))) ([.qF,.qF]++[]):=by
 have PP:=abO;simp only[aP,bQ,f9,List.nil_append,List.append_nil,List.cons_append,List.map_cons,List.map_nil,List.cons.injEq,and_true] at PP;obtain⟨WS,hb1,WE,hb3,hb4,hb5,hb6⟩:=PP;have hN:=hd.N;have hB:=vf hd.B;have hA:=vf hd.A;have n1:=dj d.A;have m1:=iw d.B;have q3:=ru d.N 5 (by decide);have h8:=UK d;have h0:=UG d;have h4:=UH d;have h5:=UI d;have h6:=UJ d;have h7:=TD d;have h1:=UL d;have l0:=xy d;have r0:=gQ d;have o0:=Kf d;have okd:=ir d hd;clear hd;obtain⟨kd,⟨A1,A2,A3⟩,⟨B1,B2,B3⟩,N,⟨K1,K2,K3,K4⟩⟩:=d;simp only at hk hN hB hA n1 m1 q3 h8 h0 h4 h5 h6 h7 h1 ⊢;simp only[Int.cast_ofNat_Int] at q3;unfold Lf at hN;obtain⟨Yq,Yr,YK⟩:=hB;simp only at Yq Yr YK;have wN:IntKind.i64.wrap N=N:=bN (by omega) (by omega);have wB1:IntKind.i64.wrap B1=B1:=bN (by omega) (by omega);have wB2:IntKind.i64.wrap B2=B2:=bN (by omega) (by omega);have wB3:IntKind.i64.wrap B3=B3:=bN (by omega) (by omega);have YZ:((kd:Nat):Int).tmod 5=4:=by have:((kd:Nat):Int).tmod 5=((kd%5:Nat):Int):=rfl;rw[this,hk];rfl
 obtain⟨⟨nx,ny,nz⟩,e1⟩:∃v,v=bE (A1,A2,A3):=⟨_,rfl⟩
 rw[←e1] at n1;have e2:sG (B1,B2,B3)=(B1.tmod 3,B2.tmod 3,B3.tmod 3):=rfl;rw[e2] at m1;obtain⟨o,ho⟩:∃o,o=N.tmod 5:=⟨_,rfl⟩
 rw[←ho] at q3;have go:o.natAbs<100000000:=by omega
 have gi:i<100000000:=by omega
 obtain⟨bx,YS⟩:∃o,o=B1.tmod 3:=⟨_,rfl⟩
 obtain⟨YF,ZJ⟩:∃o,o=B2.tmod 3:=⟨_,rfl⟩
 obtain⟨bz,Yc⟩:∃o,o=B3.tmod 3:=⟨_,rfl⟩
 rw[←YS,←ZJ,←Yc] at m1 e2;obtain⟨g1,g2,g3⟩:=m1;simp only at g1 g2 g3;have g1' :bx.natAbs≤10000:=by omega
 have g2' :YF.natAbs≤10000:=by omega
 have g3' :bz.natAbs≤10000:=by omega
 have m2:gm 2 (bx,YF,bz):=⟨g1,g2,g3⟩;obtain⟨C,hC⟩:∃C,C=aao.cells ⟨kd,(A1,A2,A3),(B1,B2,B3),N,(K1,K2,K3,K4)⟩:=⟨_,rfl⟩
 rw[←hC] at h8 h0 h4 h5 h6 h7 h1 l0 r0 o0;have Xg :aao.cells ⟨kd,(A1,A2,A3),(B1,B2,B3),N,(K1,K2,K3,K4)⟩=C:=hC.symm;have tk:C.take 12=C:=List.take_of_length_le (by omega);have j8:∀h,C[8]'h=_:=fun h=>Option.some.inj ((List.getElem?_eq_getElem h).symm.trans h8)
 have j0:∀h,C[0]'h=_:=fun h=>Option.some.inj ((List.getElem?_eq_getElem h).symm.trans h0)
 have j4:∀h,C[4]'h=_:=fun h=>Option.some.inj ((List.getElem?_eq_getElem h).symm.trans h4)
 have j5:∀h,C[5]'h=_:=fun h=>Option.some.inj ((List.getElem?_eq_getElem h).symm.trans h5)
 have j6:∀h,C[6]'h=_:=fun h=>Option.some.inj ((List.getElem?_eq_getElem h).symm.trans h6)
 have j7:∀h,C[7]'h=_:=fun h=>Option.some.inj ((List.getElem?_eq_getElem h).symm.trans h7)
 have hp:=gW;have u12:IntKind.i64.wrap (1+1)=2:=rfl;have u13:IntKind.i64.wrap (1+2)=3:=rfl;have u14:IntKind.i64.wrap (1+3)=4:=rfl;have u15:IntKind.i64.wrap (1+4)=5:=rfl;have hip:=fE (n:=(i:Int)) (by omega);have hip' :(zS (i:Int)).length+1≤9223372036854775807:=by unfold zS;omega
 have X6:1+(zS (i:Int)).length≤9223372036854775807:=by omega
 have h:ad (aC prog) (fun _=>[]) (aO prog) (dD ⟨kd,(A1,A2,A3),(B1,B2,B3),N,(K1,K2,K3,K4)⟩) 1 9 [.agg [.slice 0 0 n none,.slice 1 0 k none],.agg C,.int .i64 i] [.qF,.qF]=some ⟨(.agg (dZ (bF i) (fk (K1%6)) (sG (B1,B2,B3)))),none,[]⟩:=by
  rw[e2];have t6:((K1:Nat):Int).tmod 6=((K1%6:Nat):Int):=rfl;have x6:K1%6<6:=Nat.mod_lt _ (by decide);obtain⟨x,hx⟩:∃x,x=K1%6:=⟨_,rfl⟩
  rw[←hx] at t6 x6 ⊢;have y1:(List.drop (x*4) ([.int .i64 1,.int .i64 0,.int .i64 0,.int .i64 1,.int .i64 2,.int .i64 1,.int .i64 0,.int .i64 0,.int .i64 1,.int .i64 1,.int .i64 1,.int .i64 1,.int .i64 3,.int .i64 0,.int .i64 1,.int .i64 0,.int .i64 0,.int .i64 1,.int .i64 0,.int .i64 0,.int .i64 1,.int .i64 0,.int .i64 0,.int .i64 0]:List AV)).take 4=[.int .i64 (fk x).1,.int .i64 (fk x).2.1,.int .i64 (fk x).2.2.1,.int .i64 (fk x).2.2.2]:=by
   have:x=0∨x=1∨x=2∨x=3∨x=4∨x=5:=by omega
   rcases this with rfl | rfl | rfl | rfl | rfl | rfl<;>rfl
  have y2:x*4+4≤24:=by omega
  have y3:(x:Int)<6:=by omega
  have y4:x*4≤20:=by omega
  obtain⟨⟨ta,tb,tc,td⟩,hT⟩:∃t,t=fk x:=⟨_,rfl⟩
  rw[←hT] at y1 ⊢;simp only at y1;simp[ad,abL,f9,dD,ar,cQ,zA,l0,j8,j0,j4,j5,j6,j7,h1,hA,←e1,YZ,wN,wB1,wB2,wB3,←ho,←YS,←ZJ,←Yc,go,gi,g1',g2',g3',w4,w5,X6,gd,bO,aL,-ay,cm WS,cm hb1,cm hb6,jo,ph,By,mh,cj,jd,bef,abM,abN,ac7,Nat.testBit,t6,y1,y2,y3,dZ,bF]
 have:=(au af (aw _) okd (ax _) h).1;rw[←hC];simpa [HS.mem] using this
theorem zy(hk:d.kind%5=0)(hJ:d.K.1%3=0):
  mB prog 9 [.agg [.slice 0 0 n none,.slice 1 0 k none],.agg d.cells,.int .i64 i] [.qF,.qF] (.agg (aZ (bF i) (.slice 2 0 n none) (.slice 3 0 1 none) .kO)) ([.qF,.qF]++(iH 2 d n i 0)):=by
 have PP:=abO;simp only[aP,bQ,f9,List.nil_append,List.append_nil,List.cons_append,List.map_cons,List.map_nil,List.cons.injEq,and_true] at PP;obtain⟨WS,hb1,WE,hb3,hb4,hb5,hb6⟩:=PP;have hN:=hd.N;have hB:=vf hd.B;have hA:=vf hd.A;have n1:=dj d.A;have m1:=iw d.B;have q3:=ru d.N 5 (by decide);have h8:=UK d;have h0:=UG d;have h4:=UH d;have h5:=UI d;have h6:=UJ d;have h7:=TD d;have h1:=UL d;have l0:=xy d;have r0:=gQ d;have o0:=Kf d;have okd:=ir d hd;clear hd;obtain⟨kd,⟨A1,A2,A3⟩,⟨B1,B2,B3⟩,N,⟨K1,K2,K3,K4⟩⟩:=d;simp only at hk hN hB hA n1 m1 q3 h8 h0 h4 h5 h6 h7 h1 ⊢;simp only[Int.cast_ofNat_Int] at q3;unfold Lf at hN;obtain⟨Yq,Yr,YK⟩:=hB;simp only at Yq Yr YK;have wN:IntKind.i64.wrap N=N:=bN (by omega) (by omega);have wB1:IntKind.i64.wrap B1=B1:=bN (by omega) (by omega);have wB2:IntKind.i64.wrap B2=B2:=bN (by omega) (by omega);have wB3:IntKind.i64.wrap B3=B3:=bN (by omega) (by omega);have YZ:((kd:Nat):Int).tmod 5=0:=by have:((kd:Nat):Int).tmod 5=((kd%5:Nat):Int):=rfl;rw[this,hk];rfl
 obtain⟨⟨nx,ny,nz⟩,e1⟩:∃v,v=bE (A1,A2,A3):=⟨_,rfl⟩
 rw[←e1] at n1;have e2:sG (B1,B2,B3)=(B1.tmod 3,B2.tmod 3,B3.tmod 3):=rfl;rw[e2] at m1;obtain⟨o,ho⟩:∃o,o=N.tmod 5:=⟨_,rfl⟩
 rw[←ho] at q3;have go:o.natAbs<100000000:=by omega
 have gi:i<100000000:=by omega
 obtain⟨bx,YS⟩:∃o,o=B1.tmod 3:=⟨_,rfl⟩
 obtain⟨YF,ZJ⟩:∃o,o=B2.tmod 3:=⟨_,rfl⟩
 obtain⟨bz,Yc⟩:∃o,o=B3.tmod 3:=⟨_,rfl⟩
 rw[←YS,←ZJ,←Yc] at m1 e2;obtain⟨g1,g2,g3⟩:=m1;simp only at g1 g2 g3;have g1' :bx.natAbs≤10000:=by omega
 have g2' :YF.natAbs≤10000:=by omega
 have g3' :bz.natAbs≤10000:=by omega
 have m2:gm 2 (bx,YF,bz):=⟨g1,g2,g3⟩;obtain⟨C,hC⟩:∃C,C=aao.cells ⟨kd,(A1,A2,A3),(B1,B2,B3),N,(K1,K2,K3,K4)⟩:=⟨_,rfl⟩
 rw[←hC] at h8 h0 h4 h5 h6 h7 h1 l0 r0 o0;have Xg :aao.cells ⟨kd,(A1,A2,A3),(B1,B2,B3),N,(K1,K2,K3,K4)⟩=C:=hC.symm;have tk:C.take 12=C:=List.take_of_length_le (by omega);have j8:∀h,C[8]'h=_:=fun h=>Option.some.inj ((List.getElem?_eq_getElem h).symm.trans h8)
 have j0:∀h,C[0]'h=_:=fun h=>Option.some.inj ((List.getElem?_eq_getElem h).symm.trans h0)
 have j4:∀h,C[4]'h=_:=fun h=>Option.some.inj ((List.getElem?_eq_getElem h).symm.trans h4)
 have j5:∀h,C[5]'h=_:=fun h=>Option.some.inj ((List.getElem?_eq_getElem h).symm.trans h5)
 have j6:∀h,C[6]'h=_:=fun h=>Option.some.inj ((List.getElem?_eq_getElem h).symm.trans h6)
 have j7:∀h,C[7]'h=_:=fun h=>Option.some.inj ((List.getElem?_eq_getElem h).symm.trans h7)
 have hp:=gW;have u12:IntKind.i64.wrap (1+1)=2:=rfl;have u13:IntKind.i64.wrap (1+2)=3:=rfl;have u14:IntKind.i64.wrap (1+3)=4:=rfl;have u15:IntKind.i64.wrap (1+4)=5:=rfl;have hip:=fE (n:=(i:Int)) (by omega);have hip' :(zS (i:Int)).length+1≤9223372036854775807:=by unfold zS;omega
 have X6:1+(zS (i:Int)).length≤9223372036854775807:=by omega
 have hi3:(i:Int)<6:=by omega
 have J3:K1%3=0:=hJ;have h:ad (aC prog) (fun _=>[]) (aO prog) (dD ⟨kd,(A1,A2,A3),(B1,B2,B3),N,(K1,K2,K3,K4)⟩) 1 9 [.agg [.slice 0 0 n none,.slice 1 0 k none],.agg C,.int .i64 i] [.qF,.qF]=some ⟨(.agg (aZ (bF i) (.slice 2 0 n none) (.slice 3 0 1 none) .kO)),none,(iH 2 ⟨kd,(A1,A2,A3),(B1,B2,B3),N,(K1,K2,K3,K4)⟩ n i 0)⟩:=by simp[ad,abL,f9,dD,ar,cQ,zA,l0,j0,j7,h1,hA,←e1,Xg,tk,YZ,wN,←ho,go,gi,w0,w1,X6,gd,bO,aL,-ay,cm WS,cm hb1, jo,ph,By,mh,cj,jd,bef,abM,abN, Nat.testBit,J3,aZ,bF,PJ,iH,jm,fY,eG,bp,hn,hl,hi3,List.idxOf?_cons]
 have:=(au af (aw _) okd (ax _) h).1;rw[←hC];simpa [HS.mem] using this
theorem zz(hk:d.kind%5=0)(hJ:d.K.1%3=1):
  mB prog 9 [.agg [.slice 0 0 n none,.slice 1 0 k none],.agg d.cells,.int .i64 i] [.qF,.qF] (.agg (aZ (bF i) (.slice 2 0 n none) (.slice 3 0 2 none) (.slice 4 0 1 none))) ([.qF,.qF]++(iH 2 d n i 1)):=by
 have PP:=abO;simp only[aP,bQ,f9,List.nil_append,List.append_nil,List.cons_append,List.map_cons,List.map_nil,List.cons.injEq,and_true] at PP;obtain⟨WS,hb1,WE,hb3,hb4,hb5,hb6⟩:=PP;have hN:=hd.N;have hB:=vf hd.B;have hA:=vf hd.A;have n1:=dj d.A;have m1:=iw d.B;have q3:=ru d.N 5 (by decide);have h8:=UK d;have h0:=UG d;have h4:=UH d;have h5:=UI d;have h6:=UJ d;have h7:=TD d;have h1:=UL d;have l0:=xy d;have r0:=gQ d;have o0:=Kf d;have okd:=ir d hd;clear hd;obtain⟨kd,⟨A1,A2,A3⟩,⟨B1,B2,B3⟩,N,⟨K1,K2,K3,K4⟩⟩:=d;simp only at hk hN hB hA n1 m1 q3 h8 h0 h4 h5 h6 h7 h1 ⊢;simp only[Int.cast_ofNat_Int] at q3;unfold Lf at hN;obtain⟨Yq,Yr,YK⟩:=hB;simp only at Yq Yr YK;have wN:IntKind.i64.wrap N=N:=bN (by omega) (by omega);have wB1:IntKind.i64.wrap B1=B1:=bN (by omega) (by omega);have wB2:IntKind.i64.wrap B2=B2:=bN (by omega) (by omega);have wB3:IntKind.i64.wrap B3=B3:=bN (by omega) (by omega);have YZ:((kd:Nat):Int).tmod 5=0:=by have:((kd:Nat):Int).tmod 5=((kd%5:Nat):Int):=rfl;rw[this,hk];rfl
 obtain⟨⟨nx,ny,nz⟩,e1⟩:∃v,v=bE (A1,A2,A3):=⟨_,rfl⟩
 rw[←e1] at n1;have e2:sG (B1,B2,B3)=(B1.tmod 3,B2.tmod 3,B3.tmod 3):=rfl;rw[e2] at m1;obtain⟨o,ho⟩:∃o,o=N.tmod 5:=⟨_,rfl⟩
 rw[←ho] at q3;have go:o.natAbs<100000000:=by omega
 have gi:i<100000000:=by omega
 obtain⟨bx,YS⟩:∃o,o=B1.tmod 3:=⟨_,rfl⟩
 obtain⟨YF,ZJ⟩:∃o,o=B2.tmod 3:=⟨_,rfl⟩
 obtain⟨bz,Yc⟩:∃o,o=B3.tmod 3:=⟨_,rfl⟩
 rw[←YS,←ZJ,←Yc] at m1 e2;obtain⟨g1,g2,g3⟩:=m1;simp only at g1 g2 g3;have g1' :bx.natAbs≤10000:=by omega
 have g2' :YF.natAbs≤10000:=by omega
 have g3' :bz.natAbs≤10000:=by omega
 have m2:gm 2 (bx,YF,bz):=⟨g1,g2,g3⟩;obtain⟨C,hC⟩:∃C,C=aao.cells ⟨kd,(A1,A2,A3),(B1,B2,B3),N,(K1,K2,K3,K4)⟩:=⟨_,rfl⟩
 rw[←hC] at h8 h0 h4 h5 h6 h7 h1 l0 r0 o0;have Xg :aao.cells ⟨kd,(A1,A2,A3),(B1,B2,B3),N,(K1,K2,K3,K4)⟩=C:=hC.symm;have tk:C.take 12=C:=List.take_of_length_le (by omega);have j8:∀h,C[8]'h=_:=fun h=>Option.some.inj ((List.getElem?_eq_getElem h).symm.trans h8)
 have j0:∀h,C[0]'h=_:=fun h=>Option.some.inj ((List.getElem?_eq_getElem h).symm.trans h0)
 have j4:∀h,C[4]'h=_:=fun h=>Option.some.inj ((List.getElem?_eq_getElem h).symm.trans h4)
 have j5:∀h,C[5]'h=_:=fun h=>Option.some.inj ((List.getElem?_eq_getElem h).symm.trans h5)
 have j6:∀h,C[6]'h=_:=fun h=>Option.some.inj ((List.getElem?_eq_getElem h).symm.trans h6)
 have j7:∀h,C[7]'h=_:=fun h=>Option.some.inj ((List.getElem?_eq_getElem h).symm.trans h7)
 have hp:=gW;have u12:IntKind.i64.wrap (1+1)=2:=rfl;have u13:IntKind.i64.wrap (1+2)=3:=rfl;have u14:IntKind.i64.wrap (1+3)=4:=rfl;have u15:IntKind.i64.wrap (1+4)=5:=rfl;have hip:=fE (n:=(i:Int)) (by omega);have hip' :(zS (i:Int)).length+1≤9223372036854775807:=by unfold zS;omega
 have X6:1+(zS (i:Int)).length≤9223372036854775807:=by omega
 have hi3:(i:Int)<6:=by omega
 have J3:K1%3=1:=hJ;have h:ad (aC prog) (fun _=>[]) (aO prog) (dD ⟨kd,(A1,A2,A3),(B1,B2,B3),N,(K1,K2,K3,K4)⟩) 1 9 [.agg [.slice 0 0 n none,.slice 1 0 k none],.agg C,.int .i64 i] [.qF,.qF]=some ⟨(.agg (aZ (bF i) (.slice 2 0 n none) (.slice 3 0 2 none) (.slice 4 0 1 none))),none,(iH 2 ⟨kd,(A1,A2,A3),(B1,B2,B3),N,(K1,K2,K3,K4)⟩ n i 1)⟩:=by simp[ad,abL,f9,dD,ar,cQ,zA,l0,j0,j7,h1,hA,←e1,Xg,tk,YZ,wN,←ho,go,gi,w0,w1,X6,gd,bO,aL,-ay,cm WS,cm hb1, jo,ph,By,mh,cj,jd,bef,abM,abN, Nat.testBit,J3,aZ,bF,PJ,iH,jm,fY,eG,bp,hn,hl,hi3,List.idxOf?_cons]
 have:=(au af (aw _) okd (ax _) h).1;rw[←hC];simpa [HS.mem] using this
theorem zB(hk:d.kind%5=0)(hJ:d.K.1%3=2):
  mB prog 9 [.agg [.slice 0 0 n none,.slice 1 0 k none],.agg d.cells,.int .i64 i] [.qF,.qF] (.agg (aZ (bF i) (.slice 2 0 n none) (.slice 3 0 3 none) (.slice 4 0 2 none))) ([.qF,.qF]++(iH 2 d n i 2)):=by
 have PP:=abO;simp only[aP,bQ,f9,List.nil_append,List.append_nil,List.cons_append,List.map_cons,List.map_nil,List.cons.injEq,and_true] at PP;obtain⟨WS,hb1,WE,hb3,hb4,hb5,hb6⟩:=PP;have hN:=hd.N;have hB:=vf hd.B;have hA:=vf hd.A;have n1:=dj d.A;have m1:=iw d.B;have q3:=ru d.N 5 (by decide);have h8:=UK d;have h0:=UG d;have h4:=UH d;have h5:=UI d;have h6:=UJ d;have h7:=TD d;have h1:=UL d;have l0:=xy d;have r0:=gQ d;have o0:=Kf d;have okd:=ir d hd;clear hd;obtain⟨kd,⟨A1,A2,A3⟩,⟨B1,B2,B3⟩,N,⟨K1,K2,K3,K4⟩⟩:=d;simp only at hk hN hB hA n1 m1 q3 h8 h0 h4 h5 h6 h7 h1 ⊢;simp only[Int.cast_ofNat_Int] at q3;unfold Lf at hN;obtain⟨Yq,Yr,YK⟩:=hB;simp only at Yq Yr YK;have wN:IntKind.i64.wrap N=N:=bN (by omega) (by omega);have wB1:IntKind.i64.wrap B1=B1:=bN (by omega) (by omega);have wB2:IntKind.i64.wrap B2=B2:=bN (by omega) (by omega);have wB3:IntKind.i64.wrap B3=B3:=bN (by omega) (by omega);have YZ:((kd:Nat):Int).tmod 5=0:=by have:((kd:Nat):Int).tmod 5=((kd%5:Nat):Int):=rfl;rw[this,hk];rfl
 obtain⟨⟨nx,ny,nz⟩,e1⟩:∃v,v=bE (A1,A2,A3):=⟨_,rfl⟩
 rw[←e1] at n1;have e2:sG (B1,B2,B3)=(B1.tmod 3,B2.tmod 3,B3.tmod 3):=rfl;rw[e2] at m1;obtain⟨o,ho⟩:∃o,o=N.tmod 5:=⟨_,rfl⟩
 rw[←ho] at q3;have go:o.natAbs<100000000:=by omega
 have gi:i<100000000:=by omega
 obtain⟨bx,YS⟩:∃o,o=B1.tmod 3:=⟨_,rfl⟩
 obtain⟨YF,ZJ⟩:∃o,o=B2.tmod 3:=⟨_,rfl⟩
 obtain⟨bz,Yc⟩:∃o,o=B3.tmod 3:=⟨_,rfl⟩
 rw[←YS,←ZJ,←Yc] at m1 e2;obtain⟨g1,g2,g3⟩:=m1;simp only at g1 g2 g3;have g1' :bx.natAbs≤10000:=by omega
 have g2' :YF.natAbs≤10000:=by omega
 have g3' :bz.natAbs≤10000:=by omega
 have m2:gm 2 (bx,YF,bz):=⟨g1,g2,g3⟩;obtain⟨C,hC⟩:∃C,C=aao.cells ⟨kd,(A1,A2,A3),(B1,B2,B3),N,(K1,K2,K3,K4)⟩:=⟨_,rfl⟩
 rw[←hC] at h8 h0 h4 h5 h6 h7 h1 l0 r0 o0;have Xg :aao.cells ⟨kd,(A1,A2,A3),(B1,B2,B3),N,(K1,K2,K3,K4)⟩=C:=hC.symm;have tk:C.take 12=C:=List.take_of_length_le (by omega);have j8:∀h,C[8]'h=_:=fun h=>Option.some.inj ((List.getElem?_eq_getElem h).symm.trans h8)
 have j0:∀h,C[0]'h=_:=fun h=>Option.some.inj ((List.getElem?_eq_getElem h).symm.trans h0)
 have j4:∀h,C[4]'h=_:=fun h=>Option.some.inj ((List.getElem?_eq_getElem h).symm.trans h4)
 have j5:∀h,C[5]'h=_:=fun h=>Option.some.inj ((List.getElem?_eq_getElem h).symm.trans h5)
 have j6:∀h,C[6]'h=_:=fun h=>Option.some.inj ((List.getElem?_eq_getElem h).symm.trans h6)
 have j7:∀h,C[7]'h=_:=fun h=>Option.some.inj ((List.getElem?_eq_getElem h).symm.trans h7)
 have hp:=gW;have u12:IntKind.i64.wrap (1+1)=2:=rfl;have u13:IntKind.i64.wrap (1+2)=3:=rfl;have u14:IntKind.i64.wrap (1+3)=4:=rfl;have u15:IntKind.i64.wrap (1+4)=5:=rfl;have hip:=fE (n:=(i:Int)) (by omega);have hip' :(zS (i:Int)).length+1≤9223372036854775807:=by unfold zS;omega
 have X6:1+(zS (i:Int)).length≤9223372036854775807:=by omega
 have hi3:(i:Int)<6:=by omega
 have J3:K1%3=2:=hJ;have h:ad (aC prog) (fun _=>[]) (aO prog) (dD ⟨kd,(A1,A2,A3),(B1,B2,B3),N,(K1,K2,K3,K4)⟩) 1 9 [.agg [.slice 0 0 n none,.slice 1 0 k none],.agg C,.int .i64 i] [.qF,.qF]=some ⟨(.agg (aZ (bF i) (.slice 2 0 n none) (.slice 3 0 3 none) (.slice 4 0 2 none))),none,(iH 2 ⟨kd,(A1,A2,A3),(B1,B2,B3),N,(K1,K2,K3,K4)⟩ n i 2)⟩:=by simp[ad,abL,f9,dD,ar,cQ,zA,l0,j0,j7,h1,hA,←e1,Xg,tk,YZ,wN,←ho,go,gi,w0,w1,X6,gd,bO,aL,-ay,cm WS,cm hb1, jo,ph,By,mh,cj,jd,bef,abM,abN, Nat.testBit,J3,aZ,bF,PJ,iH,jm,fY,eG,bp,hn,hl,hi3,List.idxOf?_cons]
 have:=(au af (aw _) okd (ax _) h).1;rw[←hC];simpa [HS.mem] using this
end
end Go.Proofs
