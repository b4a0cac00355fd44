/- See N58. -/
import Derived.Test.YtmhkeaphiadacaaGreatDoorN30
set_option linter.all false
namespace Go.Proofs
open Go.Eng
set_option maxRecDepth 8192 in
set_option maxHeartbeats 12800000 in
theorem wU(d:Deed) (hd:d.Ok) (n k i:Nat) (hi:i<6) (hn:0<n) (hl:n≤1000) (hk:d.kind%5=3):
  ACallsTo Tryz.prog 9 [.agg [.slice 0 0 n none,.slice 1 0 k none],.agg d.cells,.int .i64 i] [.absent,.absent] (.agg (cn (bj i) (bf d.A) (d.N.tmod 5) (1+(d.K.1%4:Nat)) (fw i))) ([.absent,.absent]++[]):=by
 have hG:aI Tryz.prog 9=some Tryz.f9:=by kernel_rfl
 obtain⟨os,hops⟩:∃os,aG Tryz.f9=os:=⟨_,rfl⟩
 have hbs:=aV hops (ls:=[[0,0,2,6,14,30,63,0,255],[0,1,3,7,15,0,32,96,255,0,1023],[0,0,0,4,12,28,60,0,128,384,896,1920,0,4096,12288,28672,61440,131068,262142,524287,1048575,2097151],[0,0,0,4,12,28,60,0,128,384,896,1920,0,4096,12288,28672,61440,131068,262142,524287,1048575,2097151],[0,1,3,0,8,24,56,0,128,504,1016,0,0,6144,14336,30720,63488,129024,0,262144,786432,1835008,3932160,8126464,16777208,33554424,67108856,134217727,268435455,536870911,1073741823],[0,0,2,6,14,30,62,126,0,510,1022,2047,4095,8191],[0,0,0,0,0,0,63,0,128,384,896,2047,4095,0,8192,24576,57344,122880,0,262144,786432,1835008,3932160,0,8388608,25165824,58720256,125829120,268427264,536870911,1073741823,2147483647]]) (by kernel_rfl)
 simp only[aG,bC,Tryz.f9,List.nil_append,List.append_nil,List.cons_append] at hops
 subst hops
 simp only[List.map_cons,List.map_nil,List.cons.injEq,and_true] at hbs
 obtain⟨hb0,hb1,hb2,hb3,hb4,hb5,hb6⟩:=hbs
 have a08:aS [0,0,2,6,14,30,63,0,255] 8=true:=by decide
 have a110:aS [0,1,3,7,15,0,32,96,255,0,1023] 10=true:=by decide
 have a221:aS [0,0,0,4,12,28,60,0,128,384,896,1920,0,4096,12288,28672,61440,131068,262142,524287,1048575,2097151] 21=true:=by decide
 have a513:aS [0,0,2,6,14,30,62,126,0,510,1022,2047,4095,8191] 13=true:=by decide
 have a631:aS [0,0,0,0,0,0,63,0,128,384,896,2047,4095,0,8192,24576,57344,122880,0,262144,786432,1835008,3932160,0,8388608,25165824,58720256,125829120,268427264,536870911,1073741823,2147483647] 31=true:=by decide
 have hN:=hd.N
 have hB:=sj hd.B
 have hA:=sj hd.A
 have n1:=cr d.A
 have m1:=gc d.B
 have q3:=pj d.N 5 (by decide)
 have h8:=Qr d
 have h0:=Qn d
 have h4:=Qo d
 have h5:=Qp d
 have h6:=Qq d
 have h7:=Pg d
 have h1:=Qs d
 have l0:=iC d
 have r0:=fo d
 have o0:=oG d
 have okd:=fV d hd
 clear hd
 obtain⟨kd,⟨A1,A2,A3⟩,⟨B1,B2,B3⟩,N,⟨K1,K2,K3,K4⟩⟩:=d
 simp only at hk hN hB hA n1 m1 q3 h8 h0 h4 h5 h6 h7 h1 ⊢
 simp only[Int.cast_ofNat_Int] at q3
 unfold HI at hN
 obtain⟨hB1,hB2,hB3⟩:=hB
 simp only at hB1 hB2 hB3
 have wN:IntKind.i64.wrap N=N:=bo (by omega) (by omega)
 have wB1:IntKind.i64.wrap B1=B1:=bo (by omega) (by omega)
 have wB2:IntKind.i64.wrap B2=B2:=bo (by omega) (by omega)
 have wB3:IntKind.i64.wrap B3=B3:=bo (by omega) (by omega)
 have hkt:((kd:Nat):Int).tmod 5=3:=by
  have:((kd:Nat):Int).tmod 5=((kd%5:Nat):Int):=rfl
  rw[this,hk];rfl
 obtain⟨⟨nx,ny,nz⟩,e1⟩:∃v,v=bf (A1,A2,A3):=⟨_,rfl⟩
 rw[←e1] at n1
 have e2:qq (B1,B2,B3)=(B1.tmod 3,B2.tmod 3,B3.tmod 3):=rfl
 rw[e2] at m1
 obtain⟨o,ho⟩:∃o,o=N.tmod 5:=⟨_,rfl⟩
 rw[←ho] at q3
 have go:o.natAbs<100000000:=by omega
 have gi:i<100000000:=by omega
 obtain⟨bx,hbx⟩:∃o,o=B1.tmod 3:=⟨_,rfl⟩
 obtain⟨by',hby⟩:∃o,o=B2.tmod 3:=⟨_,rfl⟩
 obtain⟨bz,hbz⟩:∃o,o=B3.tmod 3:=⟨_,rfl⟩
 rw[←hbx,←hby,←hbz] at m1 e2
 obtain⟨g1,g2,g3⟩:=m1
 simp only at g1 g2 g3
 have g1' :bx.natAbs≤10000:=by omega
 have g2' :by'.natAbs≤10000:=by omega
 have g3' :bz.natAbs≤10000:=by omega
 have m2:fI 2 (bx,by',bz):=⟨g1,g2,g3⟩
 obtain⟨C,hC⟩:∃C,C=Deed.cells ⟨kd,(A1,A2,A3),(B1,B2,B3),N,(K1,K2,K3,K4)⟩:=⟨_,rfl⟩
 rw[←hC] at h8 h0 h4 h5 h6 h7 h1 l0 r0 o0
 have hC' :Deed.cells ⟨kd,(A1,A2,A3),(B1,B2,B3),N,(K1,K2,K3,K4)⟩=C:=hC.symm
 have tk:C.take 12=C:=List.take_of_length_le (by omega)
 have j8:∀h,C[8]'h=_:=fun h=>Option.some.inj ((List.getElem?_eq_getElem h).symm.trans h8)
 have j0:∀h,C[0]'h=_:=fun h=>Option.some.inj ((List.getElem?_eq_getElem h).symm.trans h0)
 have j4:∀h,C[4]'h=_:=fun h=>Option.some.inj ((List.getElem?_eq_getElem h).symm.trans h4)
 have j5:∀h,C[5]'h=_:=fun h=>Option.some.inj ((List.getElem?_eq_getElem h).symm.trans h5)
 have j6:∀h,C[6]'h=_:=fun h=>Option.some.inj ((List.getElem?_eq_getElem h).symm.trans h6)
 have j7:∀h,C[7]'h=_:=fun h=>Option.some.inj ((List.getElem?_eq_getElem h).symm.trans h7)
 have hp:=fH
 have w1:IntKind.i64.wrap 1=1:=rfl
 have w2:IntKind.i64.wrap 2=2:=rfl
 have w3:IntKind.i64.wrap 3=3:=rfl
 have w4:IntKind.i64.wrap 4=4:=rfl
 have w5:IntKind.i64.wrap 5=5:=rfl
 have w0:IntKind.i64.wrap 0=0:=rfl
 have u12:IntKind.i64.wrap (1+1)=2:=rfl
 have u13:IntKind.i64.wrap (1+2)=3:=rfl
 have u14:IntKind.i64.wrap (1+3)=4:=rfl
 have u15:IntKind.i64.wrap (1+4)=5:=rfl
 have hip:=eh (n:=(i:Int)) (by omega)
 have hip' :(zS (i:Int)).length+1≤9223372036854775807:=by unfold zS;omega
 have hip2:1+(zS (i:Int)).length≤9223372036854775807:=by omega
 have h:ab (az Tryz.prog) (fun _=>[]) (aI Tryz.prog) (cS ⟨kd,(A1,A2,A3),(B1,B2,B3),N,(K1,K2,K3,K4)⟩) 1 9 [.agg [.slice 0 0 n none,.slice 1 0 k none],.agg C,.int .i64 i] [.absent,.absent]=some ⟨(.agg (cn (bj i) (bf (A1,A2,A3)) (N.tmod 5) (1+(K1%4:Nat)) (fw i))),none,[]⟩:=by
  rw[←e1,←ho]
  have t4:((K1:Nat):Int).tmod 4=((K1%4:Nat):Int):=rfl
  have x4:K1%4<4:=Nat.mod_lt _ (by decide)
  obtain⟨x,hx⟩:∃x,x=K1%4:=⟨_,rfl⟩
  rw[←hx] at t4 x4 ⊢
  have y0:IntKind.i64.wrap (x:Int)=(x:Int):=bo (by omega) (by omega)
  have y1:IntKind.i64.wrap (1+(x:Int))=1+(x:Int):=bo (by omega) (by omega)
  have y2:(1+(x:Int)).natAbs<100000000:=by omega
  have eQ:∀z:Int,mkRat z 2=hQ z:=fun _=>rfl
  simp[ab,hG,Tryz.f9,cS,ao,cj,zA,l0,r0,o0,j8,j0,j4,j5,j6,j7,h1,hA,←e1,hC',tk,hkt,wN,wB1,wB2,wB3,←ho,←hbx,←hby,←hbz,go,gi,g1',g2',g3',hp,n1,m2,w0,w1,w2,w3,w4,w5,u12,u13,u14,u15,hip',hip2,dX,bB,ar,-aF,bQ hb0,bQ hb1,bQ hb5,ie,nI,zb,kB,cf,qL,bef,a08,a110,a513,Nat.testBit,t4,y0,y1,y2,eQ,cn,bj,fw]
 have:=(ae aa (ai _) okd (aj _) h).1
 rw[←hC]
 simpa [CallRes.mem] using this
set_option maxRecDepth 8192 in
set_option maxHeartbeats 12800000 in
theorem wW(d:Deed) (hd:d.Ok) (n k i:Nat) (hi:i<6) (hn:0<n) (hl:n≤1000) (hk:d.kind%5=4):
  ACallsTo Tryz.prog 9 [.agg [.slice 0 0 n none,.slice 1 0 k none],.agg d.cells,.int .i64 i] [.absent,.absent] (.agg (cG (bj i) (ed (d.K.1%6)) (qq d.B))) ([.absent,.absent]++[]):=by
 have hG:aI Tryz.prog 9=some Tryz.f9:=by kernel_rfl
 obtain⟨os,hops⟩:∃os,aG Tryz.f9=os:=⟨_,rfl⟩
 have hbs:=aV hops (ls:=[[0,0,2,6,14,30,63,0,255],[0,1,3,7,15,0,32,96,255,0,1023],[0,0,0,4,12,28,60,0,128,384,896,1920,0,4096,12288,28672,61440,131068,262142,524287,1048575,2097151],[0,0,0,4,12,28,60,0,128,384,896,1920,0,4096,12288,28672,61440,131068,262142,524287,1048575,2097151],[0,1,3,0,8,24,56,0,128,504,1016,0,0,6144,14336,30720,63488,129024,0,262144,786432,1835008,3932160,8126464,16777208,33554424,67108856,134217727,268435455,536870911,1073741823],[0,0,2,6,14,30,62,126,0,510,1022,2047,4095,8191],[0,0,0,0,0,0,63,0,128,384,896,2047,4095,0,8192,24576,57344,122880,0,262144,786432,1835008,3932160,0,8388608,25165824,58720256,125829120,268427264,536870911,1073741823,2147483647]]) (by kernel_rfl)
 simp only[aG,bC,Tryz.f9,List.nil_append,List.append_nil,List.cons_append] at hops
 subst hops
 simp only[List.map_cons,List.map_nil,List.cons.injEq,and_true] at hbs
 obtain⟨hb0,hb1,hb2,hb3,hb4,hb5,hb6⟩:=hbs
 have a08:aS [0,0,2,6,14,30,63,0,255] 8=true:=by decide
 have a110:aS [0,1,3,7,15,0,32,96,255,0,1023] 10=true:=by decide
 have a221:aS [0,0,0,4,12,28,60,0,128,384,896,1920,0,4096,12288,28672,61440,131068,262142,524287,1048575,2097151] 21=true:=by decide
 have a513:aS [0,0,2,6,14,30,62,126,0,510,1022,2047,4095,8191] 13=true:=by decide
 have a631:aS [0,0,0,0,0,0,63,0,128,384,896,2047,4095,0,8192,24576,57344,122880,0,262144,786432,1835008,3932160,0,8388608,25165824,58720256,125829120,268427264,536870911,1073741823,2147483647] 31=true:=by decide
 have hN:=hd.N
 have hB:=sj hd.B
 have hA:=sj hd.A
 have n1:=cr d.A
 have m1:=gc d.B
 have q3:=pj d.N 5 (by decide)
 have h8:=Qr d
 have h0:=Qn d
 have h4:=Qo d
 have h5:=Qp d
 have h6:=Qq d
 have h7:=Pg d
 have h1:=Qs d
 have l0:=iC d
 have r0:=fo d
 have o0:=oG d
 have okd:=fV d hd
 clear hd
 obtain⟨kd,⟨A1,A2,A3⟩,⟨B1,B2,B3⟩,N,⟨K1,K2,K3,K4⟩⟩:=d
 simp only at hk hN hB hA n1 m1 q3 h8 h0 h4 h5 h6 h7 h1 ⊢
 simp only[Int.cast_ofNat_Int] at q3
 unfold HI at hN
 obtain⟨hB1,hB2,hB3⟩:=hB
 simp only at hB1 hB2 hB3
 have wN:IntKind.i64.wrap N=N:=bo (by omega) (by omega)
 have wB1:IntKind.i64.wrap B1=B1:=bo (by omega) (by omega)
 have wB2:IntKind.i64.wrap B2=B2:=bo (by omega) (by omega)
 have wB3:IntKind.i64.wrap B3=B3:=bo (by omega) (by omega)
 have hkt:((kd:Nat):Int).tmod 5=4:=by
  have:((kd:Nat):Int).tmod 5=((kd%5:Nat):Int):=rfl
  rw[this,hk];rfl
 obtain⟨⟨nx,ny,nz⟩,e1⟩:∃v,v=bf (A1,A2,A3):=⟨_,rfl⟩
 rw[←e1] at n1
 have e2:qq (B1,B2,B3)=(B1.tmod 3,B2.tmod 3,B3.tmod 3):=rfl
 rw[e2] at m1
 obtain⟨o,ho⟩:∃o,o=N.tmod 5:=⟨_,rfl⟩
 rw[←ho] at q3
 have go:o.natAbs<100000000:=by omega
 have gi:i<100000000:=by omega
 obtain⟨bx,hbx⟩:∃o,o=B1.tmod 3:=⟨_,rfl⟩
 obtain⟨by',hby⟩:∃o,o=B2.tmod 3:=⟨_,rfl⟩
 obtain⟨bz,hbz⟩:∃o,o=B3.tmod 3:=⟨_,rfl⟩
 rw[←hbx,←hby,←hbz] at m1 e2
 obtain⟨g1,g2,g3⟩:=m1
 simp only at g1 g2 g3
 have g1' :bx.natAbs≤10000:=by omega
 have g2' :by'.natAbs≤10000:=by omega
 have g3' :bz.natAbs≤10000:=by omega
 have m2:fI 2 (bx,by',bz):=⟨g1,g2,g3⟩
 obtain⟨C,hC⟩:∃C,C=Deed.cells ⟨kd,(A1,A2,A3),(B1,B2,B3),N,(K1,K2,K3,K4)⟩:=⟨_,rfl⟩
 rw[←hC] at h8 h0 h4 h5 h6 h7 h1 l0 r0 o0
 have hC' :Deed.cells ⟨kd,(A1,A2,A3),(B1,B2,B3),N,(K1,K2,K3,K4)⟩=C:=hC.symm
 have tk:C.take 12=C:=List.take_of_length_le (by omega)
 have j8:∀h,C[8]'h=_:=fun h=>Option.some.inj ((List.getElem?_eq_getElem h).symm.trans h8)
 have j0:∀h,C[0]'h=_:=fun h=>Option.some.inj ((List.getElem?_eq_getElem h).symm.trans h0)
 have j4:∀h,C[4]'h=_:=fun h=>Option.some.inj ((List.getElem?_eq_getElem h).symm.trans h4)
 have j5:∀h,C[5]'h=_:=fun h=>Option.some.inj ((List.getElem?_eq_getElem h).symm.trans h5)
 have j6:∀h,C[6]'h=_:=fun h=>Option.some.inj ((List.getElem?_eq_getElem h).symm.trans h6)
 have j7:∀h,C[7]'h=_:=fun h=>Option.some.inj ((List.getElem?_eq_getElem h).symm.trans h7)
 have hp:=fH
 have w1:IntKind.i64.wrap 1=1:=rfl
 have w2:IntKind.i64.wrap 2=2:=rfl
 have w3:IntKind.i64.wrap 3=3:=rfl
 have w4:IntKind.i64.wrap 4=4:=rfl
 have w5:IntKind.i64.wrap 5=5:=rfl
 have w0:IntKind.i64.wrap 0=0:=rfl
 have u12:IntKind.i64.wrap (1+1)=2:=rfl
 have u13:IntKind.i64.wrap (1+2)=3:=rfl
 have u14:IntKind.i64.wrap (1+3)=4:=rfl
 have u15:IntKind.i64.wrap (1+4)=5:=rfl
 have hip:=eh (n:=(i:Int)) (by omega)
 have hip' :(zS (i:Int)).length+1≤9223372036854775807:=by unfold zS;omega
 have hip2:1+(zS (i:Int)).length≤9223372036854775807:=by omega
 have h:ab (az Tryz.prog) (fun _=>[]) (aI Tryz.prog) (cS ⟨kd,(A1,A2,A3),(B1,B2,B3),N,(K1,K2,K3,K4)⟩) 1 9 [.agg [.slice 0 0 n none,.slice 1 0 k none],.agg C,.int .i64 i] [.absent,.absent]=some ⟨(.agg (cG (bj i) (ed (K1%6)) (qq (B1,B2,B3)))),none,[]⟩:=by
  rw[e2]
  have t6:((K1:Nat):Int).tmod 6=((K1%6:Nat):Int):=rfl
  have x6:K1%6<6:=Nat.mod_lt _ (by decide)
  obtain⟨x,hx⟩:∃x,x=K1%6:=⟨_,rfl⟩
  rw[←hx] at t6 x6 ⊢
  have y1:(List.drop (x*4) ([.int .i64 1,.int .i64 0,.int .i64 0,.int .i64 1,.int .i64 2,.int .i64 1,.int .i64 0,.int .i64 0,.int .i64 1,.int .i64 1,.int .i64 1,.int .i64 1,.int .i64 3,.int .i64 0,.int .i64 1,.int .i64 0,.int .i64 0,.int .i64 1,.int .i64 0,.int .i64 0,.int .i64 1,.int .i64 0,.int .i64 0,.int .i64 0]:List AV)).take 4=[.int .i64 (ed x).1,.int .i64 (ed x).2.1,.int .i64 (ed x).2.2.1,.int .i64 (ed x).2.2.2]:=by
   have:x=0∨x=1∨x=2∨x=3∨x=4∨x=5:=by omega
   rcases this with rfl | rfl | rfl | rfl | rfl | rfl<;>rfl
  have y2:x*4+4≤24:=by omega
  have y3:(x:Int)<6:=by omega
  have y4:x*4≤20:=by omega
  obtain⟨⟨ta,tb,tc,td⟩,hT⟩:∃t,t=ed x:=⟨_,rfl⟩
  rw[←hT] at y1 ⊢
  simp only at y1
  simp[ab,hG,Tryz.f9,cS,ao,cj,zA,l0,r0,o0,j8,j0,j4,j5,j6,j7,h1,hA,←e1,hC',tk,hkt,wN,wB1,wB2,wB3,←ho,←hbx,←hby,←hbz,go,gi,g1',g2',g3',hp,n1,m2,w0,w1,w2,w3,w4,w5,u12,u13,u14,u15,hip',hip2,dX,bB,ar,-aF,bQ hb0,bQ hb1,bQ hb6,ie,nI,zb,kB,cf,qL,bef,a08,a110,a631,Nat.testBit,t6,x6,y1,y2,y3,y4,cG,bj]
 have:=(ae aa (ai _) okd (aj _) h).1
 rw[←hC]
 simpa [CallRes.mem] using this
set_option maxRecDepth 8192 in
set_option maxHeartbeats 12800000 in
theorem wR(d:Deed) (hd:d.Ok) (n k i:Nat) (hi:i<6) (hn:0<n) (hl:n≤1000) (hk:d.kind%5=0) (hJ:d.K.1%3=0):
  ACallsTo Tryz.prog 9 [.agg [.slice 0 0 n none,.slice 1 0 k none],.agg d.cells,.int .i64 i] [.absent,.absent] (.agg (aQ (bj i) (.slice 2 0 n none) (.slice 3 0 1 none) .nilslice)) ([.absent,.absent]++(gl 2 d n i 0)):=by
 have hG:aI Tryz.prog 9=some Tryz.f9:=by kernel_rfl
 obtain⟨os,hops⟩:∃os,aG Tryz.f9=os:=⟨_,rfl⟩
 have hbs:=aV hops (ls:=[[0,0,2,6,14,30,63,0,255],[0,1,3,7,15,0,32,96,255,0,1023],[0,0,0,4,12,28,60,0,128,384,896,1920,0,4096,12288,28672,61440,131068,262142,524287,1048575,2097151],[0,0,0,4,12,28,60,0,128,384,896,1920,0,4096,12288,28672,61440,131068,262142,524287,1048575,2097151],[0,1,3,0,8,24,56,0,128,504,1016,0,0,6144,14336,30720,63488,129024,0,262144,786432,1835008,3932160,8126464,16777208,33554424,67108856,134217727,268435455,536870911,1073741823],[0,0,2,6,14,30,62,126,0,510,1022,2047,4095,8191],[0,0,0,0,0,0,63,0,128,384,896,2047,4095,0,8192,24576,57344,122880,0,262144,786432,1835008,3932160,0,8388608,25165824,58720256,125829120,268427264,536870911,1073741823,2147483647]]) (by kernel_rfl)
 simp only[aG,bC,Tryz.f9,List.nil_append,List.append_nil,List.cons_append] at hops
 subst hops
 simp only[List.map_cons,List.map_nil,List.cons.injEq,and_true] at hbs
 obtain⟨hb0,hb1,hb2,hb3,hb4,hb5,hb6⟩:=hbs
 have a08:aS [0,0,2,6,14,30,63,0,255] 8=true:=by decide
 have a110:aS [0,1,3,7,15,0,32,96,255,0,1023] 10=true:=by decide
 have a221:aS [0,0,0,4,12,28,60,0,128,384,896,1920,0,4096,12288,28672,61440,131068,262142,524287,1048575,2097151] 21=true:=by decide
 have a513:aS [0,0,2,6,14,30,62,126,0,510,1022,2047,4095,8191] 13=true:=by decide
 have a631:aS [0,0,0,0,0,0,63,0,128,384,896,2047,4095,0,8192,24576,57344,122880,0,262144,786432,1835008,3932160,0,8388608,25165824,58720256,125829120,268427264,536870911,1073741823,2147483647] 31=true:=by decide
 have hN:=hd.N
 have hB:=sj hd.B
 have hA:=sj hd.A
 have n1:=cr d.A
 have m1:=gc d.B
 have q3:=pj d.N 5 (by decide)
 have h8:=Qr d
 have h0:=Qn d
 have h4:=Qo d
 have h5:=Qp d
 have h6:=Qq d
 have h7:=Pg d
 have h1:=Qs d
 have l0:=iC d
 have r0:=fo d
 have o0:=oG d
 have okd:=fV d hd
 clear hd
 obtain⟨kd,⟨A1,A2,A3⟩,⟨B1,B2,B3⟩,N,⟨K1,K2,K3,K4⟩⟩:=d
 simp only at hk hN hB hA n1 m1 q3 h8 h0 h4 h5 h6 h7 h1 ⊢
 simp only[Int.cast_ofNat_Int] at q3
 unfold HI at hN
 obtain⟨hB1,hB2,hB3⟩:=hB
 simp only at hB1 hB2 hB3
 have wN:IntKind.i64.wrap N=N:=bo (by omega) (by omega)
 have wB1:IntKind.i64.wrap B1=B1:=bo (by omega) (by omega)
 have wB2:IntKind.i64.wrap B2=B2:=bo (by omega) (by omega)
 have wB3:IntKind.i64.wrap B3=B3:=bo (by omega) (by omega)
 have hkt:((kd:Nat):Int).tmod 5=0:=by
  have:((kd:Nat):Int).tmod 5=((kd%5:Nat):Int):=rfl
  rw[this,hk];rfl
 obtain⟨⟨nx,ny,nz⟩,e1⟩:∃v,v=bf (A1,A2,A3):=⟨_,rfl⟩
 rw[←e1] at n1
 have e2:qq (B1,B2,B3)=(B1.tmod 3,B2.tmod 3,B3.tmod 3):=rfl
 rw[e2] at m1
 obtain⟨o,ho⟩:∃o,o=N.tmod 5:=⟨_,rfl⟩
 rw[←ho] at q3
 have go:o.natAbs<100000000:=by omega
 have gi:i<100000000:=by omega
 obtain⟨bx,hbx⟩:∃o,o=B1.tmod 3:=⟨_,rfl⟩
 obtain⟨by',hby⟩:∃o,o=B2.tmod 3:=⟨_,rfl⟩
 obtain⟨bz,hbz⟩:∃o,o=B3.tmod 3:=⟨_,rfl⟩
 rw[←hbx,←hby,←hbz] at m1 e2
 obtain⟨g1,g2,g3⟩:=m1
 simp only at g1 g2 g3
 have g1' :bx.natAbs≤10000:=by omega
 have g2' :by'.natAbs≤10000:=by omega
 have g3' :bz.natAbs≤10000:=by omega
 have m2:fI 2 (bx,by',bz):=⟨g1,g2,g3⟩
 obtain⟨C,hC⟩:∃C,C=Deed.cells ⟨kd,(A1,A2,A3),(B1,B2,B3),N,(K1,K2,K3,K4)⟩:=⟨_,rfl⟩
 rw[←hC] at h8 h0 h4 h5 h6 h7 h1 l0 r0 o0
 have hC' :Deed.cells ⟨kd,(A1,A2,A3),(B1,B2,B3),N,(K1,K2,K3,K4)⟩=C:=hC.symm
 have tk:C.take 12=C:=List.take_of_length_le (by omega)
 have j8:∀h,C[8]'h=_:=fun h=>Option.some.inj ((List.getElem?_eq_getElem h).symm.trans h8)
 have j0:∀h,C[0]'h=_:=fun h=>Option.some.inj ((List.getElem?_eq_getElem h).symm.trans h0)
 have j4:∀h,C[4]'h=_:=fun h=>Option.some.inj ((List.getElem?_eq_getElem h).symm.trans h4)
 have j5:∀h,C[5]'h=_:=fun h=>Option.some.inj ((List.getElem?_eq_getElem h).symm.trans h5)
 have j6:∀h,C[6]'h=_:=fun h=>Option.some.inj ((List.getElem?_eq_getElem h).symm.trans h6)
 have j7:∀h,C[7]'h=_:=fun h=>Option.some.inj ((List.getElem?_eq_getElem h).symm.trans h7)
 have hp:=fH
 have w1:IntKind.i64.wrap 1=1:=rfl
 have w2:IntKind.i64.wrap 2=2:=rfl
 have w3:IntKind.i64.wrap 3=3:=rfl
 have w4:IntKind.i64.wrap 4=4:=rfl
 have w5:IntKind.i64.wrap 5=5:=rfl
 have w0:IntKind.i64.wrap 0=0:=rfl
 have u12:IntKind.i64.wrap (1+1)=2:=rfl
 have u13:IntKind.i64.wrap (1+2)=3:=rfl
 have u14:IntKind.i64.wrap (1+3)=4:=rfl
 have u15:IntKind.i64.wrap (1+4)=5:=rfl
 have hip:=eh (n:=(i:Int)) (by omega)
 have hip' :(zS (i:Int)).length+1≤9223372036854775807:=by unfold zS;omega
 have hip2:1+(zS (i:Int)).length≤9223372036854775807:=by omega
 have hi3:(i:Int)<6:=by omega
 have J3:K1%3=0:=hJ
 have h:ab (az Tryz.prog) (fun _=>[]) (aI Tryz.prog) (cS ⟨kd,(A1,A2,A3),(B1,B2,B3),N,(K1,K2,K3,K4)⟩) 1 9 [.agg [.slice 0 0 n none,.slice 1 0 k none],.agg C,.int .i64 i] [.absent,.absent]=some ⟨(.agg (aQ (bj i) (.slice 2 0 n none) (.slice 3 0 1 none) .nilslice)),none,(gl 2 ⟨kd,(A1,A2,A3),(B1,B2,B3),N,(K1,K2,K3,K4)⟩ n i 0)⟩:=by
  simp[ab,hG,Tryz.f9,cS,ao,cj,zA,l0,r0,o0,j8,j0,j4,j5,j6,j7,h1,hA,←e1,hC',tk,hkt,wN,wB1,wB2,wB3,←ho,←hbx,←hby,←hbz,go,gi,g1',g2',g3',hp,n1,m2,w0,w1,w2,w3,w4,w5,u12,u13,u14,u15,hip',hip2,dX,bB,ar,-aF,bQ hb0,bQ hb1, ie,nI,zb,kB,cf,qL,bef,a08,a110, Nat.testBit,J3,aQ,bj,LE,gl,ib,fa,di,qX,aY,hn,hl,hi,hi3,List.idxOf?_cons]
 have:=(ae aa (ai _) okd (aj _) h).1
 rw[←hC]
 simpa [CallRes.mem] using this
set_option maxRecDepth 8192 in
set_option maxHeartbeats 12800000 in
theorem wS(d:Deed) (hd:d.Ok) (n k i:Nat) (hi:i<6) (hn:0<n) (hl:n≤1000) (hk:d.kind%5=0) (hJ:d.K.1%3=1):
  ACallsTo Tryz.prog 9 [.agg [.slice 0 0 n none,.slice 1 0 k none],.agg d.cells,.int .i64 i] [.absent,.absent] (.agg (aQ (bj i) (.slice 2 0 n none) (.slice 3 0 2 none) (.slice 4 0 1 none))) ([.absent,.absent]++(gl 2 d n i 1)):=by
 have hG:aI Tryz.prog 9=some Tryz.f9:=by kernel_rfl
 obtain⟨os,hops⟩:∃os,aG Tryz.f9=os:=⟨_,rfl⟩
 have hbs:=aV hops (ls:=[[0,0,2,6,14,30,63,0,255],[0,1,3,7,15,0,32,96,255,0,1023],[0,0,0,4,12,28,60,0,128,384,896,1920,0,4096,12288,28672,61440,131068,262142,524287,1048575,2097151],[0,0,0,4,12,28,60,0,128,384,896,1920,0,4096,12288,28672,61440,131068,262142,524287,1048575,2097151],[0,1,3,0,8,24,56,0,128,504,1016,0,0,6144,14336,30720,63488,129024,0,262144,786432,1835008,3932160,8126464,16777208,33554424,67108856,134217727,268435455,536870911,1073741823],[0,0,2,6,14,30,62,126,0,510,1022,2047,4095,8191],[0,0,0,0,0,0,63,0,128,384,896,2047,4095,0,8192,24576,57344,122880,0,262144,786432,1835008,3932160,0,8388608,25165824,58720256,125829120,268427264,536870911,1073741823,2147483647]]) (by kernel_rfl)
 simp only[aG,bC,Tryz.f9,List.nil_append,List.append_nil,List.cons_append] at hops
 subst hops
 simp only[List.map_cons,List.map_nil,List.cons.injEq,and_true] at hbs
 obtain⟨hb0,hb1,hb2,hb3,hb4,hb5,hb6⟩:=hbs
 have a08:aS [0,0,2,6,14,30,63,0,255] 8=true:=by decide
 have a110:aS [0,1,3,7,15,0,32,96,255,0,1023] 10=true:=by decide
 have a221:aS [0,0,0,4,12,28,60,0,128,384,896,1920,0,4096,12288,28672,61440,131068,262142,524287,1048575,2097151] 21=true:=by decide
 have a513:aS [0,0,2,6,14,30,62,126,0,510,1022,2047,4095,8191] 13=true:=by decide
 have a631:aS [0,0,0,0,0,0,63,0,128,384,896,2047,4095,0,8192,24576,57344,122880,0,262144,786432,1835008,3932160,0,8388608,25165824,58720256,125829120,268427264,536870911,1073741823,2147483647] 31=true:=by decide
 have hN:=hd.N
 have hB:=sj hd.B
 have hA:=sj hd.A
 have n1:=cr d.A
 have m1:=gc d.B
 have q3:=pj d.N 5 (by decide)
 have h8:=Qr d
 have h0:=Qn d
 have h4:=Qo d
 have h5:=Qp d
 have h6:=Qq d
 have h7:=Pg d
 have h1:=Qs d
 have l0:=iC d
 have r0:=fo d
 have o0:=oG d
 have okd:=fV d hd
 clear hd
 obtain⟨kd,⟨A1,A2,A3⟩,⟨B1,B2,B3⟩,N,⟨K1,K2,K3,K4⟩⟩:=d
 simp only at hk hN hB hA n1 m1 q3 h8 h0 h4 h5 h6 h7 h1 ⊢
 simp only[Int.cast_ofNat_Int] at q3
 unfold HI at hN
 obtain⟨hB1,hB2,hB3⟩:=hB
 simp only at hB1 hB2 hB3
 have wN:IntKind.i64.wrap N=N:=bo (by omega) (by omega)
 have wB1:IntKind.i64.wrap B1=B1:=bo (by omega) (by omega)
 have wB2:IntKind.i64.wrap B2=B2:=bo (by omega) (by omega)
 have wB3:IntKind.i64.wrap B3=B3:=bo (by omega) (by omega)
 have hkt:((kd:Nat):Int).tmod 5=0:=by
  have:((kd:Nat):Int).tmod 5=((kd%5:Nat):Int):=rfl
  rw[this,hk];rfl
 obtain⟨⟨nx,ny,nz⟩,e1⟩:∃v,v=bf (A1,A2,A3):=⟨_,rfl⟩
 rw[←e1] at n1
 have e2:qq (B1,B2,B3)=(B1.tmod 3,B2.tmod 3,B3.tmod 3):=rfl
 rw[e2] at m1
 obtain⟨o,ho⟩:∃o,o=N.tmod 5:=⟨_,rfl⟩
 rw[←ho] at q3
 have go:o.natAbs<100000000:=by omega
 have gi:i<100000000:=by omega
 obtain⟨bx,hbx⟩:∃o,o=B1.tmod 3:=⟨_,rfl⟩
 obtain⟨by',hby⟩:∃o,o=B2.tmod 3:=⟨_,rfl⟩
 obtain⟨bz,hbz⟩:∃o,o=B3.tmod 3:=⟨_,rfl⟩
 rw[←hbx,←hby,←hbz] at m1 e2
 obtain⟨g1,g2,g3⟩:=m1
 simp only at g1 g2 g3
 have g1' :bx.natAbs≤10000:=by omega
 have g2' :by'.natAbs≤10000:=by omega
 have g3' :bz.natAbs≤10000:=by omega
 have m2:fI 2 (bx,by',bz):=⟨g1,g2,g3⟩
 obtain⟨C,hC⟩:∃C,C=Deed.cells ⟨kd,(A1,A2,A3),(B1,B2,B3),N,(K1,K2,K3,K4)⟩:=⟨_,rfl⟩
 rw[←hC] at h8 h0 h4 h5 h6 h7 h1 l0 r0 o0
 have hC' :Deed.cells ⟨kd,(A1,A2,A3),(B1,B2,B3),N,(K1,K2,K3,K4)⟩=C:=hC.symm
 have tk:C.take 12=C:=List.take_of_length_le (by omega)
 have j8:∀h,C[8]'h=_:=fun h=>Option.some.inj ((List.getElem?_eq_getElem h).symm.trans h8)
 have j0:∀h,C[0]'h=_:=fun h=>Option.some.inj ((List.getElem?_eq_getElem h).symm.trans h0)
 have j4:∀h,C[4]'h=_:=fun h=>Option.some.inj ((List.getElem?_eq_getElem h).symm.trans h4)
 have j5:∀h,C[5]'h=_:=fun h=>Option.some.inj ((List.getElem?_eq_getElem h).symm.trans h5)
 have j6:∀h,C[6]'h=_:=fun h=>Option.some.inj ((List.getElem?_eq_getElem h).symm.trans h6)
 have j7:∀h,C[7]'h=_:=fun h=>Option.some.inj ((List.getElem?_eq_getElem h).symm.trans h7)
 have hp:=fH
 have w1:IntKind.i64.wrap 1=1:=rfl
 have w2:IntKind.i64.wrap 2=2:=rfl
 have w3:IntKind.i64.wrap 3=3:=rfl
 have w4:IntKind.i64.wrap 4=4:=rfl
 have w5:IntKind.i64.wrap 5=5:=rfl
 have w0:IntKind.i64.wrap 0=0:=rfl
 have u12:IntKind.i64.wrap (1+1)=2:=rfl
 have u13:IntKind.i64.wrap (1+2)=3:=rfl
 have u14:IntKind.i64.wrap (1+3)=4:=rfl
 have u15:IntKind.i64.wrap (1+4)=5:=rfl
 have hip:=eh (n:=(i:Int)) (by omega)
 have hip' :(zS (i:Int)).length+1≤9223372036854775807:=by unfold zS;omega
 have hip2:1+(zS (i:Int)).length≤9223372036854775807:=by omega
 have hi3:(i:Int)<6:=by omega
 have J3:K1%3=1:=hJ
 have h:ab (az Tryz.prog) (fun _=>[]) (aI Tryz.prog) (cS ⟨kd,(A1,A2,A3),(B1,B2,B3),N,(K1,K2,K3,K4)⟩) 1 9 [.agg [.slice 0 0 n none,.slice 1 0 k none],.agg C,.int .i64 i] [.absent,.absent]=some ⟨(.agg (aQ (bj i) (.slice 2 0 n none) (.slice 3 0 2 none) (.slice 4 0 1 none))),none,(gl 2 ⟨kd,(A1,A2,A3),(B1,B2,B3),N,(K1,K2,K3,K4)⟩ n i 1)⟩:=by
  simp[ab,hG,Tryz.f9,cS,ao,cj,zA,l0,r0,o0,j8,j0,j4,j5,j6,j7,h1,hA,←e1,hC',tk,hkt,wN,wB1,wB2,wB3,←ho,←hbx,←hby,←hbz,go,gi,g1',g2',g3',hp,n1,m2,w0,w1,w2,w3,w4,w5,u12,u13,u14,u15,hip',hip2,dX,bB,ar,-aF,bQ hb0,bQ hb1, ie,nI,zb,kB,cf,qL,bef,a08,a110, Nat.testBit,J3,aQ,bj,LE,gl,ib,fa,di,qX,aY,hn,hl,hi,hi3,List.idxOf?_cons]
 have:=(ae aa (ai _) okd (aj _) h).1
 rw[←hC]
 simpa [CallRes.mem] using this
set_option maxRecDepth 8192 in
set_option maxHeartbeats 12800000 in
theorem wT(d:Deed) (hd:d.Ok) (n k i:Nat) (hi:i<6) (hn:0<n) (hl:n≤1000) (hk:d.kind%5=0) (hJ:d.K.1%3=2):
  ACallsTo Tryz.prog 9 [.agg [.slice 0 0 n none,.slice 1 0 k none],.agg d.cells,.int .i64 i] [.absent,.absent] (.agg (aQ (bj i) (.slice 2 0 n none) (.slice 3 0 3 none) (.slice 4 0 2 none))) ([.absent,.absent]++(gl 2 d n i 2)):=by
 have hG:aI Tryz.prog 9=some Tryz.f9:=by kernel_rfl
 obtain⟨os,hops⟩:∃os,aG Tryz.f9=os:=⟨_,rfl⟩
 have hbs:=aV hops (ls:=[[0,0,2,6,14,30,63,0,255],[0,1,3,7,15,0,32,96,255,0,1023],[0,0,0,4,12,28,60,0,128,384,896,1920,0,4096,12288,28672,61440,131068,262142,524287,1048575,2097151],[0,0,0,4,12,28,60,0,128,384,896,1920,0,4096,12288,28672,61440,131068,262142,524287,1048575,2097151],[0,1,3,0,8,24,56,0,128,504,1016,0,0,6144,14336,30720,63488,129024,0,262144,786432,1835008,3932160,8126464,16777208,33554424,67108856,134217727,268435455,536870911,1073741823],[0,0,2,6,14,30,62,126,0,510,1022,2047,4095,8191],[0,0,0,0,0,0,63,0,128,384,896,2047,4095,0,8192,24576,57344,122880,0,262144,786432,1835008,3932160,0,8388608,25165824,58720256,125829120,268427264,536870911,1073741823,2147483647]]) (by kernel_rfl)
 simp only[aG,bC,Tryz.f9,List.nil_append,List.append_nil,List.cons_append] at hops
 subst hops
 simp only[List.map_cons,List.map_nil,List.cons.injEq,and_true] at hbs
 obtain⟨hb0,hb1,hb2,hb3,hb4,hb5,hb6⟩:=hbs
 have a08:aS [0,0,2,6,14,30,63,0,255] 8=true:=by decide
 have a110:aS [0,1,3,7,15,0,32,96,255,0,1023] 10=true:=by decide
 have a221:aS [0,0,0,4,12,28,60,0,128,384,896,1920,0,4096,12288,28672,61440,131068,262142,524287,1048575,2097151] 21=true:=by decide
 have a513:aS [0,0,2,6,14,30,62,126,0,510,1022,2047,4095,8191] 13=true:=by decide
 have a631:aS [0,0,0,0,0,0,63,0,128,384,896,2047,4095,0,8192,24576,57344,122880,0,262144,786432,1835008,3932160,0,8388608,25165824,58720256,125829120,268427264,536870911,1073741823,2147483647] 31=true:=by decide
 have hN:=hd.N
 have hB:=sj hd.B
 have hA:=sj hd.A
 have n1:=cr d.A
 have m1:=gc d.B
 have q3:=pj d.N 5 (by decide)
 have h8:=Qr d
 have h0:=Qn d
 have h4:=Qo d
 have h5:=Qp d
 have h6:=Qq d
 have h7:=Pg d
 have h1:=Qs d
 have l0:=iC d
 have r0:=fo d
 have o0:=oG d
 have okd:=fV d hd
 clear hd
 obtain⟨kd,⟨A1,A2,A3⟩,⟨B1,B2,B3⟩,N,⟨K1,K2,K3,K4⟩⟩:=d
 simp only at hk hN hB hA n1 m1 q3 h8 h0 h4 h5 h6 h7 h1 ⊢
 simp only[Int.cast_ofNat_Int] at q3
 unfold HI at hN
 obtain⟨hB1,hB2,hB3⟩:=hB
 simp only at hB1 hB2 hB3
 have wN:IntKind.i64.wrap N=N:=bo (by omega) (by omega)
 have wB1:IntKind.i64.wrap B1=B1:=bo (by omega) (by omega)
 have wB2:IntKind.i64.wrap B2=B2:=bo (by omega) (by omega)
 have wB3:IntKind.i64.wrap B3=B3:=bo (by omega) (by omega)
 have hkt:((kd:Nat):Int).tmod 5=0:=by
  have:((kd:Nat):Int).tmod 5=((kd%5:Nat):Int):=rfl
  rw[this,hk];rfl
 obtain⟨⟨nx,ny,nz⟩,e1⟩:∃v,v=bf (A1,A2,A3):=⟨_,rfl⟩
 rw[←e1] at n1
 have e2:qq (B1,B2,B3)=(B1.tmod 3,B2.tmod 3,B3.tmod 3):=rfl
 rw[e2] at m1
 obtain⟨o,ho⟩:∃o,o=N.tmod 5:=⟨_,rfl⟩
 rw[←ho] at q3
 have go:o.natAbs<100000000:=by omega
 have gi:i<100000000:=by omega
 obtain⟨bx,hbx⟩:∃o,o=B1.tmod 3:=⟨_,rfl⟩
 obtain⟨by',hby⟩:∃o,o=B2.tmod 3:=⟨_,rfl⟩
 obtain⟨bz,hbz⟩:∃o,o=B3.tmod 3:=⟨_,rfl⟩
 rw[←hbx,←hby,←hbz] at m1 e2
 obtain⟨g1,g2,g3⟩:=m1
 simp only at g1 g2 g3
 have g1' :bx.natAbs≤10000:=by omega
 have g2' :by'.natAbs≤10000:=by omega
 have g3' :bz.natAbs≤10000:=by omega
 have m2:fI 2 (bx,by',bz):=⟨g1,g2,g3⟩
 obtain⟨C,hC⟩:∃C,C=Deed.cells ⟨kd,(A1,A2,A3),(B1,B2,B3),N,(K1,K2,K3,K4)⟩:=⟨_,rfl⟩
 rw[←hC] at h8 h0 h4 h5 h6 h7 h1 l0 r0 o0
 have hC' :Deed.cells ⟨kd,(A1,A2,A3),(B1,B2,B3),N,(K1,K2,K3,K4)⟩=C:=hC.symm
 have tk:C.take 12=C:=List.take_of_length_le (by omega)
 have j8:∀h,C[8]'h=_:=fun h=>Option.some.inj ((List.getElem?_eq_getElem h).symm.trans h8)
 have j0:∀h,C[0]'h=_:=fun h=>Option.some.inj ((List.getElem?_eq_getElem h).symm.trans h0)
 have j4:∀h,C[4]'h=_:=fun h=>Option.some.inj ((List.getElem?_eq_getElem h).symm.trans h4)
 have j5:∀h,C[5]'h=_:=fun h=>Option.some.inj ((List.getElem?_eq_getElem h).symm.trans h5)
 have j6:∀h,C[6]'h=_:=fun h=>Option.some.inj ((List.getElem?_eq_getElem h).symm.trans h6)
 have j7:∀h,C[7]'h=_:=fun h=>Option.some.inj ((List.getElem?_eq_getElem h).symm.trans h7)
 have hp:=fH
 have w1:IntKind.i64.wrap 1=1:=rfl
 have w2:IntKind.i64.wrap 2=2:=rfl
 have w3:IntKind.i64.wrap 3=3:=rfl
 have w4:IntKind.i64.wrap 4=4:=rfl
 have w5:IntKind.i64.wrap 5=5:=rfl
 have w0:IntKind.i64.wrap 0=0:=rfl
 have u12:IntKind.i64.wrap (1+1)=2:=rfl
 have u13:IntKind.i64.wrap (1+2)=3:=rfl
 have u14:IntKind.i64.wrap (1+3)=4:=rfl
 have u15:IntKind.i64.wrap (1+4)=5:=rfl
 have hip:=eh (n:=(i:Int)) (by omega)
 have hip' :(zS (i:Int)).length+1≤9223372036854775807:=by unfold zS;omega
 have hip2:1+(zS (i:Int)).length≤9223372036854775807:=by omega
 have hi3:(i:Int)<6:=by omega
 have J3:K1%3=2:=hJ
 have h:ab (az Tryz.prog) (fun _=>[]) (aI Tryz.prog) (cS ⟨kd,(A1,A2,A3),(B1,B2,B3),N,(K1,K2,K3,K4)⟩) 1 9 [.agg [.slice 0 0 n none,.slice 1 0 k none],.agg C,.int .i64 i] [.absent,.absent]=some ⟨(.agg (aQ (bj i) (.slice 2 0 n none) (.slice 3 0 3 none) (.slice 4 0 2 none))),none,(gl 2 ⟨kd,(A1,A2,A3),(B1,B2,B3),N,(K1,K2,K3,K4)⟩ n i 2)⟩:=by
  simp[ab,hG,Tryz.f9,cS,ao,cj,zA,l0,r0,o0,j8,j0,j4,j5,j6,j7,h1,hA,←e1,hC',tk,hkt,wN,wB1,wB2,wB3,←ho,←hbx,←hby,←hbz,go,gi,g1',g2',g3',hp,n1,m2,w0,w1,w2,w3,w4,w5,u12,u13,u14,u15,hip',hip2,dX,bB,ar,-aF,bQ hb0,bQ hb1, ie,nI,zb,kB,cf,qL,bef,a08,a110, Nat.testBit,J3,aQ,bj,LE,gl,ib,fa,di,qX,aY,hn,hl,hi,hi3,List.idxOf?_cons]
 have:=(ae aa (ai _) okd (aj _) h).1
 rw[←hC]
 simpa [CallRes.mem] using this
end Go.Proofs
