/- See K51. -/
import Derived.Test.YtffdedmakncfmaaGreatDoorK41
set_option linter.all false
namespace Go.Proofs
open Go.Eng
def kD:Code→List Nat:=fun _=>[9,9,8]
set_option maxRecDepth 8192 in
set_option maxHeartbeats 25600000 in
theorem Af(x:Sketch) (hx:x.Ok) (n k:Nat) (hk:x.kind%5=2) (hJ:ct3 (x.n 7)=1):
  ACallsTo Tryz.prog 8 [.agg [.slice 0 0 n none,.slice 1 0 k none],.agg x.cells,.str [110]] [.absent,.absent] (.agg ((dY [110] (zQ (dQ x)) (x.knots 1) (zQ (tQ x))).cells .nilslice .nilslice .nilslice (.slice 2 0 1 none))) ([.absent,.absent]++[.cells true 2 (kC (kT (x.knots 1)))]):=by
 have hG:aN Tryz.prog 8=some Tryz.f8:=by kernel_rfl
 obtain⟨os,hops⟩:∃os,aV Tryz.f8=os:=⟨_,rfl⟩
 have hbs:=cK hops (ls:=[[0,1,0,4,12,31,63,127,0,383,895,2047,4095,8191],[0,1,0,7,15,31,63],[0,1,3,0,8,0,32,96,0,480,992,2040,4088,8184,16376,32767,65535,131071,262143],[0,1,0,4,12,31,63,127,0,256,768,1919,3967,0,8192,32767,65535,131071],[0,1,3,0,15,31,63,127]]) (by kernel_rfl)
 have k1:cU [0,1,0,7,15,31,63] 6=true:=by decide
 simp only[aV,cc,Tryz.f8,List.nil_append,List.append_nil,List.cons_append] at hops
 subst hops
 simp only[List.map_cons,List.map_nil,List.cons.injEq,and_true] at hbs
 obtain⟨-,hb1,hb2,-⟩:=hbs
 have l0:=Sketch.cells_len hx
 have r0:=cD x.closed
 have o0:=eU x.closed
 have e0:=fun f=>aJ (ρ:=f) x.closed
 have ik:=Sketch.cells_0 hx
 have i0:=Sketch.cells_n hx (k:=0) (by decide)
 have i1:=Sketch.cells_n hx (k:=1) (by decide)
 have i2:=Sketch.cells_n hx (k:=2) (by decide)
 have i3:=Sketch.cells_n hx (k:=3) (by decide)
 have i4:=Sketch.cells_n hx (k:=4) (by decide)
 have i5:=Sketch.cells_n hx (k:=5) (by decide)
 have i6:=Sketch.cells_n hx (k:=6) (by decide)
 have i7:=Sketch.cells_n hx (k:=7) (by decide)
 simp only[Nat.reduceAdd] at i0 i1 i2 i3 i4 i5 i6 i7
 have jk:=bS ik
 have j0:=bS i0
 obtain⟨b0,c0⟩:=Sketch.n_ok hx (k:=0) (by decide)
 have j1:=bS i1
 obtain⟨b1,c1⟩:=Sketch.n_ok hx (k:=1) (by decide)
 have j2:=bS i2
 obtain⟨b2,c2⟩:=Sketch.n_ok hx (k:=2) (by decide)
 have j3:=bS i3
 obtain⟨b3,c3⟩:=Sketch.n_ok hx (k:=3) (by decide)
 have j4:=bS i4
 obtain⟨b4,c4⟩:=Sketch.n_ok hx (k:=4) (by decide)
 have j5:=bS i5
 obtain⟨b5,c5⟩:=Sketch.n_ok hx (k:=5) (by decide)
 have j6:=bS i6
 obtain⟨b6,c6⟩:=Sketch.n_ok hx (k:=6) (by decide)
 have j7:=bS i7
 obtain⟨b7,c7⟩:=Sketch.n_ok hx (k:=7) (by decide)
 have s6:=cC (x.n 6)
 have s7:=cC (x.n 7)
 have s0:=cC (x.n 0)
 have s1:=cC (x.n 1)
 have q3:=kX (x.n 3)
 have q4:=kX (x.n 4)
 have q5:=kX (x.n 5)
 have t5:=kd5 x.kind
 rw[hk] at t5
 obtain⟨w3,w4⟩:=uJ (Sketch.n_ok hx (k:=7) (by decide))
 rw[hJ] at w4
 have K0:x.knots 1=[((((fD (x.n 6)):Int):Rat),hQ (fD (x.n 7)))]:=rfl
 rw[K0]
 clear K0
 have hC' :∃C,x.cells=C:=⟨_,rfl⟩
 obtain⟨C,hC⟩:=hC'
 rw[hC] at l0 r0 o0 e0 ik jk i0 j0 i1 j1 i2 j2 i3 j3 i4 j4 i5 j5 i6 j6 i7 j7 ⊢
 obtain⟨X0,hX0⟩:∃X,X=x.n 0:=⟨_,rfl⟩
 rw[←hX0] at i0 j0 b0 c0 s0
 obtain⟨X1,hX1⟩:∃X,X=x.n 1:=⟨_,rfl⟩
 rw[←hX1] at i1 j1 b1 c1 s1
 obtain⟨X2,hX2⟩:∃X,X=x.n 2:=⟨_,rfl⟩
 rw[←hX2] at i2 j2 b2 c2
 obtain⟨X3,hX3⟩:∃X,X=x.n 3:=⟨_,rfl⟩
 rw[←hX3] at i3 j3 b3 c3 q3
 obtain⟨X4,hX4⟩:∃X,X=x.n 4:=⟨_,rfl⟩
 rw[←hX4] at i4 j4 b4 c4 q4
 obtain⟨X5,hX5⟩:∃X,X=x.n 5:=⟨_,rfl⟩
 rw[←hX5] at i5 j5 b5 c5 q5
 obtain⟨X6,hX6⟩:∃X,X=x.n 6:=⟨_,rfl⟩
 rw[←hX6] at i6 j6 b6 c6 s6
 obtain⟨X7,hX7⟩:∃X,X=x.n 7:=⟨_,rfl⟩
 rw[←hX7] at i7 j7 b7 c7 s7 w3 w4
 rw[←hX6,←hX7]
 have tk:C.take 34=C:=List.take_of_length_le (by omega)
 have wX:IntKind.i64.wrap X7=X7:=ia (by omega) (by omega)
 obtain⟨z6,hz6⟩:∃z,z=fD X6:=⟨_,rfl⟩
 rw[←hz6] at s6
 have g6:z6.natAbs<100000000:=by omega
 have eQ6:mkRat z6 2=hQ z6:=rfl
 obtain⟨z7,hz7⟩:∃z,z=fD X7:=⟨_,rfl⟩
 rw[←hz7] at s7
 have g7:z7.natAbs<100000000:=by omega
 have eQ7:mkRat z7 2=hQ z7:=rfl
 obtain⟨z0,hz0⟩:∃z,z=fD X0:=⟨_,rfl⟩
 rw[←hz0] at s0
 have g0:z0.natAbs<100000000:=by omega
 have eQ0:mkRat z0 2=hQ z0:=rfl
 obtain⟨z1,hz1⟩:∃z,z=fD X1:=⟨_,rfl⟩
 rw[←hz1] at s1
 have g1:z1.natAbs<100000000:=by omega
 have eQ1:mkRat z1 2=hQ z1:=rfl
 obtain⟨y3,hy3⟩:∃z,z=ps9 X3:=⟨_,rfl⟩
 rw[←hy3] at q3
 obtain⟨y4,hy4⟩:∃z,z=ps9 X4:=⟨_,rfl⟩
 rw[←hy4] at q4
 obtain⟨y5,hy5⟩:∃z,z=ps9 X5:=⟨_,rfl⟩
 rw[←hy5] at q5
 obtain⟨a1,ha1⟩:∃a,a=z6+y3:=⟨_,rfl⟩
 obtain⟨a2,ha2⟩:∃a,a=a1+y4:=⟨_,rfl⟩
 obtain⟨a3,ha3⟩:∃a,a=a2+y5:=⟨_,rfl⟩
 have wa1:IntKind.i64.wrap (z6+y3)=a1:=by rw[ag (by omega) (by omega)];exact ha1.symm
 have wa2:IntKind.i64.wrap (a1+y4)=a2:=by rw[ag (by omega) (by omega)];exact ha2.symm
 have wa3:IntKind.i64.wrap (a2+y5)=a3:=by rw[ag (by omega) (by omega)];exact ha3.symm
 have ga1:a1.natAbs<100000000:=by omega
 have ga2:a2.natAbs<100000000:=by omega
 have m6:=fg z6
 have m1:=fg a1
 have m2:=fg a2
 rw[←hz6,←hz7]
 obtain⟨⟨n1,n2,n3⟩,hn⟩:∃v,v=dQ x:=⟨_,rfl⟩
 obtain⟨⟨v1,v2,v3⟩,hv⟩:∃v,v=tQ x:=⟨_,rfl⟩
 rw[←hn,←hv]
 have u0:IntKind.i64.wrap 0=0:=rfl
 have u1:IntKind.i64.wrap 1=1:=rfl
 have u2:IntKind.i64.wrap 2=2:=rfl
 have u3:IntKind.i64.wrap 3=3:=rfl
 have u4:IntKind.i64.wrap 4=4:=rfl
 have u5:IntKind.i64.wrap 5=5:=rfl
 have u7:IntKind.i64.wrap 7=7:=rfl
 have u8:IntKind.i64.wrap 8=8:=rfl
 have u9:IntKind.i64.wrap 9=9:=rfl
 have h:aa (aO Tryz.prog) kD (aN Tryz.prog) (ai (dK x)) 5 8 [.agg [.slice 0 0 n none,.slice 1 0 k none],.agg C,.str [110]] [.absent,.absent]=some ⟨.agg ((dY [110] (zQ (n1,n2,n3)) [(((z6:Int):Rat),hQ z7)] (zQ (v1,v2,v3))).cells .nilslice .nilslice .nilslice (.slice 2 0 1 none)),some [.absent,.absent],[.cells true 2 (kC (kT [(((z6:Int):Rat),hQ z7)]))]⟩:=by
  simp (maxSteps:=3000000) [aa,hG,Tryz.f8,kD,aZ,fA,ai,dK,fF,cQ,hC,l0,r0,o0,e0,jk,tk,t5,wX,w3,w4,u1,u2,u3,u7,j3,b3,c3,j6,b6,c6,j7,b7,c7,←hz6,g6,←hz7,g7,eQ7,←hy3,wa1,m6,←hn,←hv,-aQ,aA hb1,bz hb2,bN,bF,bL,k1,cH,ea,eV,cM,cS,iL,bef,mR,Nat.testBit,bx,aG,zA,zQ,zS,dY,Evc.cells,kC,kT,List.idxOf?_cons]
 have:=(af ae (aw _) (gK hx) (ax _) h).1
 simpa [CallRes.mem] using this
set_option maxRecDepth 8192 in
set_option maxHeartbeats 25600000 in
theorem Ag(x:Sketch) (hx:x.Ok) (n k:Nat) (hk:x.kind%5=2) (hJ:ct3 (x.n 7)=2):
  ACallsTo Tryz.prog 8 [.agg [.slice 0 0 n none,.slice 1 0 k none],.agg x.cells,.str [110]] [.absent,.absent] (.agg ((dY [110] (zQ (dQ x)) (x.knots 2) (zQ (tQ x))).cells .nilslice .nilslice .nilslice (.slice 2 0 2 none))) ([.absent,.absent]++[.cells true 2 (kC (kT (x.knots 2)))]):=by
 have hG:aN Tryz.prog 8=some Tryz.f8:=by kernel_rfl
 obtain⟨os,hops⟩:∃os,aV Tryz.f8=os:=⟨_,rfl⟩
 have hbs:=cK hops (ls:=[[0,1,0,4,12,31,63,127,0,383,895,2047,4095,8191],[0,1,0,7,15,31,63],[0,1,3,0,8,0,32,96,0,480,992,2040,4088,8184,16376,32767,65535,131071,262143],[0,1,0,4,12,31,63,127,0,256,768,1919,3967,0,8192,32767,65535,131071],[0,1,3,0,15,31,63,127]]) (by kernel_rfl)
 have k1:cU [0,1,0,7,15,31,63] 6=true:=by decide
 simp only[aV,cc,Tryz.f8,List.nil_append,List.append_nil,List.cons_append] at hops
 subst hops
 simp only[List.map_cons,List.map_nil,List.cons.injEq,and_true] at hbs
 obtain⟨-,hb1,hb2,-⟩:=hbs
 have l0:=Sketch.cells_len hx
 have r0:=cD x.closed
 have o0:=eU x.closed
 have e0:=fun f=>aJ (ρ:=f) x.closed
 have ik:=Sketch.cells_0 hx
 have i0:=Sketch.cells_n hx (k:=0) (by decide)
 have i1:=Sketch.cells_n hx (k:=1) (by decide)
 have i2:=Sketch.cells_n hx (k:=2) (by decide)
 have i3:=Sketch.cells_n hx (k:=3) (by decide)
 have i4:=Sketch.cells_n hx (k:=4) (by decide)
 have i5:=Sketch.cells_n hx (k:=5) (by decide)
 have i6:=Sketch.cells_n hx (k:=6) (by decide)
 have i7:=Sketch.cells_n hx (k:=7) (by decide)
 simp only[Nat.reduceAdd] at i0 i1 i2 i3 i4 i5 i6 i7
 have jk:=bS ik
 have j0:=bS i0
 obtain⟨b0,c0⟩:=Sketch.n_ok hx (k:=0) (by decide)
 have j1:=bS i1
 obtain⟨b1,c1⟩:=Sketch.n_ok hx (k:=1) (by decide)
 have j2:=bS i2
 obtain⟨b2,c2⟩:=Sketch.n_ok hx (k:=2) (by decide)
 have j3:=bS i3
 obtain⟨b3,c3⟩:=Sketch.n_ok hx (k:=3) (by decide)
 have j4:=bS i4
 obtain⟨b4,c4⟩:=Sketch.n_ok hx (k:=4) (by decide)
 have j5:=bS i5
 obtain⟨b5,c5⟩:=Sketch.n_ok hx (k:=5) (by decide)
 have j6:=bS i6
 obtain⟨b6,c6⟩:=Sketch.n_ok hx (k:=6) (by decide)
 have j7:=bS i7
 obtain⟨b7,c7⟩:=Sketch.n_ok hx (k:=7) (by decide)
 have s6:=cC (x.n 6)
 have s7:=cC (x.n 7)
 have s0:=cC (x.n 0)
 have s1:=cC (x.n 1)
 have q3:=kX (x.n 3)
 have q4:=kX (x.n 4)
 have q5:=kX (x.n 5)
 have t5:=kd5 x.kind
 rw[hk] at t5
 obtain⟨w3,w4⟩:=uJ (Sketch.n_ok hx (k:=7) (by decide))
 rw[hJ] at w4
 have K0:x.knots 2=[((((fD (x.n 6)):Int):Rat),hQ (fD (x.n 7))),((((fD (x.n 6)+ps9 (x.n 3)):Int):Rat),hQ (fD (x.n 0)))]:=rfl
 rw[K0]
 clear K0
 have hC' :∃C,x.cells=C:=⟨_,rfl⟩
 obtain⟨C,hC⟩:=hC'
 rw[hC] at l0 r0 o0 e0 ik jk i0 j0 i1 j1 i2 j2 i3 j3 i4 j4 i5 j5 i6 j6 i7 j7 ⊢
 obtain⟨X0,hX0⟩:∃X,X=x.n 0:=⟨_,rfl⟩
 rw[←hX0] at i0 j0 b0 c0 s0
 obtain⟨X1,hX1⟩:∃X,X=x.n 1:=⟨_,rfl⟩
 rw[←hX1] at i1 j1 b1 c1 s1
 obtain⟨X2,hX2⟩:∃X,X=x.n 2:=⟨_,rfl⟩
 rw[←hX2] at i2 j2 b2 c2
 obtain⟨X3,hX3⟩:∃X,X=x.n 3:=⟨_,rfl⟩
 rw[←hX3] at i3 j3 b3 c3 q3
 obtain⟨X4,hX4⟩:∃X,X=x.n 4:=⟨_,rfl⟩
 rw[←hX4] at i4 j4 b4 c4 q4
 obtain⟨X5,hX5⟩:∃X,X=x.n 5:=⟨_,rfl⟩
 rw[←hX5] at i5 j5 b5 c5 q5
 obtain⟨X6,hX6⟩:∃X,X=x.n 6:=⟨_,rfl⟩
 rw[←hX6] at i6 j6 b6 c6 s6
 obtain⟨X7,hX7⟩:∃X,X=x.n 7:=⟨_,rfl⟩
 rw[←hX7] at i7 j7 b7 c7 s7 w3 w4
 rw[←hX6,←hX7,←hX0,←hX3]
 have tk:C.take 34=C:=List.take_of_length_le (by omega)
 have wX:IntKind.i64.wrap X7=X7:=ia (by omega) (by omega)
 obtain⟨z6,hz6⟩:∃z,z=fD X6:=⟨_,rfl⟩
 rw[←hz6] at s6
 have g6:z6.natAbs<100000000:=by omega
 have eQ6:mkRat z6 2=hQ z6:=rfl
 obtain⟨z7,hz7⟩:∃z,z=fD X7:=⟨_,rfl⟩
 rw[←hz7] at s7
 have g7:z7.natAbs<100000000:=by omega
 have eQ7:mkRat z7 2=hQ z7:=rfl
 obtain⟨z0,hz0⟩:∃z,z=fD X0:=⟨_,rfl⟩
 rw[←hz0] at s0
 have g0:z0.natAbs<100000000:=by omega
 have eQ0:mkRat z0 2=hQ z0:=rfl
 obtain⟨z1,hz1⟩:∃z,z=fD X1:=⟨_,rfl⟩
 rw[←hz1] at s1
 have g1:z1.natAbs<100000000:=by omega
 have eQ1:mkRat z1 2=hQ z1:=rfl
 obtain⟨y3,hy3⟩:∃z,z=ps9 X3:=⟨_,rfl⟩
 rw[←hy3] at q3
 obtain⟨y4,hy4⟩:∃z,z=ps9 X4:=⟨_,rfl⟩
 rw[←hy4] at q4
 obtain⟨y5,hy5⟩:∃z,z=ps9 X5:=⟨_,rfl⟩
 rw[←hy5] at q5
 obtain⟨a1,ha1⟩:∃a,a=z6+y3:=⟨_,rfl⟩
 obtain⟨a2,ha2⟩:∃a,a=a1+y4:=⟨_,rfl⟩
 obtain⟨a3,ha3⟩:∃a,a=a2+y5:=⟨_,rfl⟩
 have wa1:IntKind.i64.wrap (z6+y3)=a1:=by rw[ag (by omega) (by omega)];exact ha1.symm
 have wa2:IntKind.i64.wrap (a1+y4)=a2:=by rw[ag (by omega) (by omega)];exact ha2.symm
 have wa3:IntKind.i64.wrap (a2+y5)=a3:=by rw[ag (by omega) (by omega)];exact ha3.symm
 have ga1:a1.natAbs<100000000:=by omega
 have ga2:a2.natAbs<100000000:=by omega
 have m6:=fg z6
 have m1:=fg a1
 have m2:=fg a2
 rw[←hz6,←hz7,←hz0,←hy3,←ha1]
 obtain⟨⟨n1,n2,n3⟩,hn⟩:∃v,v=dQ x:=⟨_,rfl⟩
 obtain⟨⟨v1,v2,v3⟩,hv⟩:∃v,v=tQ x:=⟨_,rfl⟩
 rw[←hn,←hv]
 have u0:IntKind.i64.wrap 0=0:=rfl
 have u1:IntKind.i64.wrap 1=1:=rfl
 have u2:IntKind.i64.wrap 2=2:=rfl
 have u3:IntKind.i64.wrap 3=3:=rfl
 have u4:IntKind.i64.wrap 4=4:=rfl
 have u5:IntKind.i64.wrap 5=5:=rfl
 have u7:IntKind.i64.wrap 7=7:=rfl
 have u8:IntKind.i64.wrap 8=8:=rfl
 have u9:IntKind.i64.wrap 9=9:=rfl
 have h:aa (aO Tryz.prog) kD (aN Tryz.prog) (ai (dK x)) 5 8 [.agg [.slice 0 0 n none,.slice 1 0 k none],.agg C,.str [110]] [.absent,.absent]=some ⟨.agg ((dY [110] (zQ (n1,n2,n3)) [(((z6:Int):Rat),hQ z7),(((a1:Int):Rat),hQ z0)] (zQ (v1,v2,v3))).cells .nilslice .nilslice .nilslice (.slice 2 0 2 none)),some [.absent,.absent],[.cells true 2 (kC (kT [(((z6:Int):Rat),hQ z7),(((a1:Int):Rat),hQ z0)]))]⟩:=by
  simp (maxSteps:=3000000) [aa,hG,Tryz.f8,kD,aZ,fA,ai,dK,fF,cQ,hC,l0,r0,o0,e0,jk,tk,t5,wX,w3,w4,u1,u2,u3,u4,u7,u8,j0,b0,c0,j3,b3,c3,j4,b4,c4,j6,b6,c6,j7,b7,c7,←hz6,g6,←hz7,g7,eQ7,←hz0,g0,eQ0,←hy3,←hy4,wa1,wa2,ga1,m6,m1,←hn,←hv,-aQ,aA hb1,bz hb2,bN,bF,bL,k1,cH,ea,eV,cM,cS,iL,bef,mR,Nat.testBit,bx,aG,zA,zQ,zS,dY,Evc.cells,kC,kT,List.idxOf?_cons]
 have:=(af ae (aw _) (gK hx) (ax _) h).1
 simpa [CallRes.mem] using this
set_option maxRecDepth 8192 in
set_option maxHeartbeats 25600000 in
theorem Ah(x:Sketch) (hx:x.Ok) (n k:Nat) (hk:x.kind%5=2) (hJ:ct3 (x.n 7)=3):
  ACallsTo Tryz.prog 8 [.agg [.slice 0 0 n none,.slice 1 0 k none],.agg x.cells,.str [110]] [.absent,.absent] (.agg ((dY [110] (zQ (dQ x)) (x.knots 3) (zQ (tQ x))).cells .nilslice .nilslice .nilslice (.slice 2 0 3 none))) ([.absent,.absent]++[.cells true 2 (kC (kT (x.knots 3)))]):=by
 have hG:aN Tryz.prog 8=some Tryz.f8:=by kernel_rfl
 obtain⟨os,hops⟩:∃os,aV Tryz.f8=os:=⟨_,rfl⟩
 have hbs:=cK hops (ls:=[[0,1,0,4,12,31,63,127,0,383,895,2047,4095,8191],[0,1,0,7,15,31,63],[0,1,3,0,8,0,32,96,0,480,992,2040,4088,8184,16376,32767,65535,131071,262143],[0,1,0,4,12,31,63,127,0,256,768,1919,3967,0,8192,32767,65535,131071],[0,1,3,0,15,31,63,127]]) (by kernel_rfl)
 have k1:cU [0,1,0,7,15,31,63] 6=true:=by decide
 simp only[aV,cc,Tryz.f8,List.nil_append,List.append_nil,List.cons_append] at hops
 subst hops
 simp only[List.map_cons,List.map_nil,List.cons.injEq,and_true] at hbs
 obtain⟨-,hb1,hb2,-⟩:=hbs
 have l0:=Sketch.cells_len hx
 have r0:=cD x.closed
 have o0:=eU x.closed
 have e0:=fun f=>aJ (ρ:=f) x.closed
 have ik:=Sketch.cells_0 hx
 have i0:=Sketch.cells_n hx (k:=0) (by decide)
 have i1:=Sketch.cells_n hx (k:=1) (by decide)
 have i2:=Sketch.cells_n hx (k:=2) (by decide)
 have i3:=Sketch.cells_n hx (k:=3) (by decide)
 have i4:=Sketch.cells_n hx (k:=4) (by decide)
 have i5:=Sketch.cells_n hx (k:=5) (by decide)
 have i6:=Sketch.cells_n hx (k:=6) (by decide)
 have i7:=Sketch.cells_n hx (k:=7) (by decide)
 simp only[Nat.reduceAdd] at i0 i1 i2 i3 i4 i5 i6 i7
 have jk:=bS ik
 have j0:=bS i0
 obtain⟨b0,c0⟩:=Sketch.n_ok hx (k:=0) (by decide)
 have j1:=bS i1
 obtain⟨b1,c1⟩:=Sketch.n_ok hx (k:=1) (by decide)
 have j2:=bS i2
 obtain⟨b2,c2⟩:=Sketch.n_ok hx (k:=2) (by decide)
 have j3:=bS i3
 obtain⟨b3,c3⟩:=Sketch.n_ok hx (k:=3) (by decide)
 have j4:=bS i4
 obtain⟨b4,c4⟩:=Sketch.n_ok hx (k:=4) (by decide)
 have j5:=bS i5
 obtain⟨b5,c5⟩:=Sketch.n_ok hx (k:=5) (by decide)
 have j6:=bS i6
 obtain⟨b6,c6⟩:=Sketch.n_ok hx (k:=6) (by decide)
 have j7:=bS i7
 obtain⟨b7,c7⟩:=Sketch.n_ok hx (k:=7) (by decide)
 have s6:=cC (x.n 6)
 have s7:=cC (x.n 7)
 have s0:=cC (x.n 0)
 have s1:=cC (x.n 1)
 have q3:=kX (x.n 3)
 have q4:=kX (x.n 4)
 have q5:=kX (x.n 5)
 have t5:=kd5 x.kind
 rw[hk] at t5
 obtain⟨w3,w4⟩:=uJ (Sketch.n_ok hx (k:=7) (by decide))
 rw[hJ] at w4
 have K0:x.knots 3=[((((fD (x.n 6)):Int):Rat),hQ (fD (x.n 7))),((((fD (x.n 6)+ps9 (x.n 3)):Int):Rat),hQ (fD (x.n 0))),((((fD (x.n 6)+ps9 (x.n 3)+ps9 (x.n 4)):Int):Rat),hQ (fD (x.n 1)))]:=rfl
 rw[K0]
 clear K0
 have hC' :∃C,x.cells=C:=⟨_,rfl⟩
 obtain⟨C,hC⟩:=hC'
 rw[hC] at l0 r0 o0 e0 ik jk i0 j0 i1 j1 i2 j2 i3 j3 i4 j4 i5 j5 i6 j6 i7 j7 ⊢
 obtain⟨X0,hX0⟩:∃X,X=x.n 0:=⟨_,rfl⟩
 rw[←hX0] at i0 j0 b0 c0 s0
 obtain⟨X1,hX1⟩:∃X,X=x.n 1:=⟨_,rfl⟩
 rw[←hX1] at i1 j1 b1 c1 s1
 obtain⟨X2,hX2⟩:∃X,X=x.n 2:=⟨_,rfl⟩
 rw[←hX2] at i2 j2 b2 c2
 obtain⟨X3,hX3⟩:∃X,X=x.n 3:=⟨_,rfl⟩
 rw[←hX3] at i3 j3 b3 c3 q3
 obtain⟨X4,hX4⟩:∃X,X=x.n 4:=⟨_,rfl⟩
 rw[←hX4] at i4 j4 b4 c4 q4
 obtain⟨X5,hX5⟩:∃X,X=x.n 5:=⟨_,rfl⟩
 rw[←hX5] at i5 j5 b5 c5 q5
 obtain⟨X6,hX6⟩:∃X,X=x.n 6:=⟨_,rfl⟩
 rw[←hX6] at i6 j6 b6 c6 s6
 obtain⟨X7,hX7⟩:∃X,X=x.n 7:=⟨_,rfl⟩
 rw[←hX7] at i7 j7 b7 c7 s7 w3 w4
 rw[←hX6,←hX7,←hX0,←hX1,←hX3,←hX4]
 have tk:C.take 34=C:=List.take_of_length_le (by omega)
 have wX:IntKind.i64.wrap X7=X7:=ia (by omega) (by omega)
 obtain⟨z6,hz6⟩:∃z,z=fD X6:=⟨_,rfl⟩
 rw[←hz6] at s6
 have g6:z6.natAbs<100000000:=by omega
 have eQ6:mkRat z6 2=hQ z6:=rfl
 obtain⟨z7,hz7⟩:∃z,z=fD X7:=⟨_,rfl⟩
 rw[←hz7] at s7
 have g7:z7.natAbs<100000000:=by omega
 have eQ7:mkRat z7 2=hQ z7:=rfl
 obtain⟨z0,hz0⟩:∃z,z=fD X0:=⟨_,rfl⟩
 rw[←hz0] at s0
 have g0:z0.natAbs<100000000:=by omega
 have eQ0:mkRat z0 2=hQ z0:=rfl
 obtain⟨z1,hz1⟩:∃z,z=fD X1:=⟨_,rfl⟩
 rw[←hz1] at s1
 have g1:z1.natAbs<100000000:=by omega
 have eQ1:mkRat z1 2=hQ z1:=rfl
 obtain⟨y3,hy3⟩:∃z,z=ps9 X3:=⟨_,rfl⟩
 rw[←hy3] at q3
 obtain⟨y4,hy4⟩:∃z,z=ps9 X4:=⟨_,rfl⟩
 rw[←hy4] at q4
 obtain⟨y5,hy5⟩:∃z,z=ps9 X5:=⟨_,rfl⟩
 rw[←hy5] at q5
 obtain⟨a1,ha1⟩:∃a,a=z6+y3:=⟨_,rfl⟩
 obtain⟨a2,ha2⟩:∃a,a=a1+y4:=⟨_,rfl⟩
 obtain⟨a3,ha3⟩:∃a,a=a2+y5:=⟨_,rfl⟩
 have wa1:IntKind.i64.wrap (z6+y3)=a1:=by rw[ag (by omega) (by omega)];exact ha1.symm
 have wa2:IntKind.i64.wrap (a1+y4)=a2:=by rw[ag (by omega) (by omega)];exact ha2.symm
 have wa3:IntKind.i64.wrap (a2+y5)=a3:=by rw[ag (by omega) (by omega)];exact ha3.symm
 have ga1:a1.natAbs<100000000:=by omega
 have ga2:a2.natAbs<100000000:=by omega
 have m6:=fg z6
 have m1:=fg a1
 have m2:=fg a2
 rw[←hz6,←hz7,←hz0,←hz1,←hy3,←hy4,←ha1,←ha2]
 obtain⟨⟨n1,n2,n3⟩,hn⟩:∃v,v=dQ x:=⟨_,rfl⟩
 obtain⟨⟨v1,v2,v3⟩,hv⟩:∃v,v=tQ x:=⟨_,rfl⟩
 rw[←hn,←hv]
 have u0:IntKind.i64.wrap 0=0:=rfl
 have u1:IntKind.i64.wrap 1=1:=rfl
 have u2:IntKind.i64.wrap 2=2:=rfl
 have u3:IntKind.i64.wrap 3=3:=rfl
 have u4:IntKind.i64.wrap 4=4:=rfl
 have u5:IntKind.i64.wrap 5=5:=rfl
 have u7:IntKind.i64.wrap 7=7:=rfl
 have u8:IntKind.i64.wrap 8=8:=rfl
 have u9:IntKind.i64.wrap 9=9:=rfl
 have h:aa (aO Tryz.prog) kD (aN Tryz.prog) (ai (dK x)) 5 8 [.agg [.slice 0 0 n none,.slice 1 0 k none],.agg C,.str [110]] [.absent,.absent]=some ⟨.agg ((dY [110] (zQ (n1,n2,n3)) [(((z6:Int):Rat),hQ z7),(((a1:Int):Rat),hQ z0),(((a2:Int):Rat),hQ z1)] (zQ (v1,v2,v3))).cells .nilslice .nilslice .nilslice (.slice 2 0 3 none)),some [.absent,.absent],[.cells true 2 (kC (kT [(((z6:Int):Rat),hQ z7),(((a1:Int):Rat),hQ z0),(((a2:Int):Rat),hQ z1)]))]⟩:=by
  simp (maxSteps:=3000000) [aa,hG,Tryz.f8,kD,aZ,fA,ai,dK,fF,cQ,hC,l0,r0,o0,e0,jk,tk,t5,wX,w3,w4,u1,u2,u3,u4,u5,u7,u8,u9,j0,b0,c0,j1,b1,c1,j3,b3,c3,j4,b4,c4,j5,b5,c5,j6,b6,c6,j7,b7,c7,←hz6,g6,←hz7,g7,eQ7,←hz0,g0,eQ0,←hz1,g1,eQ1,←hy3,←hy4,←hy5,wa1,wa2,wa3,ga1,ga2,m6,m1,m2,←hn,←hv,-aQ,aA hb1,bz hb2,bN,bF,bL,k1,cH,ea,eV,cM,cS,iL,bef,mR,Nat.testBit,bx,aG,zA,zQ,zS,dY,Evc.cells,kC,kT,List.idxOf?_cons]
 have:=(af ae (aw _) (gK hx) (ax _) h).1
 simpa [CallRes.mem] using this
end Go.Proofs
