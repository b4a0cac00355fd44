/- See K51. -/
import Derived.Test.YtffdedmakncfmaaGreatDoorK24
set_option linter.all false
namespace Go.Proofs
open Go.Eng
theorem mi(x:Sketch) (n:Nat):∀z∈x.base.l n,z.natAbs≤300:=by
 intro z hz
 unfold Hts.l at hz
 obtain⟨k,_,rfl⟩:=List.mem_map.1 hz
 have:=x.base.z_le k
 omega
set_option maxRecDepth 8192 in
set_option maxHeartbeats 12800000 in
theorem DK(x:Sketch) (hx:x.Ok) (n k:Nat) (hn:0<n) (hl:n≤1000) (hJ:ct3 (x.n 0)=2):
  ACallsTo Tryz.prog 25 [.agg [.slice 0 0 n none,.slice 1 0 k none],.agg x.cells,.str [110]] [.absent,.absent] (.agg [.slice 2 0 n none,.slice 3 0 2 none,.slice 4 0 1 none]) ([.absent,.absent]++[.cells true 1 (qC (qH (x.base.l n))),.cells true 1 (stC (uNm 2)),.cells true 1 [.slice 5 0 n none],.cells true 1 (qC (qH (upL x.s0 (x.base.l n) n)))]):=by
 have hG:aN Tryz.prog 25=some Tryz.f25:=by kernel_rfl
 have l0:=Sketch.cells_len hx
 have r0:=cD x.closed
 have o0:=eU x.closed
 have e0:=fun f=>aJ (ρ:=f) x.closed
 have i0:=Sketch.cells_n hx (k:=0) (by decide)
 simp only[Nat.reduceAdd] at i0
 have j0:=bS i0
 have hb0:=Sketch.cells_base hx
 have hP:=kN hx.base
 have hbk:=hx.base
 obtain⟨b0,c0⟩:=Sketch.n_ok hx (k:=0) (by decide)
 obtain⟨w3,w4⟩:=uJ ⟨b0,c0⟩
 rw[hJ] at w4
 obtain⟨bo,bi,hbb⟩:∃b b2,aj Tryz.f25=[b,b2]:=⟨_,_,rfl⟩
 obtain⟨I0,hI⟩:=yd (K:=n+5) x hx n k (x.base.l n) (x.base.l_length n) (mi x n) hn hl (by omega) hbb
 have q0:dq0 x n k (x.base.l n) 0=[.absent,.absent,.cells true 0 [.slice 0 0 n none,.slice 1 0 k none],.cells true 0 x.cells,.cells true 0 [.nilslice,.nilslice,.nilslice],.cells true 1 (qC (qH (x.base.l n))),.cells true 0 [.slice 5 0 n none,.slice 10 0 2 none,.nilslice],.absent,.cells true 1 [.str [95,97],.str [95,98],.str [95,99]],.cells true 1 [.str [110,95,98]],.cells true 1 [.str [110,95,97],.str [110,95,98]],.cells true 1 []]:=rfl
 have q1:dq0 x n k (x.base.l n) n=[.absent,.absent,.cells true 0 [.slice 0 0 n none,.slice 1 0 k none],.cells true 0 x.cells,.cells true 0 [.nilslice,.nilslice,.nilslice],.cells true 1 (qC (qH (x.base.l n))),.cells true 0 [.slice 5 0 n none,.slice 10 0 2 none,.nilslice],.absent,.cells true 1 [.str [95,97],.str [95,98],.str [95,99]],.cells true 1 [.str [110,95,98]],.cells true 1 [.str [110,95,97],.str [110,95,98]],.absent,.cells true 1 (qC (qH (upL x.s0 (x.base.l n) n)))]:=if_neg (by omega)
 rw[q0,q1] at hI
 clear q0 q1
 obtain⟨R,hR⟩:∃R,R=qC (qH (upL x.s0 (x.base.l n) n)):=⟨_,rfl⟩
 have Rr:∀n,AV.refsL n R=[]:=fun n=>by rw[hR,eC]
 have Rn:∀f,AV.rens f R=R:=fun f=>by rw[hR,iD]
 rw[←hR] at hI ⊢
 clear hR
 obtain⟨C,hC⟩:∃C,C=x.cells:=⟨_,rfl⟩
 rw[←hC] at hI l0 r0 o0 e0 i0 j0 hb0 ⊢
 obtain⟨X,hX⟩:∃X,X=x.n 0:=⟨_,rfl⟩
 rw[←hX] at i0 j0 w3 w4 b0 c0
 have wX:IntKind.i64.wrap X=X:=ia (by omega) (by omega)
 obtain⟨B,hB⟩:∃B,B=x.base:=⟨_,rfl⟩
 rw[←hB] at hI hb0 hP hbk ⊢
 obtain⟨D,hD⟩:∃D,D=B.cells:=⟨_,rfl⟩
 rw[←hD,List.drop_one] at hb0
 rw[←hD] at hP
 obtain⟨Q,hQ⟩:∃Q,Q=qC (qH (B.l n)):=⟨_,rfl⟩
 have Qr:∀n,AV.refsL n Q=[]:=fun n=>by rw[hQ,eC]
 have Qn:∀f,AV.rens f Q=Q:=fun f=>by rw[hQ,iD]
 rw[←hQ] at hI ⊢
 have p1:=fun env0 df h=>(hI env0 df h).1
 have p10:=fun env0 df h=>(hI env0 df h).2.1
 have pt2:=fun env0 df h=>(hI env0 df h).2.2 2 (by simp)
 have pt3:=fun env0 df h=>(hI env0 df h).2.2 3 (by simp)
 have pt4:=fun env0 df h=>(hI env0 df h).2.2 4 (by simp)
 have pt6:=fun env0 df h=>(hI env0 df h).2.2 6 (by simp)
 have pt7:=fun env0 df h=>(hI env0 df h).2.2 7 (by simp)
 have pt8:=fun env0 df h=>(hI env0 df h).2.2 8 (by simp)
 have pt9:=fun env0 df h=>(hI env0 df h).2.2 9 (by simp)
 clear hI
 have tk:C.take 34=C:=List.take_of_length_le (by omega)
 obtain⟨os,hops⟩:∃os,aV Tryz.f25=os:=⟨_,rfl⟩
 have hbs:=cK hops (ls:=[[0,1,0,0,0,24,56,124,252,511,1023,2047],[0,0,0,6,14,0,0,64,0,448,960,2016,0,8160,16352,32736,65534,131070,262143,524287]]) (by kernel_rfl)
 simp only[aV,cc,Tryz.f25,List.nil_append,List.append_nil,List.cons_append] at hops
 subst hops
 simp only[List.map_cons,List.map_nil,List.cons.injEq,and_true] at hbs
 obtain⟨hb1,hb2⟩:=hbs
 have hu:=fun s=>aZ (aO Tryz.prog) fE dS (n+5) 78 2 true s bo
 simp[aj,aM,Tryz.f25] at hbb
 obtain⟨rfl,rfl⟩:=hbb
 have w1:IntKind.i64.wrap 1=1:=rfl
 have w2:IntKind.i64.wrap 2=2:=rfl
 have w0:IntKind.i64.wrap 0=0:=rfl
 have h:aa (aO Tryz.prog) fE (aN Tryz.prog) dS (n+5) 25 [.agg [.slice 0 0 n none,.slice 1 0 k none],.agg C,.str [110]] [.absent,.absent]=some ⟨.agg [.slice 2 0 n none,.slice 3 0 2 none,.slice 4 0 1 none],some [.absent,.absent],[.cells true 1 Q,.cells true 1 (stC (uNm 2)),.cells true 1 [.slice 5 0 n none],.cells true 1 R]⟩:=by
  simp (maxSteps:=3000000) [aa,hG,Tryz.f25,fE,dS,l0,r0,e0,j0,hb0,hP,hbk,wX,w1,w2,w3,w4,hn,hl,←hQ,Qr,Qn,hu,fA,p1,p10,pt7,pt9,Rr,Rn,-aQ,bz hb1,cH,ea,eV,cM,cS,iL,bef,mR,Nat.testBit,bx,aG,uNm,nmE,stC,gE,List.idxOf?_cons]
  repeat' (first | rfl | apply And.intro)
 have:=(af ae (aw _) qD (ax _) h).1
 simpa [CallRes.mem] using this
def dq1(x:Sketch) (n k:Nat) (L0 L1:List Int) (i:Nat):Mem:=if i=0 then [.absent,.absent,.cells true 0 [.slice 0 0 n none,.slice 1 0 k none],.cells true 0 x.cells,.cells true 0 [.nilslice,.nilslice,.nilslice],.cells true 1 (qC (qH L0)),.cells true 0 [.slice 5 0 n none,.slice 12 0 3 none,.slice 9 0 1 none],.cells true 1 (qC (qH L1)),.absent,.cells true 1 [.slice 7 0 n none],.cells true 1 [.str [95,97],.str [95,98],.str [95,99]],.cells true 1 [.str [110,95,99]],.cells true 1 [.str [110,95,97],.str [110,95,98],.str [110,95,99]],.cells true 1 []] else [.absent,.absent,.cells true 0 [.slice 0 0 n none,.slice 1 0 k none],.cells true 0 x.cells,.cells true 0 [.nilslice,.nilslice,.nilslice],.cells true 1 (qC (qH L0)),.cells true 0 [.slice 5 0 n none,.slice 12 0 3 none,.slice 9 0 1 none],.cells true 1 (qC (qH L1)),.absent,.cells true 1 [.slice 7 0 n none],.cells true 1 [.str [95,97],.str [95,98],.str [95,99]],.cells true 1 [.str [110,95,99]],.cells true 1 [.str [110,95,97],.str [110,95,98],.str [110,95,99]],.absent,.cells true 1 (qC (qH (upL x.s1 L1 i)))]
def Ru(i:Nat):AV:=if i=0 then .slice 13 0 0 none else .slice 14 0 i none
set_option maxRecDepth 8192 in
set_option maxHeartbeats 12800000 in
theorem Ie{K:Nat}(x:Sketch) (hx:x.Ok) (n k:Nat) (L0 L1:List Int) (hL:L1.length=n) (hb9:∀z∈L1,z.natAbs≤300) (hn0:0<n) (hl:n≤1000) (hK:n<K) {b b2:Code}(hb:aj Tryz.f25=[b2,b]):
  ∃F:Env→Bool→Env,∀env0 df,(ab env0 3=.ptr 2 0∧ab env0 4=.ptr 3 0∧ab env0 8=.slice 7 0 n none∧ab env0 9=.int .i64 2∧ab env0 10=.slice 13 0 0 none∧ab env0 11=.int .i64 0)→
   aU (aO Tryz.prog) fE dS K 78 2 true (.loop b) ⟨env0,dq1 x n k L0 L1 0,df⟩=some (.exit 2,⟨F env0 df,dq1 x n k L0 L1 n,df⟩)∧ab (F env0 df) 10=.slice 14 0 n none∧
    (∀t,t∈[2,3,4,6,7,8,9]→ab (F env0 df) t=ab env0 t):=by
 refine bp (L:=[10,11]) (by simp[aj,aM,Tryz.f25] at hb;rw[←hb.2];rfl) (fun env0=>ab env0 3=.ptr 2 0∧ab env0 4=.ptr 3 0∧ab env0 8=.slice 7 0 n none∧ab env0 9=.int .i64 2∧ab env0 10=.slice 13 0 0 none∧ab env0 11=.int .i64 0) (fun env0 env' =>ab env' 10=.slice 14 0 n none∧(∀t,t∈[2,3,4,6,7,8,9]→ab env' t=ab env0 t)) ?_
 rintro env0 df ⟨h3,h4,h8,h9,h10,h11⟩
 obtain⟨os,hops⟩:∃os,aV Tryz.f25=os:=⟨_,rfl⟩
 have hbs:=cK hops (ls:=[[0,1,0,0,0,24,56,124,252,511,1023,2047],[0,0,0,6,14,0,0,64,0,448,960,2016,0,8160,16352,32736,65534,131070,262143,524287]]) (by kernel_rfl)
 simp only[aV,cc,Tryz.f25,List.nil_append,List.append_nil,List.cons_append] at hops
 subst hops
 simp only[List.map_cons,List.map_nil,List.cons.injEq,and_true] at hbs
 obtain⟨-,hb2⟩:=hbs
 simp[aj,aM,Tryz.f25] at hb
 obtain⟨-,hb⟩:=hb
 have hnE:az [10,11] (ad b) env0 ((10,Ru 0)::(11,.int .i64 ((0:Nat):Int))::env0)=az [10,11] (ad b) env0 env0:=by simp[az,h10,h11,Ru]
 rw[←hnE]
 have hm1:(dq1 x n k L0 L1 0).length=14:=rfl
 have l0:=Sketch.cells_len hx
 have r0:=cD x.closed
 have o0:=eU x.closed
 have e0:=fun f=>aJ (ρ:=f) x.closed
 have hb0:=Sketch.cells_s1 hx
 have hP:=kN hx.s1
 have hbk:=hx.s1
 have tk:x.cells.take 34=x.cells:=List.take_of_length_le (by omega)
 refine bK (α:=Nat) (fun i=>⟨az [10,11] (ad b) env0 ((10,Ru i)::(11,.int .i64 (i:Int))::env0),dq1 x n k L0 L1 i,df⟩) (fun i=>n-i) (fun i=>i≤n) (.exit 2) _ df _ (by simp) ?_ K 0 (by omega) (by omega)
 intro i hi
 clear hnE
 subst hb
 by_cases hlt:i<n
 ·left
  have k1:=Oi (L:=L1) (k:=i) (by omega)
  have hzl:(L1.getD i 0).natAbs≤300:=hb9 _ (pN (by omega))
  have hs:=Kr x.s1 L1 i
  have hzz:=x.s1.z_le i
  have k2:=Oi (L:=x.s1.l n) (k:=i) (by rw[Hts.l_length];exact hlt)
  have gl:(x.s1.l n).getD i 0=x.s1.z i:=by simp[Hts.l,List.getD_eq_getElem?_getD,hlt]
  rw[gl] at k2
  have ln2:=zE (x.s1.l n)
  rw[Hts.l_length] at ln2
  obtain⟨R,hR⟩:∃R,R=qC (qH (x.s1.l n)):=⟨_,rfl⟩
  rw[←hR] at k2 ln2
  have Rr:∀n,AV.refsL n R=[]:=fun n=>by rw[hR,eC]
  have Ro:∀f,AV.refsOkL f R=true:=fun f=>by rw[hR,Oh]
  obtain⟨z,hz⟩:∃z,z=L1.getD i 0:=⟨_,rfl⟩
  rw[←hz] at k1 hzl hs
  obtain⟨y,hy⟩:∃y,y=x.s1.z i:=⟨_,rfl⟩
  rw[←hy] at k2 hzz hs
  have hadd:=Qw z (y.natAbs:Int)
  have l1:=y7 (z:=z) (by omega)
  have l2:=y7 (z:=(y.natAbs:Int)) (by omega)
  have hbk2:=NJ y
  have hd2:=Qx y
  have hy9:y.natAbs<1000:=by omega
  have hn' :=zE L1
  rw[hL] at hn'
  have k1' :=bS k1
  have k2' :=bS k2
  have w1:IntKind.i64.wrap ((i:Int)+1)=((i+1:Nat):Int):=by rw[ag (by omega) (by omega)];omega
  obtain⟨m,hm⟩:∃m,m=i+1:=⟨_,rfl⟩
  rw[←hm] at w1 hs
  refine⟨m,?_⟩
  have hmp:¬m=0:=by omega
  have hsimp:qC (qH (upL x.s1 L1 m))=qC (qH (upL x.s1 L1 i))++[.str (aB (hQ (z+(y.natAbs:Int))))]:=by rw[hs];simp[qH,qC]
  obtain⟨B,hB⟩:∃B,B=x.s1:=⟨_,rfl⟩
  rw[←hB] at hb0 hP hbk hR hsimp
  obtain⟨D,hD⟩:∃D,D=B.cells:=⟨_,rfl⟩
  have Dr:∀n,AV.refsL n D=[]:=fun n=>by rw[hD];exact cD B.closed n
  have Do:∀f,AV.refsOkL f D=true:=fun f=>by rw[hD];exact eU B.closed f
  rw[←hD] at hb0 hP
  obtain⟨C,hC⟩:∃C,C=x.cells:=⟨_,rfl⟩
  rw[←hC] at l0 r0 o0 e0 hb0 tk
  obtain⟨y',hy'⟩:∃y',y' =y.natAbs:=⟨_,rfl⟩
  rw[←hy'] at hadd l2 hsimp hy9
  have w0:IntKind.i64.wrap 1=1:=rfl
  have w00:IntKind.i64.wrap 0=0:=rfl
  by_cases hi0:i=0
  ·subst hi0
   have hm0:m=1:=by omega
   have b0:qC (qH (upL B L1 0))=[]:=rfl
   rw[b0,hm0,List.nil_append] at hsimp
   simp (maxSteps:=1000000) [dq1,Ru,hsimp,hm0,h3,h4,h8,h9,hlt,hl,←hB,←hC,←hR,k1',k2',l0,r0,hb0,hP,hbk,Ro,Do,ln2,w0,l1,l2,hadd,hbk2,hd2,←hy',hy9,aC,eC,hn',dS,ai,dC,-aQ,bz hb2,cH,ea,eV,cM,cS,iL,bef,mR,Nat.testBit]
   omega
  ·obtain⟨Q,hQ0⟩:∃Q,Q=qH (upL B L1 i):=⟨_,rfl⟩
   have hQl:(qC Q).length=i:=by rw[hQ0,zE,gj]
   rw[←hQ0] at hsimp
   have g3:(qC Q).take i=qC Q:=List.take_of_length_le (by omega)
   have g4:m*16≤140737488355328:=by omega
   have g5:m≤140737488355328:=by omega
   simp (maxSteps:=1000000) [dq1,Ru,hi0,hmp,hsimp,←hQ0,←hm,h3,h4,h8,h9,hlt,hn0,hl,←hB,←hC,←hR,k1',k2',l0,r0,hb0,hP,hbk,Ro,Do,ln2,w0,w1,l1,l2,hadd,hbk2,hd2,←hy',hy9,g3,g4,g5,hQl,aC,eC,iD,Oh,hn',dS,ai,dC,-aQ,bz hb2,cH,ea,eV,cM,cS,iL,bef,mR,Nat.testBit]
   omega
 ·right
  have e:i=n:=by omega
  subst e
  have hi0:¬i=0:=by omega
  simp[dq1,Ru,hi0,h8]
end Go.Proofs
