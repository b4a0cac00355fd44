/- See K51. -/
import Derived.Test.YtffdedmakncfmaaGreatDoorK25
set_option linter.all false
namespace Go.Proofs
open Go.Eng
theorem zT(x:Sketch) (n:Nat):∀z∈upL x.s0 (x.base.l n) n,z.natAbs≤300:=by
 intro z hz
 unfold upL at hz
 obtain⟨k,hk,rfl⟩:=List.mem_map.1 hz
 have hk:=List.mem_range.1 hk
 have h1:=mi x n _ (pN (l:=x.base.l n) (k:=k) (by rw[Hts.l_length];exact hk))
 have h1' :((x.base.l n).getD k 0).natAbs≤38:=by
  have:(x.base.l n).getD k 0=x.base.z k:=by simp[Hts.l,List.getD_eq_getElem?_getD,hk]
  rw[this];exact x.base.z_le k
 have:=x.s0.z_le k
 omega
set_option maxRecDepth 8192 in
set_option maxHeartbeats 12800000 in
theorem DL(x:Sketch) (hx:x.Ok) (n k:Nat) (hn:0<n) (hl:n≤1000) (hJ:ct3 (x.n 0)=3):
  ACallsTo Tryz.prog 25 [.agg [.slice 0 0 n none,.slice 1 0 k none],.agg x.cells,.str [110]] [.absent,.absent] (.agg [.slice 2 0 n none,.slice 3 0 3 none,.slice 4 0 2 none]) ([.absent,.absent]++[.cells true 1 (qC (qH (x.base.l n))),.cells true 1 (stC (uNm 3)),.cells true 1 [.slice 5 0 n none,.slice 6 0 n none],.cells true 1 (qC (qH (upL x.s0 (x.base.l n) n))),.cells true 1 (qC (qH (upL x.s1 (upL x.s0 (x.base.l n) n) n)))]):=by
 have hG:aN Tryz.prog 25=some Tryz.f25:=by kernel_rfl
 have l0:=Sketch.cells_len hx
 have r0:=cD x.closed
 have o0:=eU x.closed
 have e0:=fun f=>aJ (ρ:=f) x.closed
 have i0:=Sketch.cells_n hx (k:=0) (by decide)
 simp only[Nat.reduceAdd] at i0
 have j0:=bS i0
 have hb0:=Sketch.cells_base hx
 have hP:=kN hx.base
 have hbk:=hx.base
 obtain⟨b0,c0⟩:=Sketch.n_ok hx (k:=0) (by decide)
 obtain⟨w3,w4⟩:=uJ ⟨b0,c0⟩
 rw[hJ] at w4
 obtain⟨bo,bi,hbb⟩:∃b b2,aj Tryz.f25=[b,b2]:=⟨_,_,rfl⟩
 obtain⟨I0,hI⟩:=yd (K:=n+5) x hx n k (x.base.l n) (x.base.l_length n) (mi x n) hn hl (by omega) hbb
 have q0:dq0 x n k (x.base.l n) 0=[.absent,.absent,.cells true 0 [.slice 0 0 n none,.slice 1 0 k none],.cells true 0 x.cells,.cells true 0 [.nilslice,.nilslice,.nilslice],.cells true 1 (qC (qH (x.base.l n))),.cells true 0 [.slice 5 0 n none,.slice 10 0 2 none,.nilslice],.absent,.cells true 1 [.str [95,97],.str [95,98],.str [95,99]],.cells true 1 [.str [110,95,98]],.cells true 1 [.str [110,95,97],.str [110,95,98]],.cells true 1 []]:=rfl
 have q1:dq0 x n k (x.base.l n) n=[.absent,.absent,.cells true 0 [.slice 0 0 n none,.slice 1 0 k none],.cells true 0 x.cells,.cells true 0 [.nilslice,.nilslice,.nilslice],.cells true 1 (qC (qH (x.base.l n))),.cells true 0 [.slice 5 0 n none,.slice 10 0 2 none,.nilslice],.absent,.cells true 1 [.str [95,97],.str [95,98],.str [95,99]],.cells true 1 [.str [110,95,98]],.cells true 1 [.str [110,95,97],.str [110,95,98]],.absent,.cells true 1 (qC (qH (upL x.s0 (x.base.l n) n)))]:=if_neg (by omega)
 rw[q0,q1] at hI
 clear q0 q1
 obtain⟨I1,hJ1⟩:=Ie (K:=n+5) x hx n k (x.base.l n) (upL x.s0 (x.base.l n) n) (gj _ _ _) (zT x n) hn hl (by omega) hbb
 have q0:dq1 x n k (x.base.l n) (upL x.s0 (x.base.l n) n) 0=[.absent,.absent,.cells true 0 [.slice 0 0 n none,.slice 1 0 k none],.cells true 0 x.cells,.cells true 0 [.nilslice,.nilslice,.nilslice],.cells true 1 (qC (qH (x.base.l n))),.cells true 0 [.slice 5 0 n none,.slice 12 0 3 none,.slice 9 0 1 none],.cells true 1 (qC (qH (upL x.s0 (x.base.l n) n))),.absent,.cells true 1 [.slice 7 0 n none],.cells true 1 [.str [95,97],.str [95,98],.str [95,99]],.cells true 1 [.str [110,95,99]],.cells true 1 [.str [110,95,97],.str [110,95,98],.str [110,95,99]],.cells true 1 []]:=rfl
 have q1:dq1 x n k (x.base.l n) (upL x.s0 (x.base.l n) n) n=[.absent,.absent,.cells true 0 [.slice 0 0 n none,.slice 1 0 k none],.cells true 0 x.cells,.cells true 0 [.nilslice,.nilslice,.nilslice],.cells true 1 (qC (qH (x.base.l n))),.cells true 0 [.slice 5 0 n none,.slice 12 0 3 none,.slice 9 0 1 none],.cells true 1 (qC (qH (upL x.s0 (x.base.l n) n))),.absent,.cells true 1 [.slice 7 0 n none],.cells true 1 [.str [95,97],.str [95,98],.str [95,99]],.cells true 1 [.str [110,95,99]],.cells true 1 [.str [110,95,97],.str [110,95,98],.str [110,95,99]],.absent,.cells true 1 (qC (qH (upL x.s1 (upL x.s0 (x.base.l n) n) n)))]:=if_neg (by omega)
 rw[q0,q1] at hJ1
 clear q0 q1
 obtain⟨S,hS⟩:∃R,R=qC (qH (upL x.s1 (upL x.s0 (x.base.l n) n) n)):=⟨_,rfl⟩
 have Sr:∀n,AV.refsL n S=[]:=fun n=>by rw[hS,eC]
 have Sn:∀f,AV.rens f S=S:=fun f=>by rw[hS,iD]
 rw[←hS] at hJ1 ⊢
 clear hS
 obtain⟨R,hR⟩:∃R,R=qC (qH (upL x.s0 (x.base.l n) n)):=⟨_,rfl⟩
 have Rr:∀n,AV.refsL n R=[]:=fun n=>by rw[hR,eC]
 have Rn:∀f,AV.rens f R=R:=fun f=>by rw[hR,iD]
 rw[←hR] at hI hJ1 ⊢
 clear hR
 obtain⟨C,hC⟩:∃C,C=x.cells:=⟨_,rfl⟩
 rw[←hC] at hI hJ1 l0 r0 o0 e0 i0 j0 hb0 ⊢
 obtain⟨X,hX⟩:∃X,X=x.n 0:=⟨_,rfl⟩
 rw[←hX] at i0 j0 w3 w4 b0 c0
 have wX:IntKind.i64.wrap X=X:=ia (by omega) (by omega)
 obtain⟨B,hB⟩:∃B,B=x.base:=⟨_,rfl⟩
 rw[←hB] at hI hJ1 hb0 hP hbk ⊢
 obtain⟨D,hD⟩:∃D,D=B.cells:=⟨_,rfl⟩
 rw[←hD,List.drop_one] at hb0
 rw[←hD] at hP
 obtain⟨Q,hQ⟩:∃Q,Q=qC (qH (B.l n)):=⟨_,rfl⟩
 have Qr:∀n,AV.refsL n Q=[]:=fun n=>by rw[hQ,eC]
 have Qn:∀f,AV.rens f Q=Q:=fun f=>by rw[hQ,iD]
 rw[←hQ] at hI hJ1 ⊢
 have p1:=fun env0 df h=>(hI env0 df h).1
 have p10:=fun env0 df h=>(hI env0 df h).2.1
 have pt2:=fun env0 df h=>(hI env0 df h).2.2 2 (by simp)
 have pt3:=fun env0 df h=>(hI env0 df h).2.2 3 (by simp)
 have pt4:=fun env0 df h=>(hI env0 df h).2.2 4 (by simp)
 have pt6:=fun env0 df h=>(hI env0 df h).2.2 6 (by simp)
 have pt7:=fun env0 df h=>(hI env0 df h).2.2 7 (by simp)
 have pt8:=fun env0 df h=>(hI env0 df h).2.2 8 (by simp)
 have pt9:=fun env0 df h=>(hI env0 df h).2.2 9 (by simp)
 clear hI
 have s1:=fun env0 df h=>(hJ1 env0 df h).1
 have s10:=fun env0 df h=>(hJ1 env0 df h).2.1
 have st2:=fun env0 df h=>(hJ1 env0 df h).2.2 2 (by simp)
 have st3:=fun env0 df h=>(hJ1 env0 df h).2.2 3 (by simp)
 have st4:=fun env0 df h=>(hJ1 env0 df h).2.2 4 (by simp)
 have st6:=fun env0 df h=>(hJ1 env0 df h).2.2 6 (by simp)
 have st7:=fun env0 df h=>(hJ1 env0 df h).2.2 7 (by simp)
 have st8:=fun env0 df h=>(hJ1 env0 df h).2.2 8 (by simp)
 have st9:=fun env0 df h=>(hJ1 env0 df h).2.2 9 (by simp)
 clear hJ1
 have tk:C.take 34=C:=List.take_of_length_le (by omega)
 obtain⟨os,hops⟩:∃os,aV Tryz.f25=os:=⟨_,rfl⟩
 have hbs:=cK hops (ls:=[[0,1,0,0,0,24,56,124,252,511,1023,2047],[0,0,0,6,14,0,0,64,0,448,960,2016,0,8160,16352,32736,65534,131070,262143,524287]]) (by kernel_rfl)
 simp only[aV,cc,Tryz.f25,List.nil_append,List.append_nil,List.cons_append] at hops
 subst hops
 simp only[List.map_cons,List.map_nil,List.cons.injEq,and_true] at hbs
 obtain⟨hb1,hb2⟩:=hbs
 have hu:=fun s=>aZ (aO Tryz.prog) fE dS (n+5) 78 2 true s bo
 simp[aj,aM,Tryz.f25] at hbb
 obtain⟨rfl,rfl⟩:=hbb
 have w1:IntKind.i64.wrap 1=1:=rfl
 have w2:IntKind.i64.wrap 2=2:=rfl
 have w0:IntKind.i64.wrap 0=0:=rfl
 have w33:IntKind.i64.wrap 3=3:=rfl
 have h:aa (aO Tryz.prog) fE (aN Tryz.prog) dS (n+5) 25 [.agg [.slice 0 0 n none,.slice 1 0 k none],.agg C,.str [110]] [.absent,.absent]=some ⟨.agg [.slice 2 0 n none,.slice 3 0 3 none,.slice 4 0 2 none],some [.absent,.absent],[.cells true 1 Q,.cells true 1 (stC (uNm 3)),.cells true 1 [.slice 5 0 n none,.slice 6 0 n none],.cells true 1 R,.cells true 1 S]⟩:=by
  simp (maxSteps:=3000000) [aa,hG,Tryz.f25,fE,dS,l0,r0,e0,j0,hb0,hP,hbk,wX,w1,w2,w33,w3,w4,hn,hl,←hQ,Qr,Qn,hu,fA,p1,p10,pt7,pt9,Rr,Rn,s1,s10,st7,st9,Sr,Sn,-aQ,bz hb1,cH,ea,eV,cM,cS,iL,bef,mR,Nat.testBit,bx,aG,uNm,nmE,stC,gE,List.idxOf?_cons]
  repeat' (first | rfl | apply And.intro)
 have:=(af ae (aw _) qD (ax _) h).1
 simpa [CallRes.mem] using this
end Go.Proofs
