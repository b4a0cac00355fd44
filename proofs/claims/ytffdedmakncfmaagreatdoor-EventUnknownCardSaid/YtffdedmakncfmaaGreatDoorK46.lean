/- See K51. -/
import Derived.Test.YtffdedmakncfmaaGreatDoorK45
set_option linter.all false
namespace Go.Proofs
open Go.Eng
theorem Rz:dg 1 1 (-1:Rat):=⟨by decide,by decide⟩
theorem SF:dg 1 1 (0:Rat):=⟨by decide,by decide⟩
theorem Kh{v:V3}{k:Rat}{n m:Nat}(hv:vDg n v) (hk:dg m m k):vDg (n+m+3) (AU v0 (By v k)):=by
 obtain⟨h1,h2,h3⟩:=hv
 have f:∀{q:Rat},dg n n q→dg (n+m+3) (n+m+3) (0+q*k):=fun h=>(ot SF (gb h hk) (m:=n+m+2) (by omega) (by omega)).mono (by omega) (by omega)
 exact⟨f h1,f h2,f h3⟩
theorem oU{p v:V3}{k:Rat}{n m:Nat}(hp:vDg n p) (hv:vDg n v) (hk:dg m m k) (h0:0<n) (h1:0<m) (h2:n+m≤40000):vQ p v k:=by
 obtain⟨a1,a2,a3⟩:=hv
 have f:∀{q:Rat},dg n n q→ky (k*q):=fun h=>cj (gb hk h) (by omega) (by omega) (by omega) (by omega)
 exact⟨⟨MC hp h0 (by omega),MC ⟨a1,a2,a3⟩ h0 (by omega),gO hk h1 (by omega)⟩,f a1,f a2,f a3⟩
section
variable {pv tv:AV}{M:Mem}
set_option maxHeartbeats 1600000 in
theorem tW{nm:List UInt8}{n:V3}{o:Rat}{v:V3}(cp:pv.cellOk=true∧tv.cellOk=true) (hv:vDg 100 v) (hP:∀Z,ACallsTo Tryz.prog 42 [.agg [pv,tv],.agg ((fc nm n o v).cells .nilslice .nilslice .nilslice .nilslice),.int .i64 1] (M++Z) (.int .i64 0) (M++Z)):
  ACallsTo Tryz.prog 14 [.agg [pv,tv],.agg ((fc nm n o v).cells .nilslice .nilslice .nilslice .nilslice),.int .i64 1] M (.tuple [afA idM (AU v0 (By v (-1))),.int .i64 0]) M:=by
 have hG:aN Tryz.prog 14=some Tryz.f14:=by kernel_rfl
 obtain⟨c1,c2⟩:=cp
 have hs:=Kh hv Rz
 have hc:afC idM (AU v0 (By v (-1))):=⟨Gw.1,Gw.2.1,Gw.2.2.1,zU (hs.mono (by omega))⟩
 have hpl:vQ v0 v (-1):=oU (mN.2.2.2.mono (by omega)) hv Rz (by omega) (by omega) (by omega)
 have m1:aB (-1)=[45,49]:=by decide +kernel
 have hpc:=fun M=>xP v0 v (-1) hpl M
 rw[m1] at hpc
 obtain⟨q,hq⟩:∃q,q=AU v0 (By v (-1)):=⟨_,rfl⟩
 rw[←hq] at hpc hc ⊢
 have hO:OracleOk Tryz.prog (Oracle.or (cJ 42 [.agg [pv,tv],.agg ((fc nm n o v).cells .nilslice .nilslice .nilslice .nilslice),.int .i64 1] (.int .i64 0) (fun N=>∃Z,N=M++Z)) (ai (cG [(43,[],afA idM v0),(49,[afA idM q],.int .i64 0),(44,[vA v0,vA v,.str [45,49]],vA q)]))):=OracleOk.or (dT fun N ⟨Z,hZ⟩=>by subst hZ;exact hP Z) (dL fun e he M=>by
  simp only[List.mem_cons,List.not_mem_nil,or_false] at he
  rcases he with rfl | rfl | rfl
  ·exact jL M
  ·exact jK hc M
  ·exact hpc M)
 clear hP hpc
 have h:aa (aO Tryz.prog) (fun _=>[]) (aN Tryz.prog) (Oracle.or (cJ 42 [.agg [pv,tv],.agg ((fc nm n o v).cells .nilslice .nilslice .nilslice .nilslice),.int .i64 1] (.int .i64 0) (fun N=>∃Z,N=M++Z)) (ai (cG [(43,[],afA idM v0),(49,[afA idM q],.int .i64 0),(44,[vA v0,vA v,.str [45,49]],vA q)]))) 1 14 [.agg [pv,tv],.agg ((fc nm n o v).cells .nilslice .nilslice .nilslice .nilslice),.int .i64 1] M=some ⟨.tuple [afA idM q,.int .i64 0],none,[]⟩:=by
  clear hO
  simp[aa,hG,Tryz.f14,Oracle.or,cJ,ai,cG,fc,Evc.cells,afA,mC,vL,vA]
 have:=(af ae (aw _) hO (ax _) h).1
 simpa [CallRes.mem] using this
end
def sgT(bck:Bool):List UInt8:=if bck then [45,49] else [49]
theorem Da{t:I4}{n:Nat}(h:tLe n t) (bck:Bool):tLe n (tH t bck):=by
 cases bck
 ·exact h
 ·obtain⟨h1,h2,h3,h4⟩:=h
  exact⟨h1,by show(-t.2.1).natAbs≤n;omega,by show(-t.2.2.1).natAbs≤n;omega,by show(-t.2.2.2).natAbs≤n;omega⟩
theorem Db{t:I4}(h:¬zW t) (bck:Bool):¬zW (tH t bck):=by
 cases bck
 ·exact h
 ·rintro ⟨h1,h2,h3,h4⟩
  have h1:t.1=0:=h1
  have h2: -t.2.1=0:=h2
  have h3: -t.2.2.1=0:=h3
  have h4: -t.2.2.2=0:=h4
  exact h ⟨h1,by omega,by omega,by omega⟩
theorem Q8{t:I4}(h:tLe 20 t) (hz:¬zW t):vDg 4 (HH t).1∧vDg 4 (HH t).2.1∧vDg 4 (HH t).2.2:=by
 have hpos:=Kf hz
 obtain⟨w,x,y,z⟩:=t
 obtain⟨h1,h2,h3,h4⟩:=h
 simp only at h1 h2 h3 h4 hpos
 obtain⟨lA,nA⟩:=gh h1 h1
 obtain⟨lB,nB⟩:=gh h2 h2
 obtain⟨lC,nC⟩:=gh h3 h3
 obtain⟨lD,nD⟩:=gh h4 h4
 obtain⟨lE,nE⟩:=gh h2 h3
 obtain⟨lF,nF⟩:=gh h1 h4
 obtain⟨lG,nG⟩:=gh h2 h4
 obtain⟨lH,nH⟩:=gh h1 h3
 obtain⟨lI,nI⟩:=gh h3 h4
 obtain⟨lJ,nJ⟩:=gh h1 h2
 unfold HH Oq
 simp only
 generalize w*w=A at*
 generalize x*x=B at*
 generalize y*y=C at*
 generalize z*z=D at*
 generalize x*y=E at*
 generalize w*z=F at*
 generalize x*z=G at*
 generalize w*y=H at*
 generalize y*z=I at*
 generalize w*x=J at*
 clear h1 h2 h3 h4
 have hd:(A+B+C+D).toNat≠0∧(A+B+C+D).toNat<10 ^ 4:=by omega
 have k:∀n:Int,-1600≤n→n≤1600→dg 4 4 (mkRat n (A+B+C+D).toNat):=fun n h1 h2=>sP hd.1 (by omega) hd.2
 exact⟨⟨k _ (by omega) (by omega),k _ (by omega) (by omega),k _ (by omega) (by omega)⟩,⟨k _ (by omega) (by omega),k _ (by omega) (by omega),k _ (by omega) (by omega)⟩,⟨k _ (by omega) (by omega),k _ (by omega) (by omega),k _ (by omega) (by omega)⟩⟩
theorem JD{a b:V3}{n m:Nat}(ha:vDg n a) (hb:vDg m b):dg (5*(n+m)+10) (5*(n+m)+10) (vW a b):=by
 obtain⟨a1,a2,a3⟩:=ha
 obtain⟨b1,b2,b3⟩:=hb
 have P1:=gb a1 b1
 have P2:=gb a2 b2
 have P3:=gb a3 b3
 have S1:=ot P1 P2 (m:=2*(n+m)) (by omega) (by omega)
 have S2:=ot S1 P3 (m:=3*(n+m)+2) (by omega) (by omega)
 exact S2.mono (by omega) (by omega)
theorem Q3{r:M3}{v:V3}{n m:Nat}(h:vDg n r.1∧vDg n r.2.1∧vDg n r.2.2) (hv:vDg m v):vDg (5*(n+m)+10) (G6 r v):=⟨JD h.1 hv,JD h.2.1 hv,JD h.2.2 hv⟩
theorem Rp{a b:V3}{n m:Nat}(ha:vDg n a) (hb:vDg m b):vDg (n+m+2) (MK a b):=by
 have f:∀{p q:Rat},dg n n p→dg m m q→dg (n+m+2) (n+m+2) (p-q):=fun h k=>(GL h k (m:=n+m) (by omega) (by omega)).mono (by omega) (by omega)
 exact⟨f ha.1 hb.1,f ha.2.1 hb.2.1,f ha.2.2 hb.2.2⟩
theorem PA{t:I4}{c:V3}(h:tLe 20 t) (hz:¬zW t) (hc:vDg 2 c):AboutOk (HH t) c:=by
 have r:=Q8 h hz
 have ma:=Q3 r hc
 exact⟨zU (hc.mono (by omega)),⟨CG r.1 (hc.mono (by omega)) (by omega) (by omega),CG r.2.1 (hc.mono (by omega)) (by omega) (by omega),CG r.2.2 (hc.mono (by omega)) (by omega) (by omega)⟩,⟨MC hc (by omega) (by omega),MC ma (by omega) (by omega)⟩,zU ((Rp hc ma).mono (by omega))⟩
theorem H8(nm:List UInt8) {t:I4}{c:V3}(ht:tLe 20 t) (hz:¬zW t) (hc:vDg 2 c) (bck:Bool) (M:Mem):
  ACallsTo Tryz.prog 48 [.agg ((fI nm t c).cells .nilslice .nilslice .nilslice .nilslice),.str (sgT bck)] M (.tuple [afA (HH (tH t bck)) (MK c (G6 (HH (tH t bck)) c)),.int .i64 0]) M:=by
 have hG:aN Tryz.prog 48=some Tryz.f48:=by kernel_rfl
 have hA:=fun M=>HK (tH t bck) (HH (tH t bck)) (fun M=>sf (Da ht bck) (Db hz bck) M) (fun M=>H2 (Da ht bck) (Db hz bck) M) c (PA (Da ht bck) (Db hz bck) hc) M
 obtain⟨r,hr⟩:∃r,r=HH (tH t bck):=⟨_,rfl⟩
 rw[←hr] at hA ⊢
 obtain⟨s,hs⟩:∃s,s=MK c (G6 r c):=⟨_,rfl⟩
 rw[←hs] at hA ⊢
 clear hr hs hz
 obtain⟨t1,t2,t3,t4⟩:=t
 obtain⟨b1,b2,b3,b4⟩:=ht
 simp only at b1 b2 b3 b4
 have hO:OracleOk Tryz.prog (ai (cG [(94,[tA (tH (t1,t2,t3,t4) bck),vA c],.tuple [afA r s,.int .i64 0])])):=dL fun e he M=>by
  rw[List.mem_singleton] at he
  rw[he];exact hA M
 refine aq hO (lv:=fun _=>[]) (K:=1) rfl rfl ?_ M
 clear hO hA
 have n2:IntKind.i64.wrap (-t2)= -t2:=by rw[ag (by omega) (by omega)]
 have n3:IntKind.i64.wrap (-t3)= -t3:=by rw[ag (by omega) (by omega)]
 have n4:IntKind.i64.wrap (-t4)= -t4:=by rw[ag (by omega) (by omega)]
 cases bck<;>simp[aa,hG,Tryz.f48,cG,ai,fI,Evc.cells,sgT,tA,tH,afA,mC,vL,vA,n2,n3,n4]
theorem wB{pv tv:AV}{M:Mem}(nm:List UInt8) {t:I4}{c:V3}(ht:tLe 20 t) (hz:¬zW t) (hc:vDg 2 c) (cp:pv.cellOk=true∧tv.cellOk=true) {x:Int}(hP:∀Z,ACallsTo Tryz.prog 42 [.agg [pv,tv],.agg ((fI nm t c).cells .nilslice .nilslice .nilslice .nilslice),.int .i64 x] (M++Z) (.int .i64 0) (M++Z)):
  ACallsTo Tryz.prog 14 [.agg [pv,tv],.agg ((fI nm t c).cells .nilslice .nilslice .nilslice .nilslice),.int .i64 x] M (.tuple [afA (HH (tH t true)) (MK c (G6 (HH (tH t true)) c)),.int .i64 0]) M:=by
 have hG:aN Tryz.prog 14=some Tryz.f14:=by kernel_rfl
 obtain⟨c1,c2⟩:=cp
 have hT:=fun M=>H8 nm ht hz hc true M
 obtain⟨r,hr⟩:∃r,r=HH (tH t true):=⟨_,rfl⟩
 rw[←hr] at hT ⊢
 obtain⟨s,hs⟩:∃s,s=MK c (G6 r c):=⟨_,rfl⟩
 rw[←hs] at hT ⊢
 have sg:sgT true=[45,49]:=rfl
 rw[sg] at hT
 clear hr hs
 have hO:OracleOk Tryz.prog (Oracle.or (cJ 42 [.agg [pv,tv],.agg ((fI nm t c).cells .nilslice .nilslice .nilslice .nilslice),.int .i64 x] (.int .i64 0) (fun N=>∃Z,N=M++Z)) (ai (cG [(43,[],afA idM v0),(48,[.agg ((fI nm t c).cells .nilslice .nilslice .nilslice .nilslice),.str [45,49]],.tuple [afA r s,.int .i64 0])]))):=OracleOk.or (dT fun N ⟨Z,hZ⟩=>by subst hZ;exact hP Z) (dL fun e he M=>by
  simp only[List.mem_cons,List.not_mem_nil,or_false] at he
  rcases he with rfl | rfl
  ·exact jL M
  ·exact hT M)
 clear hP hT
 have h:aa (aO Tryz.prog) (fun _=>[]) (aN Tryz.prog) (Oracle.or (cJ 42 [.agg [pv,tv],.agg ((fI nm t c).cells .nilslice .nilslice .nilslice .nilslice),.int .i64 x] (.int .i64 0) (fun N=>∃Z,N=M++Z)) (ai (cG [(43,[],afA idM v0),(48,[.agg ((fI nm t c).cells .nilslice .nilslice .nilslice .nilslice),.str [45,49]],.tuple [afA r s,.int .i64 0])]))) 1 14 [.agg [pv,tv],.agg ((fI nm t c).cells .nilslice .nilslice .nilslice .nilslice),.int .i64 x] M=some ⟨.tuple [afA r s,.int .i64 0],none,[]⟩:=by
  clear hO
  simp[aa,hG,Tryz.f14,Oracle.or,cJ,ai,cG,fI,Evc.cells,afA,mC,vL]
 have:=(af ae (aw _) hO (ax _) h).1
 simpa [CallRes.mem] using this
end Go.Proofs
namespace Go.Proofs
open Go.Eng
theorem Qu{k:Nat}{q:Rat}(h:big k q):dg k k q:=h
theorem PY{Q:List (Rat×Rat)}{n:Nat}(h:Rx 2 Q) (hn:n≤Q.length):dg 41 41 (sX Q n).1∧dg 41 41 (sX Q n).2:=by
 have get:∀i,i<Q.length→∃q,Q[i]? =some q∧big 2 q.1∧big 2 q.2:=fun i hi=>⟨Q[i],List.getElem?_eq_getElem hi,h _ (List.getElem_mem hi)⟩
 have z:big 41 0:=PG (by decide)
 suffices big 41 (sX Q n).1∧big 41 (sX Q n).2 from⟨Qu this.1,Qu this.2⟩
 unfold sX
 by_cases h0:Q=[]
 ·rw[if_pos h0];exact⟨z,z⟩
 ·have hp:0<Q.length:=List.length_pos_iff.2 h0
  rw[if_neg h0]
  by_cases hz:n=0
  ·rw[if_pos hz]
   obtain⟨q,hq,q1,q2⟩:=get 0 hp
   rw[uN hq];exact⟨q2.mono (by decide),z⟩
  ·rw[if_neg hz]
   obtain⟨m,rfl⟩:∃m,n=m+1:=⟨n-1,by omega⟩
   obtain⟨a,ha,a1,a2⟩:=get m (by omega)
   rw[show m+1-1=m by omega,uN ha]
   by_cases hE:m+1=Q.length
   ·rw[if_pos hE];exact⟨a2.mono (by decide),z⟩
   ·rw[if_neg hE]
    obtain⟨b,hb,b1,b2⟩:=get (m+1) (by omega)
    rw[uN hb]
    unfold Kj
    have d3:=No (yR b2 a2) (yR b1 a1)
    have d4:=IW d3 (a1.mono (by omega))
    have d5:=yR (a2.mono (by omega)) d4
    exact⟨d5.mono (by decide),d3.mono (by decide)⟩
def PM(n v:V3) (b:Rat):M3:=(AU (1,0,0) (By n (-(b*v.1))),AU (0,1,0) (By n (-(b*v.2.1))),AU (0,0,1) (By n (-(b*v.2.2))))
theorem Ou{e v:V3}{k:Rat}{n m:Nat}(he:vDg 2 e) (hv:vDg n v) (hk:dg m m k):vDg (n+m+5) (AU e (By v k)):=by
 obtain⟨h1,h2,h3⟩:=hv
 obtain⟨e1,e2,e3⟩:=he
 have f:∀{p q:Rat},dg 2 2 p→dg n n q→dg (n+m+5) (n+m+5) (p+q*k):=fun hp h=>(ot hp (gb h hk) (m:=n+m+2) (by omega) (by omega)).mono (by omega) (by omega)
 exact⟨f e1 h1,f e2 h2,f e3 h3⟩
section
variable {pv tv kn:AV}{M:Mem}
set_option maxRecDepth 8192 in
set_option maxHeartbeats 6400000 in
theorem wA{nm:List UInt8}{n v:V3}{L:List P2}{a b:Rat}{x:Int}(cp:pv.cellOk=true∧tv.cellOk=true) (hkn:kn.cellOk=true) (hn:vDg 5 n) (hv:vDg 5 v) (ha:dg 41 41 a) (hb:dg 41 41 b)
  (hL:∀Z,ACallsTo Tryz.prog 45 [kn,.int .i64 x] (M++Z) (.tuple [.str (aB a),.str (aB b)]) (M++Z))
  (hP:∀Z,ACallsTo Tryz.prog 42 [.agg [pv,tv],.agg ((dY nm n L v).cells .nilslice .nilslice .nilslice kn),.int .i64 x] (M++Z) (.int .i64 0) (M++Z)):
  ACallsTo Tryz.prog 14 [.agg [pv,tv],.agg ((dY nm n L v).cells .nilslice .nilslice .nilslice kn),.int .i64 x] M (.tuple [afA (PM n v b) (AU v0 (By v (-a))),.int .i64 0]) M:=by
 have hG:aN Tryz.prog 14=some Tryz.f14:=by kernel_rfl
 obtain⟨c1,c2⟩:=cp
 have gA:=GK ha
 have g1:=GK (gb hb hv.1)
 have g2:=GK (gb hb hv.2.1)
 have g3:=GK (gb hb hv.2.2)
 have hc:afC (PM n v b) (AU v0 (By v (-a))):=⟨zU ((Ou mN.1 hn g1).mono (by omega)),zU ((Ou mN.2.1 hn g2).mono (by omega)),zU ((Ou mN.2.2.1 hn g3).mono (by omega)),zU ((Kh hv gA).mono (by omega))⟩
 have p1:vQ (1,0,0) n (-(b*v.1)):=oU (mN.1.mono (by omega)) hn g1 (by omega) (by omega) (by omega)
 have p2:vQ (0,1,0) n (-(b*v.2.1)):=oU (mN.2.1.mono (by omega)) hn g2 (by omega) (by omega) (by omega)
 have p3:vQ (0,0,1) n (-(b*v.2.2)):=oU (mN.2.2.1.mono (by omega)) hn g3 (by omega) (by omega) (by omega)
 have p4:vQ v0 v (-a):=oU (mN.2.2.2.mono (by omega)) hv gA (by omega) (by omega) (by omega)
 obtain⟨f1,f2⟩:=gO ha (by omega) (by omega)
 obtain⟨f3,f4⟩:=gO hb (by omega) (by omega)
 obtain⟨f5,f6⟩:=gO hv.1 (by omega) (by omega)
 obtain⟨f7,f8⟩:=gO hv.2.1 (by omega) (by omega)
 obtain⟨f9,f10⟩:=gO hv.2.2 (by omega) (by omega)
 have l0:=ft (gO ha (by omega) (by omega))
 have l1:=ft (gO (gb hb hv.1) (by omega) (by omega))
 have l2:=ft (gO (gb hb hv.2.1) (by omega) (by omega))
 have l3:=ft (gO (gb hb hv.2.2) (by omega) (by omega))
 clear g1 g2 g3 gA hn hv ha hb
 obtain⟨v1,v2,v3⟩:=v
 obtain⟨n1,n2,n3⟩:=n
 simp only at p1 p2 p3 p4 f5 f6 f7 f8 f9 f10 l1 l2 l3
 unfold PM at hc ⊢
 unfold v0 at p4 hc ⊢
 simp only at hc ⊢
 obtain⟨r1,hr1⟩:∃r,r=AU (1,0,0) (By (n1,n2,n3) (-(b*v1))):=⟨_,rfl⟩
 obtain⟨r2,hr2⟩:∃r,r=AU (0,1,0) (By (n1,n2,n3) (-(b*v2))):=⟨_,rfl⟩
 obtain⟨r3,hr3⟩:∃r,r=AU (0,0,1) (By (n1,n2,n3) (-(b*v3))):=⟨_,rfl⟩
 obtain⟨q,hq⟩:∃r,r=AU (0,0,0) (By (v1,v2,v3) (-a)):=⟨_,rfl⟩
 rw[←hr1,←hr2,←hr3,←hq] at hc ⊢
 have hO:OracleOk Tryz.prog (Oracle.or (Oracle.or (cJ 42 [.agg [pv,tv],.agg ((dY nm (n1,n2,n3) L (v1,v2,v3)).cells .nilslice .nilslice .nilslice kn),.int .i64 x] (.int .i64 0) (fun N=>∃Z,N=M++Z)) (cJ 45 [kn,.int .i64 x] (.tuple [.str (aB a),.str (aB b)]) (fun N=>∃Z,N=M++Z))) (Oracle.or (ai (cG [(43,[],afA idM v0),(49,[afA (r1,r2,r3) q],.int .i64 0)])) (ai eG))):=
  OracleOk.or (OracleOk.or (dT fun N ⟨Z,hZ⟩=>by subst hZ;exact hP Z) (dT fun N ⟨Z,hZ⟩=>by subst hZ;exact hL Z)) (OracleOk.or (dL fun e he M=>by
   simp only[List.mem_cons,List.not_mem_nil,or_false] at he
   rcases he with rfl | rfl
   ·exact jL M
   ·exact jK hc M) gJ)
 clear hP hL hc
 obtain⟨o1,o2,hops⟩:∃o1 o2,aV Tryz.f14=[o1,o2]:=⟨_,_,rfl⟩
 obtain⟨hb1,hb2⟩:=yY hops (l:=[0,0,0,6,14,0,32,96,0,0,512,1536,3840,7936,16382,0,65535,131071]) (l' :=[0,1,0,4,12,0,32,127,255,511]) (by kernel_rfl)
 have k1:cU [0,0,0,6,14,0,32,96,0,0,512,1536,3840,7936,16382,0,65535,131071] 17=true:=by decide
 have k2:cU [0,1,0,4,12,0,32,127,255,511] 9=true:=by decide
 simp[aV,cc,Tryz.f14] at hops
 obtain⟨rfl,rfl⟩:=hops
 have w1:IntKind.i64.wrap 1=1:=rfl
 have w2:IntKind.i64.wrap 2=2:=rfl
 have w3:IntKind.i64.wrap 3=3:=rfl
 have z0:aB 0=[48]:=rfl
 have z1:aB 1=[49]:=rfl
 have y0:dU [48]=some 0:=by rw[←z0];exact aC 0
 have y1:dU [49]=some 1:=by rw[←z1];exact aC 1
 have h:aa (aO Tryz.prog) (fun _=>[63]) (aN Tryz.prog) (Oracle.or (Oracle.or (cJ 42 [.agg [pv,tv],.agg ((dY nm (n1,n2,n3) L (v1,v2,v3)).cells .nilslice .nilslice .nilslice kn),.int .i64 x] (.int .i64 0) (fun N=>∃Z,N=M++Z)) (cJ 45 [kn,.int .i64 x] (.tuple [.str (aB a),.str (aB b)]) (fun N=>∃Z,N=M++Z))) (Oracle.or (ai (cG [(43,[],afA idM v0),(49,[afA (r1,r2,r3) q],.int .i64 0)])) (ai eG))) 4 14 [.agg [pv,tv],.agg ((dY nm (n1,n2,n3) L (v1,v2,v3)).cells .nilslice .nilslice .nilslice kn),.int .i64 x] M=some ⟨.tuple [afA (r1,r2,r3) q,.int .i64 0],none,[]⟩:=by
  clear hO
  simp[-getElem?_pos,-AV.cellOk,-AV.known,-AV.cells,-fl,-List.all_eq_true,vS,rS,mS,-br,-bk,-AV.refsOk,-Slot.refsOk,aa,hG,Tryz.f14,Oracle.or,cJ,ai,cG,dY,Evc.cells,afA,mC,vL,vA,bx,aZ,fA,-aQ,aA hb1,aA hb2,bN,bF,bL,k1,k2,Nat.testBit,eG,aP,aY,bj,aX,v3P,aC,y0,y1,z0,z1,idM,v0,w1,w2,w3,f3,f4,f5,f6,f7,f8,f9,f10,l0,l1,l2,l3,p1,p2,p3,p4,←hr1,←hr2,←hr3,←hq]
 have:=(af ae (aw _) hO (ax _) h).1
 simpa [CallRes.mem] using this
end
end Go.Proofs
