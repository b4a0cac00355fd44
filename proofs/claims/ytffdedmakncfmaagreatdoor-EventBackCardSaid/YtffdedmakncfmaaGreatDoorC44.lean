/- See C54. -/
import Derived.Test.YtffdedmakncfmaaGreatDoorC43
set_option linter.all false
set_option maxRecDepth 100000
set_option maxHeartbeats 40000000
namespace Go.Proofs
open Go.Eng
open Tryz
theorem WC:dg 1 1 (-1:Rat):=⟨by decide,by decide⟩
theorem ZY:dg 1 1 (0:Rat):=⟨by decide,by decide⟩
variable{k:Rat}{m n:Nat}{v:V3}
theorem Bw(y:vDg n v)(hk:dg m m k):vDg (n+m+3) (iU v0 (nO v k)):=by
 obtain⟨Z,X,h3⟩:=y;have f:∀{q:Rat},dg n n q→dg (n+m+3) (n+m+3) (0+q*k):=fun h=>(kV ZY (cV h hk) (m:=n+m+2) (by omega) (by omega)).mono (by omega) (by omega)
 exact⟨f Z,f X,f h3⟩
theorem sY{p:V3}(y:vDg n p)(H:vDg n v)(hk:dg m m k)(h0:0<n)(h1:0<m)(h2:n+m≤40000):uD p v k:=by
 obtain⟨Z,X,V⟩:=H;have f:∀{q:Rat},dg n n q→kx (k*q):=fun h=>dc (cV hk h) (by omega) (by omega) (by omega) (by omega)
 exact⟨⟨E8 y h0 (by omega),E8 ⟨Z,X,V⟩ h0 (by omega),jA hk h1 (by omega)⟩,f Z,f X,f V⟩
section
variable {pv tv:AV}{M:Mem}
theorem ahP:aS prog 14=some f14:=by kernel_rfl
theorem yg{nm:List UInt8}{n:V3}{o:Rat}(I:pv.afR=true∧tv.afR=true)(y:vDg 100 v)(H:∀Z,kO prog 42 [.agg [pv,tv],.agg ((dO nm n o v).cells .qF .qF .qF .qF),.int .i64 1] (M++Z) (.int .i64 0) (M++Z)):
  kO prog 14 [.agg [pv,tv],.agg ((dO nm n o v).cells .qF .qF .qF .qF),.int .i64 1] M (.tuple [afA idM (iU v0 (nO v (-1))),.int .i64 0]) M:=by
 obtain⟨K,G⟩:=I;have Q:=Bw y WC;have U:afC idM (iU v0 (nO v (-1))):=⟨LI.1,LI.2.1,LI.2.2.1,tz (Q.mono (by omega))⟩;have V:uD v0 v (-1):=sY (iJ.2.2.2.mono (by omega)) y WC (by omega) (by omega) (by omega);have O:ax (-1)=[45,49]:=by decide +kernel
 have X:=fun M=>BG v0 v (-1) V M
 rw[O] at X;obtain⟨q,L⟩:=xE (iU v0 (nO v (-1)));rw[←L] at X U ⊢;have S:qS prog (afF.or (gH 42 [.agg [pv,tv],.agg ((dO nm n o v).cells .qF .qF .qF .qF),.int .i64 1] (.int .i64 0) (fun N=>∃Z,N=M++Z)) (ag (cc [(43,[],afA idM v0),(49,[afA idM q],.int .i64 0),(44,[vA v0,vA v,.str [45,49]],vA q)]))):=qS.or (iM fun N ⟨Z,hZ⟩=>by subst hZ;exact H Z) (cD fun e R M=>by
  simp only[lM] at R;rcases R with rfl | rfl | rfl
  ·exact mK M
  ·exact jg U M
  ·exact X M)
 clear H X;have h:aa (bh prog) (fun _=>[]) (aS prog) (afF.or (gH 42 [.agg [pv,tv],.agg ((dO nm n o v).cells .qF .qF .qF .qF),.int .i64 1] (.int .i64 0) (fun N=>∃Z,N=M++Z)) (ag (cc [(43,[],afA idM v0),(49,[afA idM q],.int .i64 0),(44,[vA v0,vA v,.str [45,49]],vA q)]))) 1 14 [.agg [pv,tv],.agg ((dO nm n o v).cells .qF .qF .qF .qF),.int .i64 1] M=some ⟨.tuple [afA idM q,.int .i64 0],none,[]⟩:=by clear S;simp[aa,ahP,f14,afF.or,gH,ag,cc,dO,Evc.cells,afA,mC,vL,vA]
 have:=(ar aj (aK _) S (aR _) h).1;simpa [y9.mem] using this
end
def sgT(bck:Bool):List UInt8:=if bck then [45,49] else [49]
variable{t:I4}
theorem xM(h:tLe n t)(bck:Bool):tLe n (mH t bck):=by
 cases bck
 ·exact h
 ·obtain⟨Z,X,h3,V⟩:=h
  exact⟨Z,by show(-t.2.1).natAbs≤n;omega,by show(-t.2.2.1).natAbs≤n;omega,by show(-t.2.2.2).natAbs≤n;omega⟩
theorem ug(h:¬xW t)(bck:Bool):¬xW (mH t bck):=by
 cases bck
 ·exact h
 ·rintro ⟨Z,X,h3,V⟩
  have Z:t.1=0:=Z;have X: -t.2.1=0:=X;have h3: -t.2.2.1=0:=h3;have V: -t.2.2.2=0:=V;exact h ⟨Z,by omega,by omega,by omega⟩
theorem UZ(h:tLe 20 t)(hz:¬xW t):vDg 4 (A5 t).1∧vDg 4 (A5 t).2.1∧vDg 4 (A5 t).2.2:=by
 have U:=Bu hz;obtain⟨w,x,y,z⟩:=t;obtain⟨Z,X,h3,V⟩:=h;simp only at Z X h3 V U;obtain⟨lA,R⟩:=fq Z Z;obtain⟨lB,Q⟩:=fq X X;obtain⟨O,N⟩:=fq h3 h3;obtain⟨M,L⟩:=fq V V;obtain⟨K,u⟩:=fq X h3;obtain⟨o,j⟩:=fq Z V;obtain⟨Y,W⟩:=fq X V;obtain⟨lH,nH⟩:=fq Z h3;obtain⟨lI,nI⟩:=fq h3 V;obtain⟨lJ,nJ⟩:=fq Z X;unfold A5 E5;simp only;generalize w*w=A at*;generalize x*x=B at*;generalize y*y=C at*;generalize z*z=D at*;generalize x*y=E at*;generalize w*z=F at*;generalize x*z=G at*;generalize w*y=H at*;generalize y*z=I at*;generalize w*x=J at*;clear Z X h3 V;have S:(A+B+C+D).toNat≠0∧(A+B+C+D).toNat<10 ^ 4:=by omega
 have k:∀n:Int,-1600≤n→n≤1600→dg 4 4 (mkRat n (A+B+C+D).toNat):=fun n Z X=>mZ S.1 (by omega) S.2
 exact⟨⟨k _ (by omega) (by omega),k _ (by omega) (by omega),k _ (by omega) (by omega)⟩,⟨k _ (by omega) (by omega),k _ (by omega) (by omega),k _ (by omega) (by omega)⟩,⟨k _ (by omega) (by omega),k _ (by omega) (by omega),k _ (by omega) (by omega)⟩⟩
variable{a b:V3}
theorem HV(y:vDg n a)(H:vDg m b):dg (5*(n+m)+10) (5*(n+m)+10) (fI a b):=by obtain⟨Z,X,V⟩:=y;obtain⟨U,S,R⟩:=H;have Q:=cV Z U;have P2:=cV X S;have O:=cV V R;have N:=kV Q P2 (m:=2*(n+m)) (by omega) (by omega);have M:=kV N O (m:=3*(n+m)+2) (by omega) (by omega);exact M.mono (by omega) (by omega)
theorem HA{r:M3}(h:vDg n r.1∧vDg n r.2.1∧vDg n r.2.2)(y:vDg m v):vDg (5*(n+m)+10) (mi r v):=⟨HV h.1 y,HV h.2.1 y,HV h.2.2 y⟩
theorem PG(y:vDg n a)(H:vDg m b):vDg (n+m+2) (BA a b):=by
 have f:∀{p q:Rat},dg n n p→dg m m q→dg (n+m+2) (n+m+2) (p-q):=fun h k=>(Fq h k (m:=n+m) (by omega) (by omega)).mono (by omega) (by omega)
 exact⟨f y.1 H.1,f y.2.1 H.2.1,f y.2.2 H.2.2⟩
theorem Yw(y:vDg n a)(H:vDg m b):vDg (n+m+2) (iU a b):=by
 have f:∀{p q:Rat},dg n n p→dg m m q→dg (n+m+2) (n+m+2) (p+q):=fun h k=>(kV h k (m:=n+m) (by omega) (by omega)).mono (by omega) (by omega)
 exact⟨f y.1 H.1,f y.2.1 H.2.1,f y.2.2 H.2.2⟩
variable{c:V3}
theorem Wn(h:tLe 20 t)(hz:¬xW t)(hc:vDg 2 c):ahl (A5 t) c:=by have r:=UZ h hz;have Z:=HA r hc;exact⟨tz (hc.mono (by omega)),⟨qp r.1 (hc.mono (by omega)) (by omega) (by omega),qp r.2.1 (hc.mono (by omega)) (by omega) (by omega),qp r.2.2 (hc.mono (by omega)) (by omega) (by omega)⟩,⟨E8 hc (by omega) (by omega),E8 Z (by omega) (by omega)⟩,tz ((PG hc Z).mono (by omega))⟩
theorem NS(nm:List UInt8)(y:tLe 20 t)(hz:¬xW t)(hc:vDg 2 c)(bck:Bool)(M:Mem):
  kO prog 48 [.agg ((gu nm t c).cells .qF .qF .qF .qF),.str (sgT bck)] M (.tuple [afA (A5 (mH t bck)) (BA c (mi (A5 (mH t bck)) c)),.int .i64 0]) M:=by
 have R:aS prog 48=some f48:=by kernel_rfl
 have Z:=fun M=>Nc (mH t bck) (A5 (mH t bck)) (fun M=>wP (xM y bck) (ug hz bck) M) (fun M=>NL (xM y bck) (ug hz bck) M) c (Wn (xM y bck) (ug hz bck) hc) M
 obtain⟨r,X⟩:=xE (A5 (mH t bck));rw[←X] at Z ⊢;obtain⟨s,V⟩:=xE (BA c (mi r c));rw[←V] at Z ⊢;clear X V hz;obtain⟨t1,t2,t3,t4⟩:=t;obtain⟨Q,O,N,L⟩:=y;simp only at Q O N L;have U:qS prog (ag (cc [(94,[tA (mH (t1,t2,t3,t4) bck),vA c],.tuple [afA r s,.int .i64 0])])):=cD fun e S M=>by rw[List.mem_singleton] at S;rw[S];exact Z M
 refine ao U ?_ M;clear U Z;have K:IntKind.i64.wrap (-t2)= -t2:=by rw[af]
 have G:IntKind.i64.wrap (-t3)= -t3:=by rw[af]
 have F:IntKind.i64.wrap (-t4)= -t4:=by rw[af]
 cases bck<;>simp[aa,R,f48,cc,ag,gu,Evc.cells,sgT,tA,mH,afA,mC,vL,vA,K,G,F]
theorem Ap{pv tv:AV}{M:Mem}(nm:List UInt8)(H:tLe 20 t)(hz:¬xW t)(hc:vDg 2 c)(I:pv.afR=true∧tv.afR=true){x:Int}(y:∀Z,kO prog 42 [.agg [pv,tv],.agg ((gu nm t c).cells .qF .qF .qF .qF),.int .i64 x] (M++Z) (.int .i64 0) (M++Z)):
  kO prog 14 [.agg [pv,tv],.agg ((gu nm t c).cells .qF .qF .qF .qF),.int .i64 x] M (.tuple [afA (A5 (mH t true)) (BA c (mi (A5 (mH t true)) c)),.int .i64 0]) M:=by
 obtain⟨Q,O⟩:=I;have hT:=fun M=>NS nm H hz hc true M
 obtain⟨r,X⟩:=xE (A5 (mH t true));rw[←X] at hT ⊢;obtain⟨s,V⟩:=xE (BA c (mi r c));rw[←V] at hT ⊢;have R:sgT true=[45,49]:=rfl;rw[R] at hT;clear X V;have U:qS prog (afF.or (gH 42 [.agg [pv,tv],.agg ((gu nm t c).cells .qF .qF .qF .qF),.int .i64 x] (.int .i64 0) (fun N=>∃Z,N=M++Z)) (ag (cc [(43,[],afA idM v0),(48,[.agg ((gu nm t c).cells .qF .qF .qF .qF),.str [45,49]],.tuple [afA r s,.int .i64 0])]))):=qS.or (iM fun N ⟨Z,hZ⟩=>by subst hZ;exact y Z) (cD fun e S M=>by
  simp only[lM] at S;rcases S with rfl | rfl
  ·exact mK M
  ·exact hT M)
 clear y hT;have h:aa (bh prog) (fun _=>[]) (aS prog) (afF.or (gH 42 [.agg [pv,tv],.agg ((gu nm t c).cells .qF .qF .qF .qF),.int .i64 x] (.int .i64 0) (fun N=>∃Z,N=M++Z)) (ag (cc [(43,[],afA idM v0),(48,[.agg ((gu nm t c).cells .qF .qF .qF .qF),.str [45,49]],.tuple [afA r s,.int .i64 0])]))) 1 14 [.agg [pv,tv],.agg ((gu nm t c).cells .qF .qF .qF .qF),.int .i64 x] M=some ⟨.tuple [afA r s,.int .i64 0],none,[]⟩:=by clear U;simp[aa,ahP,f14,afF.or,gH,ag,cc,gu,Evc.cells,afA,mC,vL]
 have:=(ar aj (aK _) U (aR _) h).1;simpa [y9.mem] using this
end Go.Proofs
namespace Go.Proofs
open Go.Eng
open Tryz
theorem Xj{k:Nat}{q:Rat}(h:big k q):dg k k q:=h
theorem Qf{Q:List (Rat×Rat)}{n:Nat}(h:Xi 2 Q)(y:n≤Q.length):dg 41 41 (nZ Q n).1∧dg 41 41 (nZ Q n).2:=by
 have get:∀i,i<Q.length→∃q,Q[i]? =some q∧big 2 q.1∧big 2 q.2:=fun i V=>⟨Q[i],List.getElem?_eq_getElem V,h _ (List.getElem_mem V)⟩
 have z:big 41 0:=Wv (by decide);suffices big 41 (nZ Q n).1∧big 41 (nZ Q n).2 from⟨Xj this.1,Xj this.2⟩
 unfold nZ;by_cases Z:Q=[]
 ·rw[if_pos Z];exact⟨z,z⟩
 ·have O:0<Q.length:=List.length_pos_iff.2 Z
  rw[if_neg Z];by_cases U:n=0
  ·rw[if_pos U]
   obtain⟨q,N,D,M⟩:=get 0 O;rw[sG N];exact⟨M.mono (by decide),z⟩
  ·rw[if_neg U]
   obtain⟨m,rfl⟩:∃m,n=m+1:=⟨n-1,by omega⟩
   obtain⟨a,L,S,X⟩:=get m (by omega);rw[show m+1-1=m by omega,sG L];by_cases R:m+1=Q.length
   ·rw[if_pos R];exact⟨X.mono (by decide),z⟩
   ·rw[if_neg R]
    obtain⟨b,K,G,F⟩:=get (m+1) (by omega);rw[sG K];unfold DQ;have d3:=OS (sB F X) (sB G S);have d4:=Hh d3 (S.mono (by omega));have d5:=sB (X.mono (by omega)) d4;exact⟨d5.mono (by decide),d3.mono (by decide)⟩
def L7(n v:V3)(b:Rat):M3:=(iU (1,0,0) (nO n (-(b*v.1))),iU (0,1,0) (nO n (-(b*v.2.1))),iU (0,0,1) (nO n (-(b*v.2.2))))
theorem FV{e v:V3}{k:Rat}{n m:Nat}(y:vDg 2 e)(H:vDg n v)(hk:dg m m k):vDg (n+m+5) (iU e (nO v k)):=by
 obtain⟨Z,X,h3⟩:=H;obtain⟨V,U,S⟩:=y;have f:∀{p q:Rat},dg 2 2 p→dg n n q→dg (n+m+5) (n+m+5) (p+q*k):=fun R h=>(kV R (cV h hk) (m:=n+m+2) (by omega) (by omega)).mono (by omega) (by omega)
 exact⟨f V Z,f U X,f S h3⟩
section
variable {pv tv kn:AV}{M:Mem}
theorem Ao{nm:List UInt8}{n v:V3}{L:List P2}{a b:Rat}{x:Int}(cp:pv.afR=true∧tv.afR=true)(hkn:kn.afR=true)(I:vDg 5 n)(y:vDg 5 v)(J:dg 41 41 a)(H:dg 41 41 b)(W:∀Z,kO prog 45 [kn,.int .i64 x] (M++Z) (.tuple [.str (ax a),.str (ax b)]) (M++Z))(hP:∀Z,kO prog 42 [.agg [pv,tv],.agg ((dR nm n L v).cells .qF .qF .qF kn),.int .i64 x] (M++Z) (.int .i64 0) (M++Z)):
  kO prog 14 [.agg [pv,tv],.agg ((dR nm n L v).cells .qF .qF .qF kn),.int .i64 x] M (.tuple [afA (L7 n v b) (iU v0 (nO v (-a))),.int .i64 0]) M:=by
 obtain⟨c1,c2⟩:=cp;have D:=xo J;have C:=xo (cV H y.1);have B:=xo (cV H y.2.1);have g3:=xo (cV H y.2.2);have X:afC (L7 n v b) (iU v0 (nO v (-a))):=⟨tz ((FV iJ.1 I C).mono (by omega)),tz ((FV iJ.2.1 I B).mono (by omega)),tz ((FV iJ.2.2.1 I g3).mono (by omega)),tz ((Bw y D).mono (by omega))⟩;have p1:uD (1,0,0) n (-(b*v.1)):=sY (iJ.1.mono (by omega)) I C (by omega) (by omega) (by omega);have p2:uD (0,1,0) n (-(b*v.2.1)):=sY (iJ.2.1.mono (by omega)) I B (by omega) (by omega) (by omega);have p3:uD (0,0,1) n (-(b*v.2.2)):=sY (iJ.2.2.1.mono (by omega)) I g3 (by omega) (by omega) (by omega);have u:uD v0 v (-a):=sY (iJ.2.2.2.mono (by omega)) y D (by omega) (by omega) (by omega);obtain⟨f1,f2⟩:=jA J (by omega) (by omega);obtain⟨f3,f4⟩:=jA H (by omega) (by omega);obtain⟨f5,f6⟩:=jA y.1 (by omega) (by omega);obtain⟨f7,f8⟩:=jA y.2.1 (by omega) (by omega);obtain⟨f9,f10⟩:=jA y.2.2 (by omega) (by omega);have l0:=eH (jA J (by omega) (by omega));have l1:=eH (jA (cV H y.1) (by omega) (by omega));have l2:=eH (jA (cV H y.2.1) (by omega) (by omega));have l3:=eH (jA (cV H y.2.2) (by omega) (by omega));clear C B g3 D I y J H;obtain⟨R,Q,O⟩:=v;obtain⟨V,U,S⟩:=n;simp only at p1 p2 p3 u f5 f6 f7 f8 f9 f10 l1 l2 l3;unfold L7 at X ⊢;unfold v0 at u X ⊢;simp only at X ⊢;obtain⟨r1,K⟩:=xE (iU (1,0,0) (nO (V,U,S) (-(b*R))));obtain⟨r2,G⟩:=xE (iU (0,1,0) (nO (V,U,S) (-(b*Q))));obtain⟨o,F⟩:=xE (iU (0,0,1) (nO (V,U,S) (-(b*O))));obtain⟨q,hq⟩:=xE (iU (0,0,0) (nO (R,Q,O) (-a)));rw[←K,←G,←F,←hq] at X ⊢;have hO:qS prog (afF.or (afF.or (gH 42 [.agg [pv,tv],.agg ((dR nm (V,U,S) L (R,Q,O)).cells .qF .qF .qF kn),.int .i64 x] (.int .i64 0) (fun N=>∃Z,N=M++Z)) (gH 45 [kn,.int .i64 x] (.tuple [.str (ax a),.str (ax b)]) (fun N=>∃Z,N=M++Z))) (afF.or (ag (cc [(43,[],afA idM v0),(49,[afA (r1,r2,o) q],.int .i64 0)])) (ag fa))):=
  qS.or (qS.or (iM fun N ⟨Z,hZ⟩=>by subst hZ;exact hP Z) (iM fun N ⟨Z,hZ⟩=>by subst hZ;exact W Z)) (qS.or (cD fun e he M=>by
   simp only[lM] at he;rcases he with rfl | rfl
   ·exact mK M
   ·exact jg X M) iW)
 clear hP W X;obtain⟨o1,o2,m⟩:∃o1 o2,aG f14=[o1,o2]:=⟨_,_,rfl⟩
 obtain⟨j,Y⟩:=CV m (l:=[0,0,0,6,14,0,32,96,0,0,512,1536,3840,7936,16382,0,65535,131071]) (l' :=[0,1,0,4,12,0,32,127,255,511]) (by kernel_rfl);have k1:dH [0,0,0,6,14,0,32,96,0,0,512,1536,3840,7936,16382,0,65535,131071] 17=true:=by decide
 have k2:dH [0,1,0,4,12,0,32,127,255,511] 9=true:=by decide
 simp[aG,bQ,f14] at m;obtain⟨rfl,rfl⟩:=m;have z0:ax 0=[48]:=rfl;have z1:ax 1=[49]:=rfl;have y0:dY [48]=some 0:=by rw[←z0];exact ay 0
 have y1:dY [49]=some 1:=by rw[←z1];exact ay 1
 have h:aa (bh prog) (fun _=>[63]) (aS prog) (afF.or (afF.or (gH 42 [.agg [pv,tv],.agg ((dR nm (V,U,S) L (R,Q,O)).cells .qF .qF .qF kn),.int .i64 x] (.int .i64 0) (fun N=>∃Z,N=M++Z)) (gH 45 [kn,.int .i64 x] (.tuple [.str (ax a),.str (ax b)]) (fun N=>∃Z,N=M++Z))) (afF.or (ag (cc [(43,[],afA idM v0),(49,[afA (r1,r2,o) q],.int .i64 0)])) (ag fa))) 4 14 [.agg [pv,tv],.agg ((dR nm (V,U,S) L (R,Q,O)).cells .qF .qF .qF kn),.int .i64 x] M=some ⟨.tuple [afA (r1,r2,o) q,.int .i64 0],none,[]⟩:=by clear hO;simp[-getElem?_pos,-AV.afR,-AV.known,-AV.cells,-dy,-List.all_eq_true,vS,rS,mS,-bK,-bt,-AV.afP,-afU.afP,aa,ahP,f14,afF.or,gH,ag,cc,dR,Evc.cells,afA,mC,vL,vA,bN,aT,ga,-aH,ak j,ak Y,be,aV,aX,k1,k2,Nat.testBit,fa,bn,bw,bL,bD,v3P,ay,y0,y1,z0,z1,idM,v0,w1,w2,w3,f3,f4,f5,f6,f7,f8,f9,f10,l0,l1,l2,l3,p1,p2,p3,u,←K,←G,←F,←hq]
 have:=(ar aj (aK _) hO (aR _) h).1;simpa [y9.mem] using this
end
end Go.Proofs
namespace Go.Proofs
open Go.Eng
def sgB(bck:Bool):Rat:=if bck then -1 else 1
def qQ(n:V3)(o:Rat)(p:V3):Int:=if o≤fI n p then 1 else 0
def FH(n:V3)(o:Rat)(v:V3)(bck:Bool)(p:V3):V3:=if o≤fI n p then iU p (nO v (sgB bck)) else p
def ZG(n:V3)(K:List P2)(v:V3)(bck:Bool)(p:V3):V3:=iU p (nO v (sgB bck*jS K (fI n p)))
structure ain (n:V3)(o:Rat)(v:V3)(bck:Bool)(p:V3):Prop where
 pk:vC p
 dk:yS n p
 fd:kx (fI n p)
 fo:kx o
 pl:uD p v (sgB bck)
 rk:vC (iU p (nO v (sgB bck)))
structure aio (n:V3)(L:List P2)(v:V3)(bck:Bool)(p:V3):Prop where
 pk:vC p
 dk:yS n p
 lk:Y4 L
 vk:big 40 (fI n p)
 fw:kx (jS L (fI n p))
 fk:kx (sgB bck)
 pl:uD p v (sgB bck*jS L (fI n p))
 rk:vC (iU p (nO v (sgB bck*jS L (fI n p))))
end Go.Proofs
