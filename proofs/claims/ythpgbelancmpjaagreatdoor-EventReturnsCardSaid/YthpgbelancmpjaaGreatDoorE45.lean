/- See E54. -/
import Derived.Test.YthpgbelancmpjaaGreatDoorE44
set_option linter.all false
set_option maxRecDepth 100000
set_option maxHeartbeats 40000000
namespace Go.Proofs
open Go.Eng
open Tryz
theorem XE:dg 1 1 (0:Rat):=⟨by decide,by decide⟩
section
variable {pv tv:AV}{M:Mem}
end
def sgT(H:Bool):List UInt8:=if H then [45,49] else [49]
variable{n:Nat}{t:I4}
theorem wz(h:tLe n t)(H:Bool):tLe n (nr t H):=by
 cases H
 ·exact h
 ·obtain⟨Z,X,h3,V⟩:=h
  exact⟨Z,by show(-t.2.1).natAbs≤n;omega,by show(-t.2.2.1).natAbs≤n;omega,by show(-t.2.2.2).natAbs≤n;omega⟩
theorem wA(h:¬xY t)(H:Bool):¬xY (nr t H):=by
 cases H
 ·exact h
 ·rintro ⟨Z,X,h3,V⟩
  have Z:t.1=0:=Z;have X: -t.2.1=0:=X;have h3: -t.2.2.1=0:=h3;have V: -t.2.2.2=0:=V;exact h ⟨Z,by omega,by omega,by omega⟩
theorem No(h:tLe 20 t)(hz:¬xY t):vDg 4 (wJ t).1∧vDg 4 (wJ t).2.1∧vDg 4 (wJ t).2.2:=by
 have U:=Ge hz;obtain⟨w,x,y,z⟩:=t;obtain⟨Z,X,h3,V⟩:=h;simp only at Z X h3 V U;obtain⟨lA,R⟩:=iF Z Z;obtain⟨lB,O⟩:=iF X X;obtain⟨N,M⟩:=iF h3 h3;obtain⟨L,K⟩:=iF V V;obtain⟨u,o⟩:=iF X h3;obtain⟨m,j⟩:=iF Z V;obtain⟨Y,W⟩:=iF X V;obtain⟨lH,nH⟩:=iF Z h3;obtain⟨lI,nI⟩:=iF h3 V;obtain⟨lJ,nJ⟩:=iF Z X;unfold wJ Ce;simp only;generalize w*w=A at*;generalize x*x=B at*;generalize y*y=C at*;generalize z*z=D at*;generalize x*y=E at*;generalize w*z=F at*;generalize x*z=G at*;generalize w*y=H at*;generalize y*z=I at*;generalize w*x=J at*;clear Z X h3 V;have S:(A+B+C+D).toNat≠0∧(A+B+C+D).toNat<10 ^ 4:=by omega
 have k:∀n:Int,-1600≤n→n≤1600→dg 4 4 (mkRat n (A+B+C+D).toNat):=fun n Z X=>lN S.1 (by omega) S.2
 exact⟨⟨k _ (by omega) (by omega),k _ (by omega) (by omega),k _ (by omega) (by omega)⟩,⟨k _ (by omega) (by omega),k _ (by omega) (by omega),k _ (by omega) (by omega)⟩,⟨k _ (by omega) (by omega),k _ (by omega) (by omega),k _ (by omega) (by omega)⟩⟩
variable{a b:V3}{m:Nat}
theorem xV(H:vDg n a)(I:vDg m b):dg (5*(n+m)+10) (5*(n+m)+10) (dj a b):=by obtain⟨Z,X,V⟩:=H;obtain⟨U,S,R⟩:=I;have O:=dE Z U;have P2:=dE X S;have N:=dE V R;have M:=pq O P2 (m:=2*(n+m)) (by omega) (by omega);have L:=pq M N (m:=3*(n+m)+2) (by omega) (by omega);exact L.mono (by omega) (by omega)
theorem BJ{r:M3}{v:V3}(h:vDg n r.1∧vDg n r.2.1∧vDg n r.2.2)(H:vDg m v):vDg (5*(n+m)+10) (mF r v):=⟨xV h.1 H,xV h.2.1 H,xV h.2.2 H⟩
theorem Nx(H:vDg n a)(I:vDg m b):vDg (n+m+2) (Ov a b):=by
 have f:∀{p q:Rat},dg n n p→dg m m q→dg (n+m+2) (n+m+2) (p-q):=fun h k=>(DD h k (m:=n+m) (by omega) (by omega)).mono (by omega) (by omega)
 exact⟨f H.1 I.1,f H.2.1 I.2.1,f H.2.2 I.2.2⟩
theorem Wf(H:vDg n a)(I:vDg m b):vDg (n+m+2) (pT a b):=by
 have f:∀{p q:Rat},dg n n p→dg m m q→dg (n+m+2) (n+m+2) (p+q):=fun h k=>(pq h k (m:=n+m) (by omega) (by omega)).mono (by omega) (by omega)
 exact⟨f H.1 I.1,f H.2.1 I.2.1,f H.2.2 I.2.2⟩
variable{c:V3}
theorem Ub(h:tLe 20 t)(hz:¬xY t)(hc:vDg 2 c):afJ (wJ t) c:=by have r:=No h hz;have Z:=BJ r hc;exact⟨nt (hc.mono (by omega)),⟨gD r.1 (hc.mono (by omega)) (by omega) (by omega),gD r.2.1 (hc.mono (by omega)) (by omega) (by omega),gD r.2.2 (hc.mono (by omega)) (by omega) (by omega)⟩,⟨La hc (by omega) (by omega),La Z (by omega) (by omega)⟩,nt ((Nx hc Z).mono (by omega))⟩
theorem LN(nm:List UInt8)(I:tLe 20 t)(hz:¬xY t)(hc:vDg 2 c)(H:Bool)(M:Mem):
  kO prog 83 [.agg ((gO nm t c).cells .qF .qF .qF .qF),.str (sgT H)] M (.tuple [afA (wJ (nr t H)) (Ov c (mF (wJ (nr t H)) c)),.int .i64 0]) M:=by
 have R:aT prog 83=some f83:=by kernel_rfl
 have Z:=fun M=>Lf (nr t H) (wJ (nr t H)) (fun M=>uR (wz I H) (wA hz H) M) (fun M=>LH (wz I H) (wA hz H) M) c (Ub (wz I H) (wA hz H) hc) M
 obtain⟨r,X⟩:=xE (wJ (nr t H));rw[←X] at Z ⊢;obtain⟨s,V⟩:=xE (Ov c (mF r c));rw[←V] at Z ⊢;clear X V hz;obtain⟨t1,t2,t3,t4⟩:=t;obtain⟨O,N,L,K⟩:=I;simp only at O N L K;have U:qS prog (ag (dx [(134,[tA (nr (t1,t2,t3,t4) H),vA c],.tuple [afA r s,.int .i64 0])])):=eG fun e S M=>by rw[List.mem_singleton] at S;rw[S];exact Z M
 refine ak U ?_ M;clear U Z;have G:IntKind.i64.wrap (-t2)= -t2:=by rw[af]
 have F:IntKind.i64.wrap (-t3)= -t3:=by rw[af]
 have D:IntKind.i64.wrap (-t4)= -t4:=by rw[af]
 cases H<;>simp[aa,R,f83,dx,ag,gO,Evc.cells,sgT,tA,nr,afA,mC,vL,vA,G,F,D]
end Go.Proofs
namespace Go.Proofs
open Go.Eng
theorem U9{k:Nat}{q:Rat}(h:big k q):dg k k q:=h
theorem UD{Q:List (Rat×Rat)}{n:Nat}(h:U8 2 Q)(H:n≤Q.length):dg 41 41 (mY Q n).1∧dg 41 41 (mY Q n).2:=by
 have get:∀i,i<Q.length→∃q,Q[i]? =some q∧big 2 q.1∧big 2 q.2:=fun i V=>⟨Q[i],List.getElem?_eq_getElem V,h _ (List.getElem_mem V)⟩
 have z:big 41 0:=NK (by decide);suffices big 41 (mY Q n).1∧big 41 (mY Q n).2 from⟨U9 this.1,U9 this.2⟩
 unfold mY;by_cases Z:Q=[]
 ·rw[if_pos Z];exact⟨z,z⟩
 ·have O:0<Q.length:=List.length_pos_iff.2 Z
  rw[if_neg Z];by_cases U:n=0
  ·rw[if_pos U]
   obtain⟨q,N,D,M⟩:=get 0 O;rw[oS N];exact⟨M.mono (by decide),z⟩
  ·rw[if_neg U]
   obtain⟨m,rfl⟩:∃m,n=m+1:=⟨n-1,by omega⟩
   obtain⟨a,L,S,X⟩:=get m (by omega);rw[show m+1-1=m by omega,oS L];by_cases R:m+1=Q.length
   ·rw[if_pos R];exact⟨X.mono (by decide),z⟩
   ·rw[if_neg R]
    obtain⟨b,K,G,F⟩:=get (m+1) (by omega);rw[oS K];unfold KV;have d3:=MM (qV F X) (qV G S);have d4:=Bk d3 (S.mono (by omega));have d5:=qV (X.mono (by omega)) d4;exact⟨d5.mono (by decide),d3.mono (by decide)⟩
section
variable {pv tv kn:AV}{M:Mem}
end
end Go.Proofs
namespace Go.Proofs
open Go.Eng
open Tryz
def sgB(H:Bool):Rat:=if H then -1 else 1
theorem FM{a b:Rat}:0≤pU a b↔b≤a:=by
 have h:=VH (a:=a) (b:=b);constructor
 ·intro X
  exact Rat.not_lt.1 fun Z=>by have:=h.2 Z;omega
 ·intro X
  have:¬pU a b<0:=fun Z=>absurd (h.1 Z) (Rat.not_lt.2 X)
  omega
def pr(n:V3)(o:Rat)(p:V3):Int:=if o≤dj n p then 1 else 0
theorem xZ(a b:Nat)(nm:List UInt8)(n:V3)(o:Rat)(v:V3)(p:V3)(d:kM n p)(H:dc (dj n p))(I:dc o):
  kO prog 111 [.agg [.slice 0 0 a none,.slice 1 0 b none],.agg ((dK nm n o v).cells .qF .qF .qF .qF),vA p] [.qK,.qK] (.tuple [.int .i64 (pr n o p),.int .i64 0]) [.qK,.qK]:=by
 have M:aT prog 111=some f111:=by kernel_rfl
 obtain⟨Z,X⟩:=H;obtain⟨S,L⟩:=I;obtain⟨C,O⟩:∃S,aJ f111=[S]:=⟨_,rfl⟩
 obtain⟨U,K⟩:=de O (l:=[0,1,3,7,0,31,0,64,192,448,1023,2047]) (j:=11) (by kernel_rfl) (by decide);simp[aJ,bR,f111] at O;subst O;unfold pr;obtain⟨G,F,D⟩:=n;obtain⟨N,V⟩:=xE (dj (G,F,D) p);rw[←V] at Z X ⊢;have h:aa (aV prog) (fun _=>[]) (aT prog) (ag bt) 1 111 [.agg [.slice 0 0 a none,.slice 1 0 b none],.agg ((dK nm (G,F,D) o v).cells .qF .qF .qF .qF),vA p] [.qK,.qK]=some ⟨.tuple [.int .i64 (if o≤N then 1 else 0),.int .i64 0],none,[]⟩:=by
  by_cases R:o≤N
  ·have c:=FM.2 R
   rw[if_pos R];simp[aa,M,f111,ag,bt,aE,aH,vA,dK,Evc.cells,uJ,ar,←V,d,Z,X,S,L,c,-aK,ao U,br,bk,bl,K,Nat.testBit]
  ·have c:¬0≤pU N o:=fun h=>R (FM.1 h)
   rw[if_neg R];simp[aa,M,f111,ag,bt,aE,aH,vA,dK,Evc.cells,uJ,ar,←V,d,Z,X,S,L,c,-aK,ao U,br,bk,bl,K,Nat.testBit]
 have:=(aq ai (aO _) dm (aR _) h).1;simpa [aee.mem] using this
variable{M:Mem}
theorem Am{pb tb a b:Nat}(H:pb<M.length)(W:tb<M.length)(nm:List UInt8)(n:V3)(o:Rat)(v:V3)(p:V3)(d:kM n p)(I:dc (dj n p))(J:dc o):
  kO prog 111 [.agg [.slice pb 0 a none,.slice tb 0 b none],.agg ((dK nm n o v).cells .qF .qF .qF .qF),vA p] M (.tuple [.int .i64 (pr n o p),.int .i64 0]) M:=by
 by_cases X:pb=tb
 ·subst X
  have:=kO.frame (M:=M) (new:=[]) [pb,pb] rfl (by simpa using H) (by rfl) (fun i t Z=>by
   match i with
   |0=>simp at Z;subst Z;trivial
   |1=>simp at Z;subst Z;trivial
   |i+2=>simp at Z) rfl (xZ a b nm n o v p d I J)
  simpa [dK,Evc.cells,vA,AV.aez,AV.ren,fq] using this
 ·have:=kO.frame (M:=M) (new:=[]) [pb,tb] rfl (by simp[H,W]) (by rfl) (fun i t Z=>by
   match i with
   |0=>simp at Z;subst Z;trivial
   |1=>simp at Z;subst Z;trivial
   |i+2=>simp at Z) rfl (xZ a b nm n o v p d I J)
  simpa [dK,Evc.cells,vA,AV.aez,AV.ren,fq] using this
variable{ev:List AV}{p:V3}
theorem jA{m:AV}(H:∃a b,m=.agg [a,b]∧a.aei=true∧b.aei=true)(I:ev.length=32)(J:∀x∈ev,x.aei=true)(hc:∀Z,kO prog 25 [m,.agg ev] (M++Z) (.int .i64 0) (M++Z))(W:vC p):
  kO prog 57 [m,.agg ev,vA p] M (.int .i64 0) M:=by
 have V:aT prog 57=some f57:=by kernel_rfl
 obtain⟨a,b,rfl,O,L⟩:=H;obtain⟨U,S,h3,R⟩:=W;have X:qS prog (y9.or (cX 25 [.agg [a,b],.agg ev] (.int .i64 0) (fun N=>∃Z,N=M++Z)) (ag bt)):=qS.or (dO fun N ⟨Z,hZ⟩=>by subst hZ;exact hc Z) dm;have h:aa (aV prog) (fun _=>[]) (aT prog) (y9.or (cX 25 [.agg [a,b],.agg ev] (.int .i64 0) (fun N=>∃Z,N=M++Z)) (ag bt)) 1 57 [.agg [a,b],.agg ev,vA p] M=some ⟨.int .i64 0,none,[]⟩:=by
  clear X hc;have K:(∀x:AV,x∈ev→x.aei=true)=True:=eq_true J;have t32:List.take 32 ev=ev:=List.take_of_length_le (by omega);have G:∀s,(AV.str s).aei=true:=fun _=>rfl
  simp[-AV.aei,aa,V,f57,y9.or,cX,ag,bt,vA,I,t32,U,S,h3,R]
 have:=(aq ai (aO _) X (aR _) h).1;simpa [aee.mem] using this
def ru(n:V3)(o:Rat)(v:V3)(H:Bool)(p:V3):V3:=if o≤dj n p then pT p (Dp v (sgB H)) else p
def Kp(n:V3)(K:List P2)(v:V3)(H:Bool)(p:V3):V3:=pT p (Dp v (sgB H*rU K (dj n p)))
structure age (n:V3)(o:Rat)(v:V3)(bck:Bool)(p:V3):Prop where
 pk:vC p
 dk:kM n p
 fd:dc (dj n p)
 fo:dc o
 pl:KD p v (sgB bck)
 rk:vC (pT p (Dp v (sgB bck)))
theorem afr:aT prog 59=some f59:=by kernel_rfl
theorem wN{pb tb a b:Nat}(I:pb<M.length)(J:tb<M.length)(nm:List UInt8)(n:V3)(o:Rat)(v:V3)(H:Bool)(p:V3)(h:age n o v H p)(hc:∀Z,kO prog 25 [.agg [.slice pb 0 a none,.slice tb 0 b none],.agg ((dK nm n o v).cells .qF .qF .qF .qF)] (M++Z) (.int .i64 0) (M++Z)):
  kO prog 59 [.agg [.slice pb 0 a none,.slice tb 0 b none],.agg ((dK nm n o v).cells .qF .qF .qF .qF),vA p,.str (sgT H)] M (.tuple [vA (ru n o v H p),.int .i64 0]) M:=by
 obtain⟨C,B,A,u,pl,m⟩:=h;have X:qS prog (y9.or (cX 57 [.agg [.slice pb 0 a none,.slice tb 0 b none],.agg ((dK nm n o v).cells .qF .qF .qF .qF),vA p] (.int .i64 0) (fun N=>∃Z,N=M++Z)) (y9.or (cX 111 [.agg [.slice pb 0 a none,.slice tb 0 b none],.agg ((dK nm n o v).cells .qF .qF .qF .qF),vA p] (.tuple [.int .i64 (pr n o p),.int .i64 0]) (fun N=>∃Z,N=M++Z)) (y9.or (ag (dx [(112,[vA (pT p (Dp v (sgB H)))],.tuple [vA (pT p (Dp v (sgB H))),.int .i64 0])])) (ag bt)))):=
  qS.or (dO fun N ⟨Z,hZ⟩=>by subst hZ;exact jA ⟨_,_,rfl,rfl,rfl⟩ rfl (by simp[dK,Evc.cells]) (fun Y =>by rw[List.append_assoc];exact hc _) C)
  (qS.or (dO fun N ⟨Z,hZ⟩=>by subst hZ;exact Am (by rw[List.length_append];omega) (by rw[List.length_append];omega) nm n o v p B A u)
  (qS.or (eG fun e G M=>by rw[List.mem_singleton] at G;rw[G];exact ya m M) dm))
 have U:ek [49]=some 1:=rfl;have S:ek [45,49]=some (-1):=rfl;have L:ru n o v H p=if pr n o p=1 then pT p (Dp v (sgB H)) else p:=by unfold ru pr;split<;>simp
 rw[L];have R:pr n o p=0∨pr n o p=1:=by unfold pr;split<;>simp
 obtain⟨F,j⟩:=xE (pr n o p);rw[←j] at X R ⊢;obtain⟨k,V⟩:=xE (sgB H);rw[←V] at X pl ⊢;obtain⟨q,K⟩:=xE (pT p (Dp v k));rw[←K] at X ⊢;obtain⟨O,D⟩:=xE (y9.or (cX 57 [.agg [.slice pb 0 a none,.slice tb 0 b none],.agg ((dK nm n o v).cells .qF .qF .qF .qF),vA p] (.int .i64 0) (fun N=>∃Z,N=M++Z)) (y9.or (cX 111 [.agg [.slice pb 0 a none,.slice tb 0 b none],.agg ((dK nm n o v).cells .qF .qF .qF .qF),vA p] (.tuple [.int .i64 F,.int .i64 0]) (fun N=>∃Z,N=M++Z)) (y9.or (ag (dx [(112,[vA q],.tuple [vA q,.int .i64 0])])) (ag bt))));rw[←D] at X;unfold sgB at V;have h:aa (aV prog) (fun _=>[]) (aT prog) O 1 59 [.agg [.slice pb 0 a none,.slice tb 0 b none],.agg ((dK nm n o v).cells .qF .qF .qF .qF),vA p,.str (sgT H)] M=some ⟨.tuple [vA (if F=1 then q else p),.int .i64 0],none,[]⟩:=by
  clear X hc;subst D;rcases R with rfl | rfl
  ·rw[if_neg (by decide)]
   cases H<;>simp[aa,afr,f59,y9.or,cX,dx,vA,dK,Evc.cells,sgT]
  ·rw[if_pos rfl]
   cases H with
   |false=>
    rw[if_neg (by decide)] at V;rw[←V] at U;simp[aa,afr,f59,y9.or,cX,dx,ag,bt,vA,dK,Evc.cells,sgT,uJ,←K,U,pl]
   |true=>
    rw[if_pos rfl] at V;rw[←V] at S;simp[aa,afr,f59,y9.or,cX,dx,ag,bt,vA,dK,Evc.cells,sgT,uJ,←K,S,pl]
 have:=(aq ai (aO _) X (aR _) h).1;simpa [aee.mem] using this
theorem mG{m:AV}(c:Evc)(hk:c.k=1∨c.k=4)(b u w H:AV)(Y:b.aei=true)(hu:u.aei=true)(hs:w.aei=true)(hn:H.aei=true)(J:∃a b,m=.agg [a,b]∧a.aei=true∧b.aei=true)(I:Bool)(p:V3)(W:vC p)(hc:∀Z,kO prog 25 [m,.agg (c.cells b u w H)] (M++Z) (.int .i64 0) (M++Z)):
  kO prog 59 [m,.agg (c.cells b u w H),vA p,.str (sgT I)] M (.tuple [vA p,.int .i64 0]) M:=by
 obtain⟨x,y,rfl,U,S⟩:=J;have X:qS prog (cX 57 [.agg [x,y],.agg (c.cells b u w H),vA p] (.int .i64 0) (fun N=>∃Z,N=M++Z)):=dO fun N ⟨Z,hZ⟩=>by subst hZ;refine jA ⟨_,_,rfl,U,S⟩ rfl (fun e V=>?_) (fun L =>by rw[List.append_assoc];exact hc _) W;simp only[Evc.cells,lM] at V;rcases V with rfl | rfl | rfl | rfl | rfl | rfl | rfl | rfl | rfl | rfl | rfl | rfl | rfl | rfl | rfl | rfl | rfl | rfl | rfl | rfl | rfl | rfl | rfl | rfl | rfl | rfl | rfl | rfl | rfl | rfl | rfl | rfl<;>first | rfl | assumption
 have h:aa (aV prog) (fun _=>[]) (aT prog) (cX 57 [.agg [x,y],.agg (c.cells b u w H),vA p] (.int .i64 0) (fun N=>∃Z,N=M++Z)) 1 59 [.agg [x,y],.agg (c.cells b u w H),vA p,.str (sgT I)] M=some ⟨.tuple [vA p,.int .i64 0],none,[]⟩:=by
  clear X hc;have R:∀s,(AV.str s).aei=true:=fun _=>rfl
  have O:∀k n,(AV.int k n).aei=true:=fun _ _=>rfl
  rcases hk with hk | hk<;>simp[-AV.aei,R,aa,afr,f59,cX,Evc.cells,vA,hk]
 have:=(aq ai (aO _) X (aR _) h).1;simpa [aee.mem] using this
theorem yX{pb tb a b:Nat}(nm:List UInt8){t:I4}{c:V3}(I:tLe 20 t)(hz:¬xY t)(J:vDg 2 c)(H:Bool)(p:V3)(W:vC p)(h2:afK (wJ (nr t H)) (Ov c (mF (wJ (nr t H)) c)) p)(hc:∀Z,kO prog 25 [.agg [.slice pb 0 a none,.slice tb 0 b none],.agg ((gO nm t c).cells .qF .qF .qF .qF)] (M++Z) (.int .i64 0) (M++Z)):
  kO prog 59 [.agg [.slice pb 0 a none,.slice tb 0 b none],.agg ((gO nm t c).cells .qF .qF .qF .qF),vA p,.str (sgT H)] M (.tuple [vA (pT (mF (wJ (nr t H)) p) (Ov c (mF (wJ (nr t H)) c))),.int .i64 0]) M:=by
 have hT:=fun M=>LN nm I hz J H M
 have X:=fun M=>Gr h2 M
 obtain⟨r,V⟩:=xE (wJ (nr t H));rw[←V] at hT X ⊢;obtain⟨s,U⟩:=xE (Ov c (mF r c));rw[←U] at hT X ⊢;obtain⟨q,S⟩:=xE (pT (mF r p) s);rw[←S] at X ⊢;clear h2 V U S;have R:qS prog (y9.or (cX 57 [.agg [.slice pb 0 a none,.slice tb 0 b none],.agg ((gO nm t c).cells .qF .qF .qF .qF),vA p] (.int .i64 0) (fun N=>∃Z,N=M++Z)) (ag (dx [(83,[.agg ((gO nm t c).cells .qF .qF .qF .qF),.str (sgT H)],.tuple [afA r s,.int .i64 0]),(114,[afA r s,vA p],.tuple [vA q,.int .i64 0])]))):=
  qS.or (dO fun N ⟨Z,hZ⟩=>by subst hZ;exact jA ⟨_,_,rfl,rfl,rfl⟩ rfl (by simp[gO,Evc.cells]) (fun L =>by rw[List.append_assoc];exact hc _) W)
  (eG fun e O M=>by
   simp only[lM] at O;rcases O with rfl | rfl
   ·exact hT M
   ·exact X M)
 have h:aa (aV prog) (fun _=>[]) (aT prog) (y9.or (cX 57 [.agg [.slice pb 0 a none,.slice tb 0 b none],.agg ((gO nm t c).cells .qF .qF .qF .qF),vA p] (.int .i64 0) (fun N=>∃Z,N=M++Z)) (ag (dx [(83,[.agg ((gO nm t c).cells .qF .qF .qF .qF),.str (sgT H)],.tuple [afA r s,.int .i64 0]),(114,[afA r s,vA p],.tuple [vA q,.int .i64 0])]))) 1 59 [.agg [.slice pb 0 a none,.slice tb 0 b none],.agg ((gO nm t c).cells .qF .qF .qF .qF),vA p,.str (sgT H)] M=some ⟨.tuple [vA q,.int .i64 0],none,[]⟩:=by clear R hc hT X;simp[aa,afr,f59,y9.or,cX,dx,ag,vA,gO,Evc.cells,afA,mC,vL]
 have:=(aq ai (aO _) R (aR _) h).1;simpa [aee.mem] using this
structure afL (n:V3)(L:List P2)(v:V3)(bck:Bool)(p:V3):Prop where
 pk:vC p
 dk:kM n p
 lk:Kj L
 vk:big 40 (dj n p)
 fw:dc (rU L (dj n p))
 fk:dc (sgB bck)
 pl:KD p v (sgB bck*rU L (dj n p))
 rk:vC (pT p (Dp v (sgB bck*rU L (dj n p))))
def fdM(s:aeo)(L:List P2):Mem:=[.cells false 2 (pC s.P),.cells false 3 (tC s.T),.cells false 2 (kC (kT L))]
theorem wO(s:aeo)(nm:List UInt8)(n:V3)(L:List P2)(v:V3)(H:Bool)(p:V3)(h:afL n L v H p)(hp:0<L.length)(hl:L.length≤1000)(hc:jn s (dn nm n L v)):
  kO prog 59 [.agg [.slice 0 0 s.P.length none,.slice 1 0 s.T.length none],.agg ((dn nm n L v).cells .qF .qF .qF (.slice 2 0 L.length none)),vA p,.str (sgT H)] (fdM s L) (.tuple [vA (Kp n L v H p),.int .i64 0]) (fdM s L):=by
 obtain⟨pk,J,lk,vk,⟨w1,w2⟩,⟨K,G⟩,pl,rk⟩:=h;have I:∀Z,ae9 (fdM s L++Z) ((dn nm n L v).cells .qF .qF .qF (.slice 2 0 L.length none)) (dn nm n L v):=fun Z=>
  ⟨.qF,.qF,.qF,_,rfl,.inl ⟨rfl,rfl,rfl⟩,.inl ⟨rfl,rfl,rfl⟩,⟨[],rfl,.inl ⟨rfl,rfl,rfl⟩,fun i x L h=>by simp at h⟩,.inr ⟨2,false,by show AV.slice 2 0 L.length none=.slice 2 0 (kT L).length none;rw[eh],by show 0<(kT L).length;rw[eh];exact hp,rfl⟩⟩
 have X:qS prog (y9.or (cX 57 [.agg [.slice 0 0 s.P.length none,.slice 1 0 s.T.length none],.agg ((dn nm n L v).cells .qF .qF .qF (.slice 2 0 L.length none)),vA p] (.int .i64 0) (fun N=>∃Z,N=fdM s L++Z)) (y9.or (cX 87 [.slice 2 0 L.length none,.str (aj (dj n p))] (.str (aj (rU L (dj n p)))) (fun N=>∃Z,N=fdM s L++Z)) (y9.or (ag (dx [(112,[vA (pT p (Dp v (sgB H*rU L (dj n p))))],.tuple [vA (pT p (Dp v (sgB H*rU L (dj n p)))),.int .i64 0])])) (ag bt)))):=
  qS.or (dO fun N ⟨Z,hZ⟩=>by subst hZ;refine jA ⟨_,_,rfl,rfl,rfl⟩ rfl (by simp[dn,Evc.cells]) (fun Z' =>?_) pk;rw[List.append_assoc];exact hc (fdM s L++(Z++Z')) 0 1 false false _ rfl rfl (I _))
  (qS.or (dO fun N ⟨Z,hZ⟩=>by subst hZ;exact Em L _ lk vk _ _ (SU (cs:=kC (kT L)) rfl (by rw[gp,eh];omega) (List.take_of_length_le (by rw[gp,eh];omega))))
  (qS.or (eG fun e he M=>by rw[List.mem_singleton] at he;rw[he];exact ya rk M) dm))
 obtain⟨os,F⟩:∃os,aJ f59=os:=⟨_,rfl⟩
 have UV:=cc F (ls:=[[0,1,3,0,8,24,0,120,255,511],[0,0,2,6,0,0,48,127,255,511,511,2047,4095]]) (by kernel_rfl);simp only[aJ,bR,f59,lA] at F;subst F;simp only[lB] at UV;obtain⟨XN,U⟩:=UV;have j0:fc [0,1,3,0,8,24,0,120,255,511] 9=true:=by decide
 have S:ek [49]=some 1:=rfl;have R:ek [45,49]=some (-1):=rfl;unfold Kp;obtain⟨u,D⟩:=xE (dj n p);rw[←D] at w1 w2 pl X ⊢;obtain⟨x,hx⟩:=xE (rU L u);rw[←hx] at w1 w2 pl X ⊢;obtain⟨k,V⟩:=xE (sgB H);rw[←V] at K G pl X ⊢;obtain⟨y,C⟩:=xE (k*x);rw[←C] at pl X ⊢;obtain⟨q,B⟩:=xE (pT p (Dp v y));rw[←B] at X ⊢;unfold fdM at X ⊢;obtain⟨A,o⟩:=xE (pC s.P);obtain⟨m,j⟩:=xE (tC s.T);obtain⟨Y,W⟩:=xE (kC (kT L));have e1:=fun n=>uF n s.P
 have e2:=fun f=>Ob f s.P
 have e3:=fun n=>rQ n s.T
 have e4:=fun f=>Ee f s.T
 have e5:=fun n=>xG n (kT L)
 have e6:=fun f=>R5 f (kT L)
 rw[←o] at X e1 e2 ⊢;rw[←j] at X e3 e4 ⊢;rw[←W] at X e5 e6 ⊢;simp only[List.cons_append,List.nil_append] at X;unfold sgB at V;obtain⟨O,Zx⟩:=xE (y9.or (cX 57 [.agg [.slice 0 0 s.P.length none,.slice 1 0 s.T.length none],.agg ((dn nm n L v).cells .qF .qF .qF (.slice 2 0 L.length none)),vA p] (.int .i64 0) (fun N=>∃Z,N=aek.cells false 2 A::aek.cells false 3 m::aek.cells false 2 Y::Z)) (y9.or (cX 87 [.slice 2 0 L.length none,.str (aj u)] (.str (aj x)) (fun N=>∃Z,N=aek.cells false 2 A::aek.cells false 3 m::aek.cells false 2 Y::Z)) (y9.or (ag (dx [(112,[vA q],.tuple [vA q,.int .i64 0])])) (ag bt))));rw[←Zx] at X;have h:aa (aV prog) (fun _=>[]) (aT prog) O 1 59 [.agg [.slice 0 0 s.P.length none,.slice 1 0 s.T.length none],.agg ((dn nm n L v).cells .qF .qF .qF (.slice 2 0 L.length none)),vA p,.str (sgT H)] [.cells false 2 A,.cells false 3 m,.cells false 2 Y]=some ⟨.tuple [vA q,.int .i64 0],none,[]⟩:=by
  clear X hc I;subst Zx;cases H with
  |false=>
   rw[if_neg (by decide)] at V;rw[←V] at S;simp[aa,afr,f59,y9.or,cX,dx,ag,bt,aE,aH,vA,dn,Evc.cells,sgT,uJ,ar,←D,←C,←B,S,J,w1,w2,K,G,pl,-aK,ao XN,br,bk,bl,j0,bd U,bZ,ff,ef,cw,cM,gQ,bef,Nat.testBit]
  |true=>
   rw[if_pos rfl] at V;rw[←V] at R;simp[aa,afr,f59,y9.or,cX,dx,ag,bt,aE,aH,vA,dn,Evc.cells,sgT,uJ,ar,←D,←C,←B,R,J,w1,w2,K,G,pl,-aK,ao XN,br,bk,bl,j0,bd U,bZ,ff,ef,cw,cM,gQ,bef,Nat.testBit]
 have:=(aq ai (aO _) X (aR _) h).1;simpa [aee.mem] using this
theorem yW{pb tb b:Nat}{o1 o2 o3:Bool}(s:aeo)(nm:List UInt8)(n:V3)(L:List P2)(v:V3)(H:Bool)(p:V3)(h:afL n L v H p)(W:0<L.length)(Y:L.length≤1000)(hc:jn s (dn nm n L v))(I:M[pb]? =some (.cells o1 2 (pC s.P)))(m2:M[tb]? =some (.cells o2 3 (tC s.T)))(J:M[b]? =some (.cells o3 2 (kC (kT L)))):
  kO prog 59 [.agg [.slice pb 0 s.P.length none,.slice tb 0 s.T.length none],.agg ((dn nm n L v).cells .qF .qF .qF (.slice b 0 L.length none)),vA p,.str (sgT H)] M (.tuple [vA (Kp n L v H p),.int .i64 0]) M:=by
 have X:=gL I;have V:=gL m2;have U:=gL J;have:=kO.frame (M:=M) (new:=[]) [pb,tb,b] rfl (by simp[X,V,U]) (by rfl) (fun i t Z=>by
  match i with
  |0=>simp[fdM] at Z;subst Z;exact Xn (ei _) I (List.take_of_length_le (Nat.le_refl _))
  |1=>simp[fdM] at Z;subst Z;exact Xn (fR _) m2 (List.take_of_length_le (Nat.le_refl _))
  |2=>simp[fdM] at Z;subst Z;exact KO (o:=o3) J (List.take_of_length_le (by rw[gp];rw[eh];omega))
  |i+3=>simp[fdM] at Z) rfl (wO s nm n L v H p h W Y hc)
 simpa [dn,Evc.cells,vA,AV.aez,AV.ren,fq] using this
theorem Lm{m:AV}{q:V3}(J:∃a b,m=.agg [a,b]∧a.aei=true∧b.aei=true)(I:ev.length=32)(W:∀x∈ev,x.aei=true)(H:Bool)(h:∀Z,kO prog 59 [m,.agg ev,vA p,.str (sgT H)] (M++Z) (.tuple [vA q,.int .i64 0]) (M++Z)):
  kO prog (if H then 21 else 20) [m,.agg ev,vA p] M (.tuple [vA q,.int .i64 0]) M:=by
 obtain⟨a,b,rfl,S,R⟩:=J;have O:(∀x:AV,x∈ev→x.aei=true)=True:=eq_true W;have t32:List.take 32 ev=ev:=List.take_of_length_le (by omega);have U:∀s,(AV.str s).aei=true:=fun _=>rfl
 have X:qS prog (cX 59 [.agg [a,b],.agg ev,vA p,.str (sgT H)] (.tuple [vA q,.int .i64 0]) (fun N=>∃Z,N=M++Z)):=dO fun N ⟨Z,hZ⟩=>by subst hZ;exact h Z
 clear h;cases H with
 |true=>
  have V:aT prog 21=some f21:=by kernel_rfl
  have h:aa (aV prog) (fun _=>[]) (aT prog) (cX 59 [.agg [a,b],.agg ev,vA p,.str (sgT true)] (.tuple [vA q,.int .i64 0]) (fun N=>∃Z,N=M++Z)) 1 21 [.agg [a,b],.agg ev,vA p] M=some ⟨.tuple [vA q,.int .i64 0],none,[]⟩:=by clear X;simp[-AV.aei,U,aa,V,f21,cX,vA,sgT,I,t32]
  have:=(aq ai (aO _) X (aR _) h).1;simpa [aee.mem] using this
 |false=>
  have V:aT prog 20=some f20:=by kernel_rfl
  have h:aa (aV prog) (fun _=>[]) (aT prog) (cX 59 [.agg [a,b],.agg ev,vA p,.str (sgT false)] (.tuple [vA q,.int .i64 0]) (fun N=>∃Z,N=M++Z)) 1 20 [.agg [a,b],.agg ev,vA p] M=some ⟨.tuple [vA q,.int .i64 0],none,[]⟩:=by clear X;simp[-AV.aei,U,aa,V,f20,cX,vA,sgT,I,t32]
  have:=(aq ai (aO _) X (aR _) h).1;simpa [aee.mem] using this
end Go.Proofs
