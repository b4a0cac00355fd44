/- See B54. -/
import Derived.Test.YtffdedmakncfmaaGreatDoorB45
set_option linter.all false
set_option maxRecDepth 100000
set_option maxHeartbeats 40000000
namespace Go.Proofs
open Go.Eng
open Tryz
section
variable {pv tv:AV}{M:Mem}
end
def sgT(y:Bool):List UInt8:=if y then [45,49] else [49]
variable{n:Nat}{t:I4}
theorem wM(h:tLe n t)(y:Bool):tLe n (km t y):=by
 cases y
 ·exact h
 ·obtain⟨Z,X,h3,V⟩:=h
  exact⟨Z,by show(-t.2.1).natAbs≤n;omega,by show(-t.2.2.1).natAbs≤n;omega,by show(-t.2.2.2).natAbs≤n;omega⟩
theorem wN(h:¬yw t)(y:Bool):¬yw (km t y):=by
 cases y
 ·exact h
 ·rintro ⟨Z,X,h3,V⟩
  have Z:t.1=0:=Z;have X: -t.2.1=0:=X;have h3: -t.2.2.1=0:=h3;have V: -t.2.2.2=0:=V;exact h ⟨Z,by omega,by omega,by omega⟩
theorem TA(h:tLe 20 t)(hz:¬yw t):vDg 4 (zb t).1∧vDg 4 (zb t).2.1∧vDg 4 (zb t).2.2:=by
 have U:=GW hz;obtain⟨w,x,y,z⟩:=t;obtain⟨Z,X,h3,V⟩:=h;simp only at Z X h3 V U;obtain⟨lA,R⟩:=eS Z Z;obtain⟨lB,Q⟩:=eS X X;obtain⟨O,N⟩:=eS h3 h3;obtain⟨M,L⟩:=eS V V;obtain⟨K,u⟩:=eS X h3;obtain⟨o,m⟩:=eS Z V;obtain⟨j,Y⟩:=eS X V;obtain⟨W,nH⟩:=eS Z h3;obtain⟨lI,nI⟩:=eS h3 V;obtain⟨lJ,nJ⟩:=eS Z X;unfold zb Rv;simp only;generalize w*w=A at*;generalize x*x=B at*;generalize y*y=C at*;generalize z*z=D at*;generalize x*y=E at*;generalize w*z=F at*;generalize x*z=G at*;generalize w*y=H at*;generalize y*z=I at*;generalize w*x=J at*;clear Z X h3 V;have S:(A+B+C+D).toNat≠0∧(A+B+C+D).toNat<10 ^ 4:=by omega
 have k:∀n:Int,-1600≤n→n≤1600→dg 4 4 (mkRat n (A+B+C+D).toNat):=fun n Z X=>sw S.1 (by omega) S.2
 exact⟨⟨k _ (by omega) (by omega),k _ (by omega) (by omega),k _ (by omega) (by omega)⟩,⟨k _ (by omega) (by omega),k _ (by omega) (by omega),k _ (by omega) (by omega)⟩,⟨k _ (by omega) (by omega),k _ (by omega) (by omega),k _ (by omega) (by omega)⟩⟩
variable{a b:V3}{m:Nat}
theorem G6(y:vDg n a)(H:vDg m b):dg (5*(n+m)+10) (5*(n+m)+10) (gG a b):=by obtain⟨Z,X,V⟩:=y;obtain⟨U,S,R⟩:=H;have Q:=il Z U;have P2:=il X S;have O:=il V R;have N:=nd Q P2 (m:=2*(n+m)) (by omega) (by omega);have M:=nd N O (m:=3*(n+m)+2) (by omega) (by omega);exact M.mono (by omega) (by omega)
theorem GJ{r:M3}{v:V3}(h:vDg n r.1∧vDg n r.2.1∧vDg n r.2.2)(y:vDg m v):vDg (5*(n+m)+10) (nK r v):=⟨G6 h.1 y,G6 h.2.1 y,G6 h.2.2 y⟩
theorem Ou(y:vDg n a)(H:vDg m b):vDg (n+m+2) (AQ a b):=by
 have f:∀{p q:Rat},dg n n p→dg m m q→dg (n+m+2) (n+m+2) (p-q):=fun h k=>(KN h k (m:=n+m) (by omega) (by omega)).mono (by omega) (by omega)
 exact⟨f y.1 H.1,f y.2.1 H.2.1,f y.2.2 H.2.2⟩
theorem WG(y:vDg n a)(H:vDg m b):vDg (n+m+2) (mH a b):=by
 have f:∀{p q:Rat},dg n n p→dg m m q→dg (n+m+2) (n+m+2) (p+q):=fun h k=>(nd h k (m:=n+m) (by omega) (by omega)).mono (by omega) (by omega)
 exact⟨f y.1 H.1,f y.2.1 H.2.1,f y.2.2 H.2.2⟩
variable{c:V3}
theorem UQ(h:tLe 20 t)(hz:¬yw t)(hc:vDg 2 c):agC (zb t) c:=by have r:=TA h hz;have Z:=GJ r hc;exact⟨wS (hc.mono (by omega)),⟨mj r.1 (hc.mono (by omega)) (by omega) (by omega),mj r.2.1 (hc.mono (by omega)) (by omega) (by omega),mj r.2.2 (hc.mono (by omega)) (by omega) (by omega)⟩,⟨L4 hc (by omega) (by omega),L4 Z (by omega) (by omega)⟩,wS ((Ou hc Z).mono (by omega))⟩
theorem MO(nm:List UInt8)(H:tLe 20 t)(hz:¬yw t)(hc:vDg 2 c)(y:Bool)(M:Mem):
  kO prog 48 [.agg ((gf nm t c).cells .qF .qF .qF .qF),.str (sgT y)] M (.tuple [afA (zb (km t y)) (AQ c (nK (zb (km t y)) c)),.int .i64 0]) M:=by
 have R:aT prog 48=some f48:=by kernel_rfl
 have Z:=fun M=>Mc (km t y) (zb (km t y)) (fun M=>vn (wM H y) (wN hz y) M) (fun M=>MH (wM H y) (wN hz y) M) c (UQ (wM H y) (wN hz y) hc) M
 obtain⟨r,X⟩:=xE (zb (km t y));rw[←X] at Z ⊢;obtain⟨s,V⟩:=xE (AQ c (nK r c));rw[←V] at Z ⊢;clear X V hz;obtain⟨t1,t2,t3,t4⟩:=t;obtain⟨Q,O,N,L⟩:=H;simp only at Q O N L;have U:qS prog (af (cU [(94,[tA (km (t1,t2,t3,t4) y),vA c],.tuple [afA r s,.int .i64 0])])):=dK fun e S M=>by rw[List.mem_singleton] at S;rw[S];exact Z M
 refine ao U ?_ M;clear U Z;have K:IntKind.i64.wrap (-t2)= -t2:=by rw[ae]
 have G:IntKind.i64.wrap (-t3)= -t3:=by rw[ae]
 have F:IntKind.i64.wrap (-t4)= -t4:=by rw[ae]
 cases y<;>simp[aa,R,f48,cU,af,gf,Evc.cells,sgT,tA,km,afA,mC,vL,vA,K,G,F]
end Go.Proofs
namespace Go.Proofs
open Go.Eng
theorem VG{k:Nat}{q:Rat}(h:big k q):dg k k q:=h
theorem Vc{Q:List (Rat×Rat)}{n:Nat}(h:VF 2 Q)(y:n≤Q.length):dg 41 41 (jl Q n).1∧dg 41 41 (jl Q n).2:=by
 have get:∀i,i<Q.length→∃q,Q[i]? =some q∧big 2 q.1∧big 2 q.2:=fun i V=>⟨Q[i],List.getElem?_eq_getElem V,h _ (List.getElem_mem V)⟩
 have z:big 41 0:=OE (by decide);suffices big 41 (jl Q n).1∧big 41 (jl Q n).2 from⟨VG this.1,VG this.2⟩
 unfold jl;by_cases Z:Q=[]
 ·rw[if_pos Z];exact⟨z,z⟩
 ·have O:0<Q.length:=List.length_pos_iff.2 Z
  rw[if_neg Z];by_cases U:n=0
  ·rw[if_pos U]
   obtain⟨q,N,D,M⟩:=get 0 O;rw[kZ N];exact⟨M.mono (by decide),z⟩
  ·rw[if_neg U]
   obtain⟨m,rfl⟩:∃m,n=m+1:=⟨n-1,by omega⟩
   obtain⟨a,L,S,X⟩:=get m (by omega);rw[show m+1-1=m by omega,kZ L];by_cases R:m+1=Q.length
   ·rw[if_pos R];exact⟨X.mono (by decide),z⟩
   ·rw[if_neg R]
    obtain⟨b,K,G,F⟩:=get (m+1) (by omega);rw[kZ K];unfold ze;have d3:=Gr (kU F X) (kU G S);have d4:=xN d3 (S.mono (by omega));have d5:=kU (X.mono (by omega)) d4;exact⟨d5.mono (by decide),d3.mono (by decide)⟩
section
variable {pv tv kn:AV}{M:Mem}
end
end Go.Proofs
namespace Go.Proofs
open Go.Eng
open Tryz
def sgB(y:Bool):Rat:=if y then -1 else 1
theorem Sl{a b:Rat}:0≤we a b↔b≤a:=by
 have h:=Wb (a:=a) (b:=b);constructor
 ·intro X
  exact Rat.not_lt.1 fun Z=>by have:=h.2 Z;omega
 ·intro X
  have:¬we a b<0:=fun Z=>absurd (h.1 Z) (Rat.not_lt.2 X)
  omega
def jo(n:V3)(o:Rat)(p:V3):Int:=if o≤gG n p then 1 else 0
theorem yx(a b:Nat)(nm:List UInt8)(n:V3)(o:Rat)(v:V3)(p:V3)(d:wi n p)(y:iK (gG n p))(H:iK o):
  kO prog 73 [.agg [.slice 0 0 a none,.slice 1 0 b none],.agg ((cB nm n o v).cells .qF .qF .qF .qF),vA p] [.qK,.qK] (.tuple [.int .i64 (jo n o p),.int .i64 0]) [.qK,.qK]:=by
 have N:aT prog 73=some f73:=by kernel_rfl
 obtain⟨Z,X⟩:=y;obtain⟨S,M⟩:=H;obtain⟨D,Q⟩:∃S,aJ f73=[S]:=⟨_,rfl⟩
 obtain⟨U,L⟩:=cD Q (l:=[0,1,3,7,0,31,0,64,192,448,1023,2047]) (j:=11) (by kernel_rfl) (by decide);simp[aJ,bU,f73] at Q;subst Q;unfold jo;obtain⟨K,G,F⟩:=n;obtain⟨O,V⟩:=xE (gG (K,G,F) p);rw[←V] at Z X ⊢;have h:aa (ba prog) (fun _=>[]) (aT prog) (af cr) 1 73 [.agg [.slice 0 0 a none,.slice 1 0 b none],.agg ((cB nm (K,G,F) o v).cells .qF .qF .qF .qF),vA p] [.qK,.qK]=some ⟨.tuple [.int .i64 (if o≤O then 1 else 0),.int .i64 0],none,[]⟩:=by
  by_cases R:o≤O
  ·have c:=Sl.2 R
   rw[if_pos R];simp[aa,N,f73,af,cr,be,bd,vA,cB,Evc.cells,Da,az,←V,d,Z,X,S,M,c,-aK,aq U,bm,aZ,bl,L,Nat.testBit]
  ·have c:¬0≤we O o:=fun h=>R (Sl.1 h)
   rw[if_neg R];simp[aa,N,f73,af,cr,be,bd,vA,cB,Evc.cells,Da,az,←V,d,Z,X,S,M,c,-aK,aq U,bm,aZ,bl,L,Nat.testBit]
 have:=(ar aj (aI _) eJ (aP _) h).1;simpa [y9.mem] using this
variable{M:Mem}
theorem Me{y H a b:Nat}(I:y<M.length)(Y:H<M.length)(nm:List UInt8)(n:V3)(o:Rat)(v:V3)(p:V3)(d:wi n p)(J:iK (gG n p))(W:iK o):
  kO prog 73 [.agg [.slice y 0 a none,.slice H 0 b none],.agg ((cB nm n o v).cells .qF .qF .qF .qF),vA p] M (.tuple [.int .i64 (jo n o p),.int .i64 0]) M:=by
 by_cases X:y=H
 ·subst X
  have:=kO.frame (M:=M) (new:=[]) [y,y] rfl (by simpa using I) (by rfl) (fun i t Z=>by
   match i with
   |0=>simp at Z;subst Z;trivial
   |1=>simp at Z;subst Z;trivial
   |i+2=>simp at Z) rfl (yx a b nm n o v p d J W)
  simpa [cB,Evc.cells,vA,AV.afp,AV.ren,eL] using this
 ·have:=kO.frame (M:=M) (new:=[]) [y,H] rfl (by simp[I,Y]) (by rfl) (fun i t Z=>by
   match i with
   |0=>simp at Z;subst Z;trivial
   |1=>simp at Z;subst Z;trivial
   |i+2=>simp at Z) rfl (yx a b nm n o v p d J W)
  simpa [cB,Evc.cells,vA,AV.afp,AV.ren,eL] using this
variable{ev:List AV}{p:V3}
theorem lW{m:AV}(y:∃a b,m=.agg [a,b]∧a.ae9=true∧b.ae9=true)(H:ev.length=32)(I:∀x∈ev,x.ae9=true)(hc:∀Z,kO prog 83 [m,.agg ev] (M++Z) (.int .i64 0) (M++Z))(J:vC p):
  kO prog 62 [m,.agg ev,vA p] M (.int .i64 0) M:=by
 have V:aT prog 62=some f62:=by kernel_rfl
 obtain⟨a,b,rfl,Q,O⟩:=y;obtain⟨U,S,h3,R⟩:=J;have X:qS prog (ae3.or (er 83 [.agg [a,b],.agg ev] (.int .i64 0) (fun N=>∃Z,N=M++Z)) (af cr)):=qS.or (fI fun N ⟨Z,hZ⟩=>by subst hZ;exact hc Z) eJ;have h:aa (ba prog) (fun _=>[]) (aT prog) (ae3.or (er 83 [.agg [a,b],.agg ev] (.int .i64 0) (fun N=>∃Z,N=M++Z)) (af cr)) 1 62 [.agg [a,b],.agg ev,vA p] M=some ⟨.int .i64 0,none,[]⟩:=by
  clear X hc;have L:(∀x:AV,x∈ev→x.ae9=true)=True:=eq_true I;have t32:List.take 32 ev=ev:=List.take_of_length_le (by omega);have K:∀s,(AV.str s).ae9=true:=fun _=>rfl
  simp[-AV.ae9,aa,V,f62,ae3.or,er,af,cr,vA,H,t32,U,S,h3,R]
 have:=(ar aj (aI _) X (aP _) h).1;simpa [y9.mem] using this
def Cq(n:V3)(o:Rat)(v:V3)(y:Bool)(p:V3):V3:=if o≤gG n p then mH p (wT v (sgB y)) else p
def Vd(n:V3)(K:List P2)(v:V3)(y:Bool)(p:V3):V3:=mH p (wT v (sgB y*gh K (gG n p)))
structure ag8 (n:V3)(o:Rat)(v:V3)(bck:Bool)(p:V3):Prop where
 pk:vC p
 dk:wi n p
 fd:iK (gG n p)
 fo:iK o
 pl:LB p v (sgB bck)
 rk:vC (mH p (wT v (sgB bck)))
theorem agl:aT prog 34=some f34:=by kernel_rfl
theorem xa{H I a b:Nat}(J:H<M.length)(W:I<M.length)(nm:List UInt8)(n:V3)(o:Rat)(v:V3)(y:Bool)(p:V3)(h:ag8 n o v y p)(hc:∀Z,kO prog 83 [.agg [.slice H 0 a none,.slice I 0 b none],.agg ((cB nm n o v).cells .qF .qF .qF .qF)] (M++Z) (.int .i64 0) (M++Z)):
  kO prog 34 [.agg [.slice H 0 a none,.slice I 0 b none],.agg ((cB nm n o v).cells .qF .qF .qF .qF),vA p,.str (sgT y)] M (.tuple [vA (Cq n o v y p),.int .i64 0]) M:=by
 obtain⟨D,C,B,u,pl,m⟩:=h;have X:qS prog (ae3.or (er 62 [.agg [.slice H 0 a none,.slice I 0 b none],.agg ((cB nm n o v).cells .qF .qF .qF .qF),vA p] (.int .i64 0) (fun N=>∃Z,N=M++Z)) (ae3.or (er 73 [.agg [.slice H 0 a none,.slice I 0 b none],.agg ((cB nm n o v).cells .qF .qF .qF .qF),vA p] (.tuple [.int .i64 (jo n o p),.int .i64 0]) (fun N=>∃Z,N=M++Z)) (ae3.or (af (cU [(74,[vA (mH p (wT v (sgB y)))],.tuple [vA (mH p (wT v (sgB y))),.int .i64 0])])) (af cr)))):=
  qS.or (fI fun N ⟨Z,hZ⟩=>by subst hZ;exact lW ⟨_,_,rfl,rfl,rfl⟩ rfl (by simp[cB,Evc.cells]) (fun Y =>by rw[List.append_assoc];exact hc _) D)
  (qS.or (fI fun N ⟨Z,hZ⟩=>by subst hZ;exact Me (by rw[List.length_append];omega) (by rw[List.length_append];omega) nm n o v p C B u)
  (qS.or (dK fun e K M=>by rw[List.mem_singleton] at K;rw[K];exact yy m M) eJ))
 have U:ef [49]=some 1:=rfl;have S:ef [45,49]=some (-1):=rfl;have Q:Cq n o v y p=if jo n o p=1 then mH p (wT v (sgB y)) else p:=by unfold Cq jo;split<;>simp
 rw[Q];have R:jo n o p=0∨jo n o p=1:=by unfold jo;split<;>simp
 obtain⟨G,j⟩:=xE (jo n o p);rw[←j] at X R ⊢;obtain⟨k,V⟩:=xE (sgB y);rw[←V] at X pl ⊢;obtain⟨q,L⟩:=xE (mH p (wT v k));rw[←L] at X ⊢;obtain⟨O,F⟩:=xE (ae3.or (er 62 [.agg [.slice H 0 a none,.slice I 0 b none],.agg ((cB nm n o v).cells .qF .qF .qF .qF),vA p] (.int .i64 0) (fun N=>∃Z,N=M++Z)) (ae3.or (er 73 [.agg [.slice H 0 a none,.slice I 0 b none],.agg ((cB nm n o v).cells .qF .qF .qF .qF),vA p] (.tuple [.int .i64 G,.int .i64 0]) (fun N=>∃Z,N=M++Z)) (ae3.or (af (cU [(74,[vA q],.tuple [vA q,.int .i64 0])])) (af cr))));rw[←F] at X;unfold sgB at V;have h:aa (ba prog) (fun _=>[]) (aT prog) O 1 34 [.agg [.slice H 0 a none,.slice I 0 b none],.agg ((cB nm n o v).cells .qF .qF .qF .qF),vA p,.str (sgT y)] M=some ⟨.tuple [vA (if G=1 then q else p),.int .i64 0],none,[]⟩:=by
  clear X hc;subst F;rcases R with rfl | rfl
  ·rw[if_neg (by decide)]
   cases y<;>simp[aa,agl,f34,ae3.or,er,cU,vA,cB,Evc.cells,sgT]
  ·rw[if_pos rfl]
   cases y with
   |false=>
    rw[if_neg (by decide)] at V;rw[←V] at U;simp[aa,agl,f34,ae3.or,er,cU,af,cr,vA,cB,Evc.cells,sgT,Da,←L,U,pl]
   |true=>
    rw[if_pos rfl] at V;rw[←V] at S;simp[aa,agl,f34,ae3.or,er,cU,af,cr,vA,cB,Evc.cells,sgT,Da,←L,S,pl]
 have:=(ar aj (aI _) X (aP _) h).1;simpa [y9.mem] using this
theorem xc{m:AV}(c:Evc)(hk:c.k=1∨c.k=4)(b u w H:AV)(Y:b.ae9=true)(hu:u.ae9=true)(hs:w.ae9=true)(hn:H.ae9=true)(J:∃a b,m=.agg [a,b]∧a.ae9=true∧b.ae9=true)(I:Bool)(p:V3)(W:vC p)(hc:∀Z,kO prog 83 [m,.agg (c.cells b u w H)] (M++Z) (.int .i64 0) (M++Z)):
  kO prog 34 [m,.agg (c.cells b u w H),vA p,.str (sgT I)] M (.tuple [vA p,.int .i64 0]) M:=by
 obtain⟨x,y,rfl,U,S⟩:=J;have X:qS prog (er 62 [.agg [x,y],.agg (c.cells b u w H),vA p] (.int .i64 0) (fun N=>∃Z,N=M++Z)):=fI fun N ⟨Z,hZ⟩=>by subst hZ;refine lW ⟨_,_,rfl,U,S⟩ rfl (fun e V=>?_) (fun O =>by rw[List.append_assoc];exact hc _) W;simp only[Evc.cells,lM] at V;rcases V with rfl | rfl | rfl | rfl | rfl | rfl | rfl | rfl | rfl | rfl | rfl | rfl | rfl | rfl | rfl | rfl | rfl | rfl | rfl | rfl | rfl | rfl | rfl | rfl | rfl | rfl | rfl | rfl | rfl | rfl | rfl | rfl<;>first | rfl | assumption
 have h:aa (ba prog) (fun _=>[]) (aT prog) (er 62 [.agg [x,y],.agg (c.cells b u w H),vA p] (.int .i64 0) (fun N=>∃Z,N=M++Z)) 1 34 [.agg [x,y],.agg (c.cells b u w H),vA p,.str (sgT I)] M=some ⟨.tuple [vA p,.int .i64 0],none,[]⟩:=by
  clear X hc;have R:∀s,(AV.str s).ae9=true:=fun _=>rfl
  have Q:∀k n,(AV.int k n).ae9=true:=fun _ _=>rfl
  rcases hk with hk | hk<;>simp[-AV.ae9,R,aa,agl,f34,er,Evc.cells,vA,hk]
 have:=(ar aj (aI _) X (aP _) h).1;simpa [y9.mem] using this
theorem zo{H I a b:Nat}(nm:List UInt8){t:I4}{c:V3}(J:tLe 20 t)(hz:¬yw t)(W:vDg 2 c)(y:Bool)(p:V3)(Y:vC p)(h2:agD (zb (km t y)) (AQ c (nK (zb (km t y)) c)) p)(hc:∀Z,kO prog 83 [.agg [.slice H 0 a none,.slice I 0 b none],.agg ((gf nm t c).cells .qF .qF .qF .qF)] (M++Z) (.int .i64 0) (M++Z)):
  kO prog 34 [.agg [.slice H 0 a none,.slice I 0 b none],.agg ((gf nm t c).cells .qF .qF .qF .qF),vA p,.str (sgT y)] M (.tuple [vA (mH (nK (zb (km t y)) p) (AQ c (nK (zb (km t y)) c))),.int .i64 0]) M:=by
 have hT:=fun M=>MO nm J hz W y M
 have X:=fun M=>Ha h2 M
 obtain⟨r,V⟩:=xE (zb (km t y));rw[←V] at hT X ⊢;obtain⟨s,U⟩:=xE (AQ c (nK r c));rw[←U] at hT X ⊢;obtain⟨q,S⟩:=xE (mH (nK r p) s);rw[←S] at X ⊢;clear h2 V U S;have R:qS prog (ae3.or (er 62 [.agg [.slice H 0 a none,.slice I 0 b none],.agg ((gf nm t c).cells .qF .qF .qF .qF),vA p] (.int .i64 0) (fun N=>∃Z,N=M++Z)) (af (cU [(48,[.agg ((gf nm t c).cells .qF .qF .qF .qF),.str (sgT y)],.tuple [afA r s,.int .i64 0]),(17,[afA r s,vA p],.tuple [vA q,.int .i64 0])]))):=
  qS.or (fI fun N ⟨Z,hZ⟩=>by subst hZ;exact lW ⟨_,_,rfl,rfl,rfl⟩ rfl (by simp[gf,Evc.cells]) (fun O =>by rw[List.append_assoc];exact hc _) Y)
  (dK fun e Q M=>by
   simp only[lM] at Q;rcases Q with rfl | rfl
   ·exact hT M
   ·exact X M)
 have h:aa (ba prog) (fun _=>[]) (aT prog) (ae3.or (er 62 [.agg [.slice H 0 a none,.slice I 0 b none],.agg ((gf nm t c).cells .qF .qF .qF .qF),vA p] (.int .i64 0) (fun N=>∃Z,N=M++Z)) (af (cU [(48,[.agg ((gf nm t c).cells .qF .qF .qF .qF),.str (sgT y)],.tuple [afA r s,.int .i64 0]),(17,[afA r s,vA p],.tuple [vA q,.int .i64 0])]))) 1 34 [.agg [.slice H 0 a none,.slice I 0 b none],.agg ((gf nm t c).cells .qF .qF .qF .qF),vA p,.str (sgT y)] M=some ⟨.tuple [vA q,.int .i64 0],none,[]⟩:=by clear R hc hT X;simp[aa,agl,f34,ae3.or,er,cU,af,vA,gf,Evc.cells,afA,mC,vL]
 have:=(ar aj (aI _) R (aP _) h).1;simpa [y9.mem] using this
structure agE (n:V3)(L:List P2)(v:V3)(bck:Bool)(p:V3):Prop where
 pk:vC p
 dk:wi n p
 lk:Li L
 vk:big 40 (gG n p)
 fw:iK (gh L (gG n p))
 fk:iK (sgB bck)
 pl:LB p v (sgB bck*gh L (gG n p))
 rk:vC (mH p (wT v (sgB bck*gh L (gG n p))))
def fdM(s:afh)(L:List P2):Mem:=[.cells false 2 (pC s.P),.cells false 3 (tC s.T),.cells false 2 (kC (kT L))]
theorem xb(s:afh)(nm:List UInt8)(n:V3)(L:List P2)(v:V3)(H:Bool)(p:V3)(h:agE n L v H p)(hp:0<L.length)(hl:L.length≤1000)(hc:kv s (dX nm n L v)):
  kO prog 34 [.agg [.slice 0 0 s.P.length none,.slice 1 0 s.T.length none],.agg ((dX nm n L v).cells .qF .qF .qF (.slice 2 0 L.length none)),vA p,.str (sgT H)] (fdM s L) (.tuple [vA (Vd n L v H p),.int .i64 0]) (fdM s L):=by
 obtain⟨pk,J,lk,vk,⟨w1,w2⟩,⟨Q,K⟩,pl,rk⟩:=h;have I:∀Z,af7 (fdM s L++Z) ((dX nm n L v).cells .qF .qF .qF (.slice 2 0 L.length none)) (dX nm n L v):=fun Z=>
  ⟨.qF,.qF,.qF,_,rfl,.inl ⟨rfl,rfl,rfl⟩,.inl ⟨rfl,rfl,rfl⟩,⟨[],rfl,.inl ⟨rfl,rfl,rfl⟩,fun i x L h=>by simp at h⟩,.inr ⟨2,false,by show AV.slice 2 0 L.length none=.slice 2 0 (kT L).length none;rw[eh],by show 0<(kT L).length;rw[eh];exact hp,rfl⟩⟩
 have X:qS prog (ae3.or (er 62 [.agg [.slice 0 0 s.P.length none,.slice 1 0 s.T.length none],.agg ((dX nm n L v).cells .qF .qF .qF (.slice 2 0 L.length none)),vA p] (.int .i64 0) (fun N=>∃Z,N=fdM s L++Z)) (ae3.or (er 65 [.slice 2 0 L.length none,.str (aB (gG n p))] (.str (aB (gh L (gG n p)))) (fun N=>∃Z,N=fdM s L++Z)) (ae3.or (af (cU [(74,[vA (mH p (wT v (sgB H*gh L (gG n p))))],.tuple [vA (mH p (wT v (sgB H*gh L (gG n p)))),.int .i64 0])])) (af cr)))):=
  qS.or (fI fun N ⟨Z,hZ⟩=>by subst hZ;refine lW ⟨_,_,rfl,rfl,rfl⟩ rfl (by simp[dX,Evc.cells]) (fun Z' =>?_) pk;rw[List.append_assoc];exact hc (fdM s L++(Z++Z')) 0 1 false false _ rfl rfl (I _))
  (qS.or (fI fun N ⟨Z,hZ⟩=>by subst hZ;exact Fg L _ lk vk _ _ (TI (cs:=kC (kT L)) rfl (by rw[fR,eh];omega) (List.take_of_length_le (by rw[fR,eh];omega))))
  (qS.or (dK fun e he M=>by rw[List.mem_singleton] at he;rw[he];exact yy rk M) eJ))
 obtain⟨os,G⟩:∃os,aJ f34=os:=⟨_,rfl⟩
 have IR:=cw G (ls:=[[0,1,3,0,8,24,0,120,255,511],[0,0,2,6,0,0,48,127,255,511,511,2047,4095]]) (by kernel_rfl);simp only[aJ,bU,f34,lA] at G;subst G;simp only[lB] at IR;obtain⟨H',U⟩:=IR;have j0:dS [0,1,3,0,8,24,0,120,255,511] 9=true:=by decide
 have S:ef [49]=some 1:=rfl;have R:ef [45,49]=some (-1):=rfl;unfold Vd;obtain⟨u,F⟩:=xE (gG n p);rw[←F] at w1 w2 pl X ⊢;obtain⟨x,hx⟩:=xE (gh L u);rw[←hx] at w1 w2 pl X ⊢;obtain⟨k,V⟩:=xE (sgB H);rw[←V] at Q K pl X ⊢;obtain⟨y,D⟩:=xE (k*x);rw[←D] at pl X ⊢;obtain⟨q,C⟩:=xE (mH p (wT v y));rw[←C] at X ⊢;unfold fdM at X ⊢;obtain⟨B,o⟩:=xE (pC s.P);obtain⟨m,j⟩:=xE (tC s.T);obtain⟨Y,W⟩:=xE (kC (kT L));have e1:=fun n=>uR n s.P
 have e2:=fun f=>O4 f s.P
 have e3:=fun n=>sf n s.T
 have e4:=fun f=>E8 f s.T
 have e5:=fun n=>xY n (kT L)
 have e6:=fun f=>SV f (kT L)
 rw[←o] at X e1 e2 ⊢;rw[←j] at X e3 e4 ⊢;rw[←W] at X e5 e6 ⊢;simp only[List.cons_append,List.nil_append] at X;unfold sgB at V;obtain⟨O,Zq⟩:=xE (ae3.or (er 62 [.agg [.slice 0 0 s.P.length none,.slice 1 0 s.T.length none],.agg ((dX nm n L v).cells .qF .qF .qF (.slice 2 0 L.length none)),vA p] (.int .i64 0) (fun N=>∃Z,N=afb.cells false 2 B::afb.cells false 3 m::afb.cells false 2 Y::Z)) (ae3.or (er 65 [.slice 2 0 L.length none,.str (aB u)] (.str (aB x)) (fun N=>∃Z,N=afb.cells false 2 B::afb.cells false 3 m::afb.cells false 2 Y::Z)) (ae3.or (af (cU [(74,[vA q],.tuple [vA q,.int .i64 0])])) (af cr))));rw[←Zq] at X;have h:aa (ba prog) (fun _=>[]) (aT prog) O 1 34 [.agg [.slice 0 0 s.P.length none,.slice 1 0 s.T.length none],.agg ((dX nm n L v).cells .qF .qF .qF (.slice 2 0 L.length none)),vA p,.str (sgT H)] [.cells false 2 B,.cells false 3 m,.cells false 2 Y]=some ⟨.tuple [vA q,.int .i64 0],none,[]⟩:=by
  clear X hc I;subst Zq;cases H with
  |false=>
   rw[if_neg (by decide)] at V;rw[←V] at S;simp[aa,agl,f34,ae3.or,er,cU,af,cr,be,bd,vA,dX,Evc.cells,sgT,Da,az,←F,←D,←C,S,J,w1,w2,Q,K,pl,-aK,aq H',bm,aZ,bl,j0,bT U,dG,dP,fQ,dJ,dT,kk,bef,Nat.testBit]
  |true=>
   rw[if_pos rfl] at V;rw[←V] at R;simp[aa,agl,f34,ae3.or,er,cU,af,cr,be,bd,vA,dX,Evc.cells,sgT,Da,az,←F,←D,←C,R,J,w1,w2,Q,K,pl,-aK,aq H',bm,aZ,bl,j0,bT U,dG,dP,fQ,dJ,dT,kk,bef,Nat.testBit]
 have:=(ar aj (aI _) X (aP _) h).1;simpa [y9.mem] using this
theorem zn{H I b:Nat}{o1 o2 J:Bool}(s:afh)(nm:List UInt8)(n:V3)(L:List P2)(v:V3)(y:Bool)(p:V3)(h:agE n L v y p)(hp:0<L.length)(hl:L.length≤1000)(hc:kv s (dX nm n L v))(W:M[H]? =some (.cells o1 2 (pC s.P)))(m2:M[I]? =some (.cells o2 3 (tC s.T)))(Y:M[b]? =some (.cells J 2 (kC (kT L)))):
  kO prog 34 [.agg [.slice H 0 s.P.length none,.slice I 0 s.T.length none],.agg ((dX nm n L v).cells .qF .qF .qF (.slice b 0 L.length none)),vA p,.str (sgT y)] M (.tuple [vA (Vd n L v y p),.int .i64 0]) M:=by
 have X:=gL W;have V:=gL m2;have U:=gL Y;have:=kO.frame (M:=M) (new:=[]) [H,I,b] rfl (by simp[X,V,U]) (by rfl) (fun i t Z=>by
  match i with
  |0=>simp[fdM] at Z;subst Z;exact XI (dY _) W (List.take_of_length_le (Nat.le_refl _))
  |1=>simp[fdM] at Z;subst Z;exact XI (fC _) m2 (List.take_of_length_le (Nat.le_refl _))
  |2=>simp[fdM] at Z;subst Z;exact LO (o:=J) Y (List.take_of_length_le (by rw[fR];rw[eh];omega))
  |i+3=>simp[fdM] at Z) rfl (xb s nm n L v y p h hp hl hc)
 simpa [dX,Evc.cells,vA,AV.afp,AV.ren,eL] using this
theorem AW{m:AV}{q:V3}(I:∃a b,m=.agg [a,b]∧a.ae9=true∧b.ae9=true)(H:ev.length=32)(J:∀x∈ev,x.ae9=true)(y:Bool)(h:∀Z,kO prog 34 [m,.agg ev,vA p,.str (sgT y)] (M++Z) (.tuple [vA q,.int .i64 0]) (M++Z)):
  kO prog (if y then 10 else 11) [m,.agg ev,vA p] M (.tuple [vA q,.int .i64 0]) M:=by
 obtain⟨a,b,rfl,S,R⟩:=I;have Q:(∀x:AV,x∈ev→x.ae9=true)=True:=eq_true J;have t32:List.take 32 ev=ev:=List.take_of_length_le (by omega);have U:∀s,(AV.str s).ae9=true:=fun _=>rfl
 have X:qS prog (er 34 [.agg [a,b],.agg ev,vA p,.str (sgT y)] (.tuple [vA q,.int .i64 0]) (fun N=>∃Z,N=M++Z)):=fI fun N ⟨Z,hZ⟩=>by subst hZ;exact h Z
 clear h;cases y with
 |true=>
  have V:aT prog 10=some f10:=by kernel_rfl
  have h:aa (ba prog) (fun _=>[]) (aT prog) (er 34 [.agg [a,b],.agg ev,vA p,.str (sgT true)] (.tuple [vA q,.int .i64 0]) (fun N=>∃Z,N=M++Z)) 1 10 [.agg [a,b],.agg ev,vA p] M=some ⟨.tuple [vA q,.int .i64 0],none,[]⟩:=by clear X;simp[-AV.ae9,U,aa,V,f10,er,vA,sgT,H,t32]
  have:=(ar aj (aI _) X (aP _) h).1;simpa [y9.mem] using this
 |false=>
  have V:aT prog 11=some f11:=by kernel_rfl
  have h:aa (ba prog) (fun _=>[]) (aT prog) (er 34 [.agg [a,b],.agg ev,vA p,.str (sgT false)] (.tuple [vA q,.int .i64 0]) (fun N=>∃Z,N=M++Z)) 1 11 [.agg [a,b],.agg ev,vA p] M=some ⟨.tuple [vA q,.int .i64 0],none,[]⟩:=by clear X;simp[-AV.ae9,U,aa,V,f11,er,vA,sgT,H,t32]
  have:=(ar aj (aI _) X (aP _) h).1;simpa [y9.mem] using this
end Go.Proofs
