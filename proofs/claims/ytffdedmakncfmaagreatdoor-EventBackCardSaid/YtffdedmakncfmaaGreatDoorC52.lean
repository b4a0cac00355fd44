/- See C54. -/
import Derived.Test.YtffdedmakncfmaaGreatDoorC51
set_option linter.all false
set_option maxRecDepth 100000
set_option maxHeartbeats 40000000
namespace Go.Proofs
open Go.Eng
open Tryz
theorem No{M:Mem}{pb tb y a0 a1:Nat}{o:Bool}(H:pb<M.length)(I:tb<M.length)(nm:List UInt8)(n v p:V3)(Q:List (Rat×Rat))(hd:Sb n p)(J:cB (fI n p))(W:0<Q.length∧Q.length≤3)(hq:∀x∈Q,cB x.1)(hk:M[y]? =some (.cells o 2 (kC (kT Q)))):
  kO prog 16 [.agg [.slice pb 0 a0 none,.slice tb 0 a1 none],.agg ((dR nm n Q v).cells .qF .qF .qF (.slice y 0 Q.length none)),vA p] M (.int .i64 (ei Q (fI n p):Int)) M:=by
 have X:=gL hk;have:=kO.frame (M:=M) (new:=[]) (args:=[.agg [.slice 0 0 a0 none,.slice 1 0 a1 none],.agg ((dR nm n Q v).cells .qF .qF .qF (.slice 2 0 Q.length none)),vA p]) [pb,tb,y] (m:=[.qK,.qK,.cells false 2 (kC (kT Q))]) rfl (by simp[H,I,X]) (by simp[AV.afX,AV.under,dR,Evc.cells,vA]) (fun j s Z=>by
  match j with
  |0=>simp at Z;subst Z;trivial
  |1=>simp at Z;subst Z;trivial
  |2=>simp at Z;subst Z;exact cW (iI _) hk List.take_length
  |j+3=>simp at Z) rfl (by rw[List.append_nil];exact Ij (a0:=a0) (a1:=a1) nm n v p hd rfl J Q W fun x V=>⟨hq x V,trivial⟩)
 simpa [AV.af9,AV.ren,fj,dR,Evc.cells,vA] using this
theorem U6:∀k<8,∀p∈dT k,0≤p.1∧p.1≤6∧0≤p.2∧p.2≤6:=by decide
theorem HS(s:af1){a:P2}(h:a∈s.P):pDg 5 a:=by
 unfold af1.P at h;rw[List.mem_map] at h;obtain⟨q,Z,rfl⟩:=h;obtain⟨X,V,U,S⟩:=U6 _ (Nat.mod_lt _ (by decide)) q Z;have R:=SR s.sx;have Q:=SR s.sy;have O:((if s.half then 2 else 1)*1:Nat)=1∨((if s.half then 2 else 1)*1:Nat)=2:=by cases s.half<;>simp
 unfold af1.pt;exact⟨mZ (by omega) (by omega) (by omega),mZ (by omega) (by omega) (by omega)⟩
variable{A B C q:P2}{f g h:Rat}{m n:Nat}
theorem YW(y:pDg n A)(H:pDg n B)(I:pDg n C)(hq:pDg n q)(hf:dg m m f)(hg:dg m m g)(J:dg m m h)(hS:0<dj A B C):dg (32*n+3*m+22) (32*n+3*m+22) (Uf (M8 A B C q) f g h):=by rw[←Xq];have Z:=cV (mW hq H I) hf;have X:=cV (mW hq I y) hg;have V:=cV (mW hq y H) J;exact(YL (WB (WB Z X) V) (mW y H I) (by grind)).mono (by omega) (by omega)
theorem Y8(h0:0<n)(h1:0<m)(h2:n+m≤50)(y:pDg n A)(H:pDg n B)(I:pDg n C)(hq:pDg n q)(hf:dg m m f)(hg:dg m m g)(J:dg m m h)(hS:0<dj A B C):OnG A B C q f g h:=by
 have w1:=mW hq H I;have w2:=mW hq I y;have w3:=mW hq y H;have Z:=cV w1 hf;have X:=cV w2 hg;have V:=cV w3 J;have t1:=WB Z X;have t2:=WB t1 V;have F:∀{k:Nat}{z:Rat},dg k k z→0<k→k≤2000→cB z:=fun h a b=>de h a b
 exact⟨CH hq H I h0 (by omega),CH hq I y h0 (by omega),CH hq y H h0 (by omega),CH y H I h0 (by omega),hS,⟨F hf h1 (by omega),F hg h1 (by omega),F J h1 (by omega)⟩,⟨F w1 (by omega) (by omega),F w2 (by omega) (by omega),F w3 (by omega) (by omega)⟩,⟨F Z (by omega) (by omega),F X (by omega) (by omega),F V (by omega) (by omega)⟩,⟨F t1 (by omega) (by omega),F t2 (by omega) (by omega)⟩,F (mW y H I) (by omega) (by omega)⟩
variable{L:List Rat}
section
variable (s:af1)(hL:L.length=s.P.length)
include s hL
theorem MS{i:Nat}{t:Tr}(y:s.T[i]? =some t):∃A B C f g h,(s.P[t.1]? =some A∧s.P[t.2.1]? =some B∧s.P[t.2.2]? =some C)∧(L[t.1]? =some f∧L[t.2.1]? =some g∧L[t.2.2]? =some h)∧0<dj A B C∧(pDg 5 A∧pDg 5 B∧pDg 5 C)∧(f∈L∧g∈L∧h∈L):=by
 obtain⟨A,B,C,Z,X,h3,R⟩:=U8 s y;have g:∀{k:Nat}{A:P2},s.P[k]? =some A→∃f,L[k]? =some f:=fun h=>⟨_,List.getElem?_eq_getElem (by have:=gL h;omega)⟩
 obtain⟨f,V⟩:=g Z;obtain⟨k,U⟩:=g X;obtain⟨h,S⟩:=g h3;exact⟨A,B,C,f,k,h,⟨Z,X,h3⟩,⟨V,U,S⟩,R,⟨HS s (List.mem_of_getElem? Z),HS s (List.mem_of_getElem? X),HS s (List.mem_of_getElem? h3)⟩,List.mem_of_getElem? V,List.mem_of_getElem? U,List.mem_of_getElem? S⟩
section
variable (hb:∀z∈L,dg 4 4 z)(hq:pDg 5 q)
include hb hq
theorem TM:AtG s.P s.T L q where
 tri:=fun i t U=>by obtain⟨A,B,C,f,g,h,⟨S,R,h3⟩,⟨Q,O,N⟩,hS,⟨Z,X,V⟩,b1,b2,M⟩:=MS s hL U;exact⟨A,B,C,f,g,h,S,R,h3,Q,O,N,⟨CH Z X hq (by omega) (by omega),CH X V hq (by omega) (by omega),CH V Z hq (by omega) (by omega)⟩,Y8 (by omega) (by omega) (by omega) Z X V hq (hb _ b1) (hb _ b2) (hb _ M) hS⟩
 hl:=U7 s
theorem XV{j:Nat}{w:V3}(y:Qg s.P q s.T 0=some (j,w)):dg 194 194 (Bm s.T L j w):=by
 obtain⟨i,t,X,Z,V,rfl,_⟩:=Dh y;obtain rfl:i=j:=by omega
 obtain⟨A,B,C,f,g,h,⟨U,S,h3⟩,⟨R,Q,O⟩,hS,⟨N,M,K⟩,G,F,D⟩:=MS s hL Z;have e:FY s.P q t=M8 A B C q:=by unfold FY;simp[List.getD,U,S,h3]
 have u:s.T.getD i (0,0,0)=t:=by simp[List.getD,Z]
 have:Bm s.T L i (FY s.P q t)=Uf (M8 A B C q) f g h:=by unfold Bm;rw[e,u];simp[List.getD,R,Q,O]
 rw[this];exact(YW N M K hq (hb _ G) (hb _ F) (hb _ D) hS).mono (by omega) (by omega)
end
end
theorem T1(z:Rat):∀l,XM z l≤l.length
 | []=>Nat.le_refl 0
 |h::l=>by have:=T1 z l;rw[XM,List.length_cons];split<;>omega
theorem XN{P:List P2}{T:List Tr}{B:List Rat}{Qs:List (List Rat)}{p:V3}: -2≤YA P T B Qs p∧YA P T B Qs p≤(Qs.length:Int):=by
 unfold YA;split
 ·omega
 ·split
  ·omega
  ·rename_i j w _ _
   have:=T1 p.2.2 (Qs.map fun Q=>Bm T Q j w);rw[List.length_map] at this;omega
theorem Yd{Z:List Int}(h:∀z∈Z,z.natAbs<1000):∀q∈qH Z,dg 4 4 q:=fun q X=>by unfold qH at X;obtain⟨z,V,rfl⟩:=List.mem_map.1 X;exact ER (by have:=h z V;omega) (by omega)
def Tryz.agS(M:Mem)(mv:AV)(y:List AV)(p:V3):Prop:=
 ∃(n:Int) (R:M3) (v q:V3),((∀Z,kO prog 16 [mv,.agg y,vA p] (M++Z) (.int .i64 n) (M++Z))∧∀Z,kO prog 14 [mv,.agg y,.int .i64 n] (M++Z) (.tuple [afA R v,.int .i64 0]) (M++Z))∧
  ((∀M,kO prog 17 [afA R v,vA p] M (.tuple [vA q,.int .i64 0]) M)∧∀M,kO prog 18 [afA R v] M (.tuple [.str [49],.int .i64 0]) M)∧
  ∀Z,kO prog 12 [mv,.agg y,vA p,.bool false] (M++Z) (vA q) (M++Z)
def rDg(n:Nat)(R:M3):Prop:=vDg n R.1∧vDg n R.2.1∧vDg n R.2.2
theorem Yx{a b:V3}(y:vDg n a)(H:vDg m b):vDg (2*n+2*m+1) (HZ a b):=by
 have f:∀{p q r s:Rat},dg n n p→dg m m q→dg n n r→dg m m s→dg (2*n+2*m+1) (2*n+2*m+1) (p*q-r*s):=fun Z X h3 V=>(CR (cV Z X) (cV h3 V)).mono (by omega) (by omega)
 exact⟨f y.2.1 H.2.2 y.2.2 H.2.1,f y.2.2 H.1 y.1 H.2.2,f y.1 H.2.1 y.2.1 H.1⟩
variable{R:M3}
theorem Wz(h:rDg n R)(h0:0<n)(h1:n≤200):XO R:=by
 obtain⟨a,b,c⟩:=h;have f:∀{p q:Rat},dg n n p→dg n n q→kx (p*q):=fun h k=>jA (cV h k) (by omega) (by omega)
 exact⟨⟨⟨E8 b h0 (by omega),E8 c h0 (by omega)⟩,⟨f b.2.1 c.2.2,f b.2.2 c.2.1⟩,⟨f b.2.2 c.1,f b.1 c.2.2⟩,f b.1 c.2.1,f b.2.1 c.1⟩,qp (a.mono (by omega)) ((Yx b c).mono (m:=4*n+1) (by omega)) (by omega) (by omega)⟩
theorem R5{v p:V3}(y:rDg n R)(h0:0<n)(h1:n≤200)(I:vDg 200 v)(H:vDg 5 p)(hr:vDg 200 (iU (mi R p) v)):ahm R v p where
 ck:=⟨tz (y.1.mono h1),tz (y.2.1.mono h1),tz (y.2.2.mono h1),tz I⟩
 pk:=tz (H.mono (by omega))
 mm:=⟨qp (y.1.mono (m:=n+5) (by omega)) (H.mono (by omega)) (by omega) (by omega),qp (y.2.1.mono (m:=n+5) (by omega)) (H.mono (by omega)) (by omega) (by omega),qp (y.2.2.mono (m:=n+5) (by omega)) (H.mono (by omega)) (by omega) (by omega)⟩
 fk:=⟨E8 (HA y H) (by omega) (by omega),E8 I (by omega) (by omega)⟩
 rk:=tz hr
theorem im{M:Mem}{s:af1}{p t:Nat}{y:List AV}{v w q:V3}{n:Int}{R:M3}{k:Nat}{P:Prop}[Decidable P](J:∀Z,kO prog 16 [A6 s p t,.agg y,vA v] (M++Z) (.int .i64 n) (M++Z))(hpos:∀Z,kO prog 42 [A6 s p t,.agg y,.int .i64 n] (M++Z) (.int .i64 (if P then 0 else 10)) (M++Z))(W:P)(Y:∀Z,(∀X,kO prog 42 [A6 s p t,.agg y,.int .i64 n] ((M++Z)++X) (.int .i64 0) ((M++Z)++X))→kO prog 14 [A6 s p t,.agg y,.int .i64 n] (M++Z) (.tuple [afA R w,.int .i64 0]) (M++Z))(hv:vDg 5 v)(I:rDg k R)(h0:0<k)(h1:k≤200)(hw:vDg 200 w)(hq:iU (mi R v) w=q)(H:vDg 200 q)(hd:WQ R=1)(hm:∀Z,kO prog 12 [A6 s p t,.agg y,vA v,.bool false] (M++Z) (vA q) (M++Z)):agS M (A6 s p t) y v:=by
 have U:∀Z X,kO prog 42 [A6 s p t,.agg y,.int .i64 n] ((M++Z)++X) (.int .i64 0) ((M++Z)++X):=fun Z X =>by have:=hpos (Z++X);rw[if_pos W,←List.append_assoc] at this;exact this
 have V:=R5 I h0 h1 hw hv (by rw[hq];exact H);refine⟨n,R,w,q,⟨J,fun Z=>Y Z (U Z)⟩,⟨fun M=>?_,fun M=>M9 V.ck (Wz I h0 h1) hd M⟩,hm⟩;have:=H0 V M
 rwa [hq] at this
theorem Up(p:V3):iU (mi idM p) v0=p:=by obtain⟨a,b,c⟩:=p;unfold iU mi idM v0 fI;refine Prod.ext ?_ (Prod.ext ?_ ?_)<;>(simp only;grind)
theorem ZF(p v:V3):iU (mi idM p) (iU v0 (nO v (-1)))=iU p (nO v (-1)):=by unfold iU mi idM v0 fI nO;refine Prod.ext ?_ (Prod.ext ?_ ?_)<;>(simp only;grind)
theorem XU(n v p:V3)(a b:Rat):iU (mi (L7 n v b) p) (iU v0 (nO v (-a)))=iU p (nO v (-1*(a+b*fI n p))):=by unfold iU mi L7 v0 fI nO iU;refine Prod.ext ?_ (Prod.ext ?_ ?_)<;>(simp only;grind)
theorem Qq:rDg 2 idM:=⟨iJ.1,iJ.2.1,iJ.2.2.1⟩
section
variable {x:afO}{s:af1}{M:Mem}{p t:Nat}{o o' :Bool}{ev:List AV}{v:V3}
theorem N0(h:x.kind%5=1)(y:vDg 5 v)(I:M[p]? =some (.cells o 2 (pC s.P)))(J:M[t]? =some (.cells o' 3 (tC s.T)))(H:agL M ev (cSk x s.P.length)):agS M (A6 s p t) ev v:=by
 have S:=rG s x;rw[Zu h] at H S;obtain⟨b,u,sv,kn,rfl,j,Y,h3,W⟩:=id H;obtain rfl:=j.agG rfl;obtain rfl:=Y.agG rfl;obtain rfl:=h3.agG rfl;obtain rfl:=W.agG rfl;have N:=PI (qA x) (k:=1) (by decide) (by decide);have Q:=YU (CD x) (k:=3) (by decide) (by decide);have F:=ER (z:=fX (x.n 6)) (k:=1) (by have:=dr (x.n 6);omega) (by decide);have D:=O0 (k:=40) N y (by omega);have hN:∀Z,kO prog 165 [.agg ((dO [110] (zQ (dx x)) (hQ (fX (x.n 6))) (hV (uz x))).cells .qF .qF .qF .qF)] (M++Z) (.int .i64 1) (M++Z):=fun Z=>IX rfl rfl rfl rfl
 have X:=fun Z=>kA gB.2.1 rfl S I J H hN (by decide) (by decide) (qQ (zQ (dx x)) (hQ (fX (x.n 6))) v) Z
 have V:∀Z,kO prog 16 [A6 s p t,.agg ((dO [110] (zQ (dx x)) (hQ (fX (x.n 6))) (hV (uz x))).cells .qF .qF .qF .qF),vA v] (M++Z) (.int .i64 (qQ (zQ (dx x)) (hQ (fX (x.n 6))) v)) (M++Z):=fun Z=>BJ (M:=M++Z) ⟨rfl,rfl⟩ [110] _ _ _ v (sF (N.mono (m:=5) (by omega)) y (by omega) (by omega)) (de D (by omega) (by omega)) (de F (by omega) (by omega))
 have U:∀Z,kO prog 12 [A6 s p t,.agg ((dO [110] (zQ (dx x)) (hQ (fX (x.n 6))) (hV (uz x))).cells .qF .qF .qF .qF),vA v,.bool false] (M++Z) (vA (FH (zQ (dx x)) (hQ (fX (x.n 6))) (hV (uz x)) true v)) (M++Z):=fun Z=>wM (M:=M++Z) (bck:=true) ⟨rfl,rfl⟩ [110] _ _ _ v (sF (N.mono (m:=5) (by omega)) y (by omega) (by omega)) (de D (by omega) (by omega)) (de F (by omega) (by omega)) (DT y (by omega) (by omega)) (DT Q (by omega) (by omega)) (DT (Vj Q (Xv true)) (by omega) (by omega))
 have lo:loK 2=0:=rfl;by_cases O:hQ (fX (x.n 6))≤fI (zQ (dx x)) v
 ·have K:qQ (zQ (dx x)) (hQ (fX (x.n 6))) v=1:=if_pos O
  have G:FH (zQ (dx x)) (hQ (fX (x.n 6))) (hV (uz x)) true v=iU v (nO (hV (uz x)) (-1)):=if_pos O;rw[K] at X V;rw[G] at U;exact im (R:=idM) (k:=2) V X (by omega) (fun Z k=>yg ⟨rfl,rfl⟩ (Q.mono (by omega)) k) y Qq (by omega) (by omega) ((Bw Q WC).mono (by omega)) (ZF _ _) ((QF y Q WC).mono (by omega)) PX U
 ·have K:qQ (zQ (dx x)) (hQ (fX (x.n 6))) v=0:=if_neg O
  have G:FH (zQ (dx x)) (hQ (fX (x.n 6))) (hV (uz x)) true v=v:=if_neg O;rw[K] at X V;rw[G] at U;exact im (R:=idM) (k:=2) V X (by omega) (fun Z k=>nS ⟨rfl,rfl⟩ (.inr ⟨rfl,rfl⟩) rfl rfl rfl rfl k) y Qq (by omega) (by omega) (iJ.2.2.2.mono (by omega)) (Up _) (y.mono (by omega)) PX U
theorem N3(h:x.kind%5=4)(y:vDg 5 v)(I:M[p]? =some (.cells o 2 (pC s.P)))(J:M[t]? =some (.cells o' 3 (tC s.T)))(H:agL M ev (cSk x s.P.length)):agS M (A6 s p t) ev v:=by
 have V:=rG s x;rw[Zx h] at H V;obtain⟨b,u,F,D,rfl,O,N,h3,K⟩:=id H;obtain rfl:=O.agG rfl;obtain rfl:=N.agG rfl;obtain rfl:=h3.agG rfl;obtain rfl:=K.agG rfl;have X:=PI (qA x) (k:=1) (by decide) (by decide);have G:∀Z,kO prog 179 [.agg ((gu [110] (wC x) (zQ (dx x))).cells .qF .qF .qF .qF)] (M++Z) (.int .i64 0) (M++Z):=fun Z=>I2 rfl rfl rfl rfl
 have U:=fun Z=>kA gB.2.2.2.2 rfl V I J H G (by decide) (by decide) 0 Z
 have r:=UZ (xM (By x) true) (ug (xP x) true);have S:=PG y X;have Q:=HA r S;have j:loK 5=0:=rfl;refine im (R:=A5 (mH (wC x) true)) (w:=BA (zQ (dx x)) (mi (A5 (mH (wC x) true)) (zQ (dx x)))) (k:=4) (q:=iU (zQ (dx x)) (mi (A5 (mH (wC x) true)) (BA v (zQ (dx x))))) (fun Z=>Nq ⟨rfl,rfl⟩ _ _ _ _) U (by omega) (fun Z k=>Ap [110] (By x) (xP x) (X.mono (by omega)) ⟨rfl,rfl⟩ k) y r (by omega) (by omega) ((PG X (HA r X)).mono (by omega)) (Yt _ _ _).symm ((Yw X Q).mono (by omega)) (XQ (ug (xP x) true)) (fun Z=>?_);exact yd (M:=M++Z) (bck:=true) ⟨rfl,rfl⟩ [110] (By x) (xP x) _ v (DT y (by omega) (by omega)) (DT X (by omega) (by omega)) ⟨sF (r.1.mono (m:=8) (by omega)) (S.mono (by omega)) (by omega) (by omega),sF (r.2.1.mono (m:=8) (by omega)) (S.mono (by omega)) (by omega) (by omega),sF (r.2.2.mono (m:=8) (by omega)) (S.mono (by omega)) (by omega) (by omega)⟩ (DT Q (by omega) (by omega))
theorem N2(h:x.kind%5=3)(y:vDg 5 v)(I:M[p]? =some (.cells o 2 (pC s.P)))(J:M[t]? =some (.cells o' 3 (tC s.T)))(H:agL M ev (cSk x s.P.length)):agS M (A6 s p t) ev v:=by
 have X:=rG s x;rw[Zw h] at H X;obtain⟨b,u,F,D,rfl,O,N,h3,K⟩:=id H;obtain rfl:=O.agG rfl;obtain rfl:=N.agG rfl;obtain rfl:=h3.agG rfl;obtain rfl:=K.agG rfl;have U:=PI (qA x) (k:=1) (by decide) (by decide);have S:=ER (z:=fX (x.n 6)) (k:=1) (by have:=dr (x.n 6);omega) (by decide);have w7:=ER (z:=ps9 (x.n 7)) (k:=1) (by have:=nn (x.n 7);omega) (by decide);have Q:=O0 (k:=40) U y (by omega);have G:∀Z,kO prog 174 [.agg ((mX [110] (zQ (dx x)) (hQ (fX (x.n 6))) (hQ (ps9 (x.n 7))) [110,95,114,111,99,107]).cells .qF .qF .qF .qF)] (M++Z) (.int .i64 2) (M++Z):=fun Z=>IZ rfl rfl rfl rfl
 have V:=fun Z=>kA gB.2.2.2.1 rfl X I J H G (by decide) (by decide) (dkL (zQ (dx x)) (hQ (fX (x.n 6))) (hQ (ps9 (x.n 7))) v) Z
 have j:loK 4=0:=rfl;have Y:0≤dkL (zQ (dx x)) (hQ (fX (x.n 6))) (hQ (ps9 (x.n 7))) v∧dkL (zQ (dx x)) (hQ (fX (x.n 6))) (hQ (ps9 (x.n 7))) v≤2:=by
  unfold dkL;split
  ·omega
  ·split<;>omega
 exact im (R:=idM) (k:=2) (fun Z=>Np (M:=M++Z) ⟨rfl,rfl⟩ [110] _ _ _ _ v (sF (U.mono (m:=5) (by omega)) y (by omega) (by omega)) (de Q (by omega) (by omega)) (de S (by omega) (by omega)) (de (CR Q S) (by omega) (by omega)) (de w7 (by omega) (by omega))) V (by omega) (fun Z k=>nS ⟨rfl,rfl⟩ (.inl (.inr rfl)) rfl rfl rfl rfl k) y Qq (by omega) (by omega) (iJ.2.2.2.mono (by omega)) (Up _) (y.mono (by omega)) PX (fun Z=>mM (M:=M++Z) ⟨rfl,rfl⟩ _ (.inr rfl) rfl rfl rfl rfl true v)
theorem N1(h:x.kind%5=2)(y:vDg 5 v)(hp:M[p]? =some (.cells o 2 (pC s.P)))(ht:M[t]? =some (.cells o' 3 (tC s.T)))(H:agL M ev (cSk x s.P.length)):agS M (A6 s p t) ev v:=by
 have F:=rG s x;rw[Zv h] at H F;have hc:=xn x;have X:(x.aga (ctM x)).length=ctM x:=afO.agp x _;have V:Xi 2 (x.aga (ctM x)):=fun q N=>Mg (by omega) N
 have D:Xi 40 (x.aga (ctM x)):=fun q N=>⟨(V q N).1.mono (by decide),(V q N).2.mono (by decide)⟩
 have J:asc (x.aga (ctM x)):=YI fun i a b I hb=>Hz I hb
 obtain⟨b,u,sv,kn,rfl,h1,h2,h3,h4⟩:=id H;obtain rfl:=h1.agG rfl;obtain rfl:=h2.agG rfl;obtain rfl:=h3.agG rfl;have e1:(dR [110] (zQ (dx x)) (x.aga (ctM x)) (zQ (uz x))).K.length=ctM x:=by show(kT _).length=_;rw[kL,X]
 rw[e1] at h4;obtain⟨kb,ko,rfl,G⟩:=h4.pos (by omega);have G:M[kb]? =some (.cells ko 2 (kC (kT (x.aga (ctM x))))):=G;have S:=PI (qA x) (k:=1) (by decide) (by decide);have U:=PI (CD x) (k:=3) (by decide) (by decide);have dd:=O0 (k:=40) S y (by omega);have vd:=Vl V dd;have kd:=cV (Xv true) vd;have cd:=T2 (dx x) (fX (x.n 3),fX (x.n 4),fX (x.n 5));have O:=FM (x.aga (ctM x)) (fI (zQ (dx x)) v);have hN:∀Z,kO prog 169 [.agg ((dR [110] (zQ (dx x)) (x.aga (ctM x)) (zQ (uz x))).cells .qF .qF .qF (.slice kb 0 (ctM x) none))] (M++Z) (.int .i64 (ctM x:Int)) (M++Z):=fun Z=>IY rfl rfl rfl rfl
 have j:=fun Z=>kA gB.2.2.1 rfl F hp ht H hN (by decide) (by decide) (ei (x.aga (ctM x)) (fI (zQ (dx x)) v):Int) Z
 have lo:loK 3=0:=rfl;obtain⟨g1,W⟩:=Qf V O;have hR:rDg 60 (L7 (zQ (dx x)) (zQ (uz x)) (nZ (x.aga (ctM x)) (ei (x.aga (ctM x)) (fI (zQ (dx x)) v))).2):=⟨(FV iJ.1 S (xo (cV W U.1))).mono (by omega),(FV iJ.2.1 S (xo (cV W U.2.1))).mono (by omega),(FV iJ.2.2.1 S (xo (cV W U.2.2))).mono (by omega)⟩;refine im (k:=60) (q:=ZG (zQ (dx x)) (x.aga (ctM x)) (zQ (uz x)) true v) (fun Z=>?_) j (by rw[X] at O;omega) (fun Z k=>?_) y hR (by omega) (by omega) ((Bw U (xo g1)).mono (by omega)) (XU _ _ _ _ _) ((QF y U kd).mono (by omega)) (WA _ (Vq cd)) (fun Z=>?_)
 ·have:=No (M:=M++Z) (a0:=s.P.length) (a1:=s.T.length) (Fw (fl hp Z)) (Fw (fl ht Z)) [110] (zQ (dx x)) (zQ (uz x)) v (x.aga (ctM x)) (sF (S.mono (m:=5) (by omega)) y (by omega) (by omega)) (de dd (by omega) (by omega)) (by rw[X];omega) (fun q N=>de (V q N).1 (by omega) (by omega)) (fl G Z)
  rw[X] at this;exact this
 ·refine Ao ⟨rfl,rfl⟩ rfl (S.mono (by omega)) (U.mono (by omega)) g1 W (fun Z' =>?_) k
  have:=RE (Q:=x.aga (ctM x)) (n:=ei (x.aga (ctM x)) (fI (zQ (dx x)) v)) O D (by rw[X];omega) (fun i a b I hb=>WN I hb) (fl (fl G Z) Z');rw[X] at this;exact this
 ·have Y:=fun Z' =>ON (Q:=x.aga (ctM x)) (u:=fI (zQ (dx x)) v) ⟨D,dd,J,by rw[X];omega⟩ (fl (fl G Z) Z')
  rw[X] at Y;have kl:=Fw (fl G Z);exact yc (M:=M++Z) (bck:=true) ⟨rfl,rfl⟩ rfl (fun k=>by simp only[AV.afP,decide_eq_true_eq];omega) [110] _ _ v _ (sF (S.mono (m:=5) (by omega)) y (by omega) (by omega)) rfl Y (de vd (by omega) (by omega)) (DT y (by omega) (by omega)) (DT U (by omega) (by omega)) (de kd (by omega) (by omega)) (DT (Vj U kd) (by omega) (by omega))
end
end Go.Proofs
namespace Go.Proofs
open Go.Eng
open Tryz
section
variable {x:afO}{s:af1}{M:Mem}{p t:Nat}{o o' :Bool}{ev:List AV}{v:V3}
theorem tL(x:afO)(n:Nat):∀q∈qH (x.base.l n),dg 4 4 q:=Yd fun z Z=>by have:=lU x n z Z;omega
theorem xK(x:afO)(n:Nat):∀q∈qH (upL x.s0 (x.base.l n) n),dg 4 4 q:=Yd fun z Z=>by have:=tx x n z Z;omega
theorem MU(x:afO)(n:Nat):∀q∈qH (upL x.s1 (upL x.s0 (x.base.l n) n) n),dg 4 4 q:=Yd fun z X=>by unfold upL at X;obtain⟨k,Z,rfl⟩:=List.mem_map.1 X;have Z:=List.mem_range.1 Z;have V:=tx x n _ (qs (l:=upL x.s0 (x.base.l n) n) (k:=k) (by rw[gF];exact Z));have:=x.s1.ahH k;unfold upL at V;omega
theorem ZJ(Z:List Int):(qH Z).length=Z.length:=by simp[qH]
noncomputable def YB(s:af1)(x:afO)(v:V3):Int:=YA s.P s.T (qH (x.base.l s.P.length)) ((xL x s.P.length (ctN x)).map qH) v
theorem Oz(y:vDg 5 v)(H:M[p]? =some (.cells o 2 (pC s.P)))(I:M[t]? =some (.cells o' 3 (tC s.T)))(hE:agL M ev (vO x s.P.length (ctN x))):kO prog 16 [A6 s p t,.agg ev,vA v] M (.int .i64 (YB s x v)) M:=by
 obtain⟨m,p2⟩:=ue s;have hq:pDg 5 (v.1,v.2.1):=⟨y.1,y.2.1⟩;obtain⟨b,u,J,kn,rfl,h1,h2,h3,h4⟩:=hE;obtain rfl:=h4.agG rfl;have lB:(x.base.l s.P.length).length=s.P.length:=x.base.agj _;have O:∀h L,(upL h L s.P.length).length=s.P.length:=fun h L=>gF h L _
 have e1:(vO x s.P.length (ctN x)).B.length=s.P.length:=by show(hS _).length=_;rw[mc,lB]
 rw[e1] at h1;obtain⟨fb,fo,rfl,K⟩:=h1.pos m;have hB:M[fb]? =some (.cells fo 1 (qC (qH (x.base.l s.P.length)))):=by rw[←Tb];exact K
 have cu:=h2.ck;obtain⟨vs,G,V,N⟩:=h3;have Y:∀Z:List Int,Z.length=s.P.length→(qH Z).length=s.P.length:=fun Z h=>by rw[ZJ,h]
 have U:=Y _ lB;have R:=jz x;have F:∀{L:List Rat},L.length=s.P.length→(∀z∈L,dg 4 4 z)→∀j w,Qg s.P (v.1,v.2.1) s.T 0=some (j,w)→cB (Bm s.T L j w):=fun hL K j w h=>de (XV s hL K hq h) (by omega) (by omega)
 have fp:cB v.2.2:=de y.2.2 (by omega) (by omega);have A:=fun {L:List Rat}(hL:L.length=s.P.length) (K:∀z∈L,dg 4 4 z)=>TM s hL K hq
 unfold YB;rw[show A6 s p t=.agg [.slice p 0 s.P.length none,.slice t 0 s.T.length none] from rfl];rcases R with R | R | R
 ·rw[R] at G N V ⊢
  obtain rfl:=V.agG rfl;have:=uK (M:=M) (sfs:=[]) (sb:=0) (o4:=false) (sv:=.qF) (c:=vO x s.P.length 1) (u:=u) (by simp) H I hB (by omega) (fun e X=>by cases X) (A U (tL x _)) (.inl ⟨rfl,rfl⟩) (fun e X=>by cases X) fp (F U (tL x _)) (fun e X=>by cases X) rfl cu;rw[U] at this;exact this
 ·rw[R] at G N V ⊢
  obtain⟨D,oc,rfl,Q⟩:=V.pos (by show 0<1;omega)
  match vs,G with
  | [v1],_=>
   have r1:=N 0 v1 (hS (upL x.s0 (x.base.l s.P.length) s.P.length)) rfl rfl;rw[mc,O] at r1;obtain⟨b1,o1,rfl,C⟩:=r1.pos m;rw[Tb] at C;have S:=Y _ (O x.s0 (x.base.l s.P.length));have:=uK (M:=M) (sfs:=[(b1,qH (upL x.s0 (x.base.l s.P.length) s.P.length))]) (sb:=D) (o4:=oc) (sv:=.slice D 0 1 none) (c:=vO x s.P.length 2) (u:=u) (by simp) H I hB (by omega) (fun e X=>by
    simp only[List.mem_singleton] at X;subst X;rw[S,U]) (A U (tL x _)) (.inr ⟨rfl,by simp,by simp only[List.map_cons,List.map_nil,S];exact Q⟩) (fun e X=>by
    simp only[List.mem_singleton] at X;subst X;exact⟨⟨_,C⟩,A S (xK x _)⟩) fp (F U (tL x _)) (fun e X=>by
    simp only[List.mem_singleton] at X;subst X;exact F S (xK x _)) rfl cu
   rw[U] at this;exact this
 ·rw[R] at G N V ⊢
  obtain⟨D,oc,rfl,Q⟩:=V.pos (by show 0<2;omega)
  match vs,G with
  | [v1,v2],_=>
   have r1:=N 0 v1 (hS (upL x.s0 (x.base.l s.P.length) s.P.length)) rfl rfl;rw[mc,O] at r1;obtain⟨b1,o1,rfl,C⟩:=r1.pos m;rw[Tb] at C;have r2:=N 1 v2 (hS (upL x.s1 (upL x.s0 (x.base.l s.P.length) s.P.length) s.P.length)) rfl rfl;rw[mc,O] at r2;obtain⟨b2,o2,rfl,g2⟩:=r2.pos m;rw[Tb] at g2;have S:=Y _ (O x.s0 (x.base.l s.P.length));have W:=Y _ (O x.s1 (upL x.s0 (x.base.l s.P.length) s.P.length));have:=uK (M:=M) (sfs:=[(b1,qH (upL x.s0 (x.base.l s.P.length) s.P.length)),(b2,qH (upL x.s1 (upL x.s0 (x.base.l s.P.length) s.P.length) s.P.length))]) (sb:=D) (o4:=oc) (sv:=.slice D 0 2 none) (c:=vO x s.P.length 3) (u:=u) (by simp) H I hB (by omega) (fun e X=>by
    simp only[lM] at X;rcases X with rfl | rfl
    ·simp only;rw[S,U]
    ·simp only;rw[W,U]) (A U (tL x _)) (.inr ⟨rfl,by simp,by simp only[List.map_cons,List.map_nil,S,W];exact Q⟩) (fun e X=>by
    simp only[lM] at X;rcases X with rfl | rfl
    ·exact⟨⟨_,C⟩,A S (xK x _)⟩
    ·exact⟨⟨_,g2⟩,A W (MU x _)⟩) fp (F U (tL x _)) (fun e X=>by
    simp only[lM] at X;rcases X with rfl | rfl
    ·exact F S (xK x _)
    ·exact F W (MU x _)) rfl cu
   rw[U] at this;exact this
theorem NZ(h:x.kind%5=0)(H:vDg 5 v)(I:M[p]? =some (.cells o 2 (pC s.P)))(J:M[t]? =some (.cells o' 3 (tC s.T)))(y:agL M ev (cSk x s.P.length)):agS M (A6 s p t) ev v:=by
 have X:=rG s x;rw[Zt h] at y X;have h3:=jz x;have V:=fun Z=>Oz H (fl I Z) (fl J Z) (y.more Z)
 obtain⟨b,u,K,D,rfl,C,G,Q,m⟩:=id y;have O:=C.ck;have j:=G.ck;have N:K.afR=true:=by obtain⟨_,_,h,_⟩:=Q;exact h.ck
 have L:=m.ck;have F:(vO x s.P.length (ctN x)).U.length=ctN x:=Vg h3;obtain⟨Y,uo,rfl,hu⟩:=G.pos (by rw[F];omega);rw[F] at y V j ⊢;have W:∀Z,kO prog 160 [.agg ((vO x s.P.length (ctN x)).cells b (.slice Y 0 (ctN x) none) K D)] (M++Z) (.int .i64 ((ctN x:Int)-1)) (M++Z):=fun Z=>IW O rfl N L (by omega)
 have S:=fun Z=>kA gB.1 rfl X I J y W (by decide) (by decide) (YB s x v) Z
 have lo:loK 1= -2:=rfl;have hb: -2≤YB s x v∧YB s x v≤(ctN x:Int)-1:=by
  have:=XN (P:=s.P) (T:=s.T) (B:=qH (x.base.l s.P.length)) (Qs:=(xL x s.P.length (ctN x)).map qH) (p:=v);have e:((xL x s.P.length (ctN x)).map qH).length=ctN x-1:=by rcases h3 with h | h | h<;>rw[h]<;>rfl
  rw[e] at this;unfold YB;omega
 exact im (R:=idM) (k:=2) V S (by omega) (fun Z k=>nS ⟨rfl,rfl⟩ (.inl (.inl rfl)) O rfl N L k) H Qq (by omega) (by omega) (iJ.2.2.2.mono (by omega)) (Up _) (H.mono (by omega)) PX (fun Z=>mM (M:=M++Z) ⟨rfl,rfl⟩ _ (.inl rfl) O rfl N L true v)
theorem NY(I:vDg 5 v)(y:M[p]? =some (.cells o 2 (pC s.P)))(H:M[t]? =some (.cells o' 3 (tC s.T))):agS (M++Sz M.length x s.P.length) (A6 s p t) (XT M.length x s.P.length) v:=by
 have Z:=T8 x s.P.length (ue s).1 M;have y:=fl y (Sz M.length x s.P.length);have H:=fl H (Sz M.length x s.P.length);rcases tT x.kind with h | h | h | h | h
 ·exact NZ h I y H Z
 ·exact N0 h I y H Z
 ·exact N1 h I y H Z
 ·exact N2 h I y H Z
 ·exact N3 h I y H Z
end
end Go.Proofs
namespace Go.Eng
theorem kO.pad{P:Program}{f:FuncId}{args:List AV}{m y:Mem}{v:AV}(h:kO P f args m v y)(k:Nat):kO P f args m v (y++List.replicate k .qK):=by
 refine⟨h.1,fun base μ w Vs hG hH hV=>(h.2 base μ w Vs hG hH hV).mono ?_⟩;rintro e w' ⟨V,v',m',μ',rfl,q1,q2,q3,rfl,rfl⟩;have U:m'.length≤(m' ++List.replicate k afU.qK).length:=by rw[List.length_append];omega
 have S:∀(b:Nat) s,(m' ++List.replicate k afU.qK)[b]? =some s→m'[b]? =some s∨s=.qK:=fun b s Z=>by
  by_cases R:b<m'.length
  ·rw[List.getElem?_append_left R] at Z;exact .inl Z
  ·rw[List.getElem?_append_right (by omega)] at Z
   exact .inr (List.eq_of_mem_replicate (List.mem_of_getElem? Z))
 have X:∀{b:Nat},ef (m' ++List.replicate k afU.qK) b→ef m' b:=fun {b} ⟨s,R,h2⟩=>by
  rcases S b s R with h | rfl
  ·exact⟨s,h,h2⟩
  ·cases h2
 refine⟨V,v',_,μ',rfl,q1.mono U (fun _ _=>rfl),⟨q2.afY,fun b s Z=>?_,fun b O N Z L M Q=>?_⟩,⟨Nat.le_trans q3.len U,q3.agree,q3.os,q3.tape,q3.output,q3.size,q3.frame,fun b Z=>q3.owner b (X Z),q3.drawn⟩,rfl,rfl⟩
 ·rcases S b s Z with h | rfl
  ·exact(q2.slot b s h).mono U (fun _ _=>rfl) (fun _=>rfl)
  ·trivial
 ·rcases S O N L with h | rfl
  ·exact q2.sep b O N (X Z) h M Q
  ·exact absurd rfl M
end Go.Eng
namespace Go.Proofs
open Go.Eng
open Tryz
def lwM(s:af1)(C:List AV)(y d1 H d2 I d3:Int):Mem:=[.cells true 0 [.int .u8 s.kind,.int .i8 s.sx,.int .i8 s.sy,.bool s.half],.cells true 0 C,.cells true 0 [.int .i16 y,.int .u8 d1,.int .i16 H,.int .u8 d2,.int .i16 I,.int .u8 d3],.cells true 2 (pC s.P),.cells true 3 (tC s.T),.cells true 0 [.slice 3 0 s.P.length none,.slice 4 0 s.T.length none]]
def YO(X:Nat→afU):Prop:=∀i,oY (X i)=true∧∀k,(X i).afP (fun b=>decide (b<11+k))=true
def CX(X:Nat→afU):Mem:=[X 0,X 1,X 2,X 3,X 4]
theorem Yb{x:afO}{n:Nat}:∃X k,YO X∧Sz 6 x n++List.replicate k .qK=CX X:=by
 have h3:=jz x;have Z:oY afU.qK=true∧∀k:Nat,afU.afP (fun b=>decide (b<11+k)) .qK=true:=⟨rfl,fun _=>rfl⟩
 have row:∀{es:Nat}{C:List AV},AV.afT C=true→oY (.cells true es C)=true∧∀k:Nat,afU.afP (fun b=>decide (b<11+k)) (.cells true es C)=true:=fun h=>⟨rfl,fun k=>gV h _⟩
 have S:∀L:List Int,AV.afT (qC (qH L))=true:=fun L=>by rw[Xr];exact dX _
 have R:∀{b n:Nat},b<11→∀k:Nat,AV.afP (fun b=>decide (b<11+k)) (.slice b 0 n none)=true:=fun h k=>by simp only[AV.afP,decide_eq_true_eq];omega
 have U:∀a b c d e:afU,(oY a=true∧∀k:Nat,a.afP (fun b=>decide (b<11+k))=true)→(oY b=true∧∀k:Nat,b.afP (fun b=>decide (b<11+k))=true)→(oY c=true∧∀k:Nat,c.afP (fun b=>decide (b<11+k))=true)→(oY d=true∧∀k:Nat,d.afP (fun b=>decide (b<11+k))=true)→(oY e=true∧∀k:Nat,e.afP (fun b=>decide (b<11+k))=true)→
   ∃X,YO X∧[a,b,c,d,e]=CX X:=fun a b c d e O N M K G=>⟨fun i=>[a,b,c,d].getD i e,fun i=>by
  match i with
  |0=>exact O
  |1=>exact N
  |2=>exact M
  |3=>exact K
  |i+4=>exact G,rfl⟩
 have V:∀{Q:Mem}(k:Nat) {a b c d e:afU},Q++List.replicate k .qK=[a,b,c,d,e]→(∃X,YO X∧[a,b,c,d,e]=CX X)→∃X k,YO X∧Q++List.replicate k .qK=CX X:=fun k _ _ _ _ _ e ⟨X,h1,h2⟩=>⟨X,k,h1,e.trans h2⟩
 unfold Sz;rcases tT x.kind with h | h | h | h | h
 ·simp only[h,if_true]
  rcases h3 with h3 | h3 | h3
  ·rw[h3]
   exact V 3 rfl (U _ _ _ _ _ (row (S _)) (row (dX _)) Z Z Z)
  ·rw[h3]
   exact V 1 rfl (U _ _ _ _ _ (row (S _)) (row (dX _)) ⟨rfl,fun k=>by simp only[afU.afP,AV.afV,R (b:=9) (by omega) k,Bool.and_true]⟩ (row (S _)) Z)
  ·rw[h3]
   exact V 0 rfl (U _ _ _ _ _ (row (S _)) (row (dX _)) ⟨rfl,fun k=>by simp only[afU.afP,AV.afV,R (b:=9) (by omega) k,R (b:=10) (by omega) k,Bool.and_true]⟩ (row (S _)) (row (S _)))
 ·simp only[h,Nat.one_ne_zero,if_false,show¬(1:Nat)=2 by decide]
  exact V 5 rfl (U _ _ _ _ _ Z Z Z Z Z)
 ·simp only[h,show¬(2:Nat)=0 by decide,if_false,if_true]
  exact V 4 rfl (U _ _ _ _ _ (row (iI _)) Z Z Z Z)
 ·simp only[h,show¬(3:Nat)=0 by decide,if_false,show¬(3:Nat)=2 by decide]
  exact V 5 rfl (U _ _ _ _ _ Z Z Z Z Z)
 ·simp only[h,show¬(4:Nat)=0 by decide,if_false,show¬(4:Nat)=2 by decide]
  exact V 5 rfl (U _ _ _ _ _ Z Z Z Z Z)
theorem Gw:(aG f5).map (fun o=>dm o.toList)=[[0,0,3,0,15,0,0,127,255],[0,0,0,0,0,28,63,127,255,255,0,1535,4095],[0,1,3,7,15,31,63,127,127,127,127,1919,4095,8191,16383,32767,65535,131071,262143,524287,1048575,2097151,4194303]]:=by kernel_rfl
theorem N4(s:af1)(hs:s.Ok)(C y:List AV)(hC:C.length=34)(Y:AV.afT C=true)(hl:y.length=32)(hck:∀x∈y,x.afR=true)(H d1 I d2 J d3:Int)(p:V3){X:Nat→afU}(hX:YO X)(W:∀i,AV.afV (fun b=>decide (b<11+i)) y=true)(hP:∀M,kO prog 9 [.agg [.int .i16 H,.int .u8 d1,.int .i16 I,.int .u8 d2,.int .i16 J,.int .u8 d3]] M (vA p) M)(hM:kO prog 8 [A6 s 3 4,.agg C,.str [110]] (lwM s C H d1 I d2 J d3) (.agg y) (lwM s C H d1 I d2 J d3++CX X))(hG:agS (lwM s C H d1 I d2 J d3++CX X) (A6 s 3 4) y p):
  kO prog 5 [s.av,.agg C,.agg [.int .i16 H,.int .u8 d1,.int .i16 I,.int .u8 d2,.int .i16 J,.int .u8 d3]] [] (.bool true) []:=by
 have hF:aS prog 5=some f5:=by kernel_rfl
 have r0:=eG Y;have o0:=gV Y;have pO:=fun f=>gV (ez s.P) f
 have tO:=fun f=>gV (ig s.T) f
 have w0:=fun i=>(hX i).1
 have wa:∀es cs,oY (.cells true es cs)=true:=fun _ _=>rfl
 have wb:oO .qK=true:=rfl;have v0:∀i,(X i).afP (fun b=>decide (b<11))=true:=fun i=>(hX i).2 0
 have v1:∀i,(X i).afP (fun b=>decide (b<12))=true:=fun i=>(hX i).2 1
 have v2:∀i,(X i).afP (fun b=>decide (b<13))=true:=fun i=>(hX i).2 2
 have v3:∀i,(X i).afP (fun b=>decide (b<14))=true:=fun i=>(hX i).2 3
 have N:AV.afV (fun b=>decide (b<11)) y=true:=W 0;have ev1:AV.afV (fun b=>decide (b<12)) y=true:=W 1;have K:AV.afV (fun b=>decide (b<13)) y=true:=W 2;have ev3:AV.afV (fun b=>decide (b<14)) y=true:=W 3;have G:AV.afV (fun b=>decide (b<15)) y=true:=W 4;have t34:C.take 34=C:=List.take_of_length_le (by omega);have t32:y.take 32=y:=List.take_of_length_le (by omega);have g1:y.all AV.afR=true:=List.all_eq_true.2 hck;obtain⟨n,S,w,q,⟨h1,h2⟩,⟨h3,h4⟩,h5⟩:=hG;obtain⟨L,V⟩:=xE (α:=List (FuncId×List AV×(Mem→Prop)×y9)) [(6,[],(fun _=>True),⟨.bool true,none,[]⟩),(7,[s.av],(fun M=>M.length=3),⟨A6 s 3 4,none,[.cells true 2 (pC s.P),.cells true 3 (tC s.T)]⟩),(8,[A6 s 3 4,.agg C,.str [110]],(fun M=>M=(lwM s C H d1 I d2 J d3)),⟨.agg y,none,CX X⟩),(9,[.agg [.int .i16 H,.int .u8 d1,.int .i16 I,.int .u8 d2,.int .i16 J,.int .u8 d3]],(fun _=>True),⟨vA p,none,[]⟩),(16,[A6 s 3 4,.agg y,vA p],(fun M=>∃Z,M=(lwM s C H d1 I d2 J d3++CX X)++Z),⟨.int .i64 n,none,[]⟩),(14,[A6 s 3 4,.agg y,.int .i64 n],(fun M=>∃Z,M=(lwM s C H d1 I d2 J d3++CX X)++Z),⟨.tuple [afA S w,.int .i64 0],none,[]⟩),(17,[afA S w,vA p],(fun _=>True),⟨.tuple [vA q,.int .i64 0],none,[]⟩),(18,[afA S w],(fun _=>True),⟨.tuple [.str [49],.int .i64 0],none,[]⟩),(12,[A6 s 3 4,.agg y,vA p,.bool false],(fun M=>∃Z,M=(lwM s C H d1 I d2 J d3++CX X)++Z),⟨vA q,none,[]⟩)];have hO:qS prog (fC L):=xp fun z F M U=>by
  rw[V] at F;simp only[lM] at F;rcases F with rfl | rfl | rfl | rfl | rfl | rfl | rfl | rfl | rfl
  ·exact bG (Nl M)
  ·have U:M.length=3:=U
   have:=Nn s hs M;rw[U] at this;exact aC this
  ·have U:M=_:=U
   rw[U];exact aC hM
  ·exact bG (hP M)
  ·obtain⟨Z,rfl⟩:=U
   exact bG (h1 Z)
  ·obtain⟨Z,rfl⟩:=U
   exact bG (h2 Z)
  ·exact bG (h3 M)
  ·exact bG (h4 M)
  ·obtain⟨Z,rfl⟩:=U
   exact bG (h5 Z)
 have e1:∀M,fC L (.fn 6) [] M=some ⟨.bool true,none,[]⟩:=fun M=>by rw[V];exact ed trivial
 have e2:∀M:Mem,M.length=3→fC L (.fn 7) [.agg [.int .u8 s.kind,.int .i8 s.sx,.int .i8 s.sy,.bool s.half]] M=some ⟨.agg [.slice 3 0 s.P.length none,.slice 4 0 s.T.length none],none,[.cells true 2 (pC s.P),.cells true 3 (tC s.T)]⟩:=fun M hM=>by rw[V,bd (.inl (by decide))];exact ed hM
 have e3:fC L (.fn 8) [.agg [.slice 3 0 s.P.length none,.slice 4 0 s.T.length none],.agg C,.str [110]] [.cells true 0 [.int .u8 s.kind,.int .i8 s.sx,.int .i8 s.sy,.bool s.half],.cells true 0 C,.cells true 0 [.int .i16 H,.int .u8 d1,.int .i16 I,.int .u8 d2,.int .i16 J,.int .u8 d3],.cells true 2 (pC s.P),.cells true 3 (tC s.T),.cells true 0 [.slice 3 0 s.P.length none,.slice 4 0 s.T.length none]]=some ⟨.agg y,none,[X 0,X 1,X 2,X 3,X 4]⟩:=by rw[V,bd (.inl (by decide)),bd (.inl (by decide))];exact ed rfl
 have e4:∀M,fC L (.fn 9) [.agg [.int .i16 H,.int .u8 d1,.int .i16 I,.int .u8 d2,.int .i16 J,.int .u8 d3]] M=some ⟨vA p,none,[]⟩:=fun M=>by rw[V,bd (.inl (by decide)),bd (.inl (by decide)),bd (.inl (by decide))];exact ed trivial
 have e5:∀Z,fC L (.fn 16) [.agg [.slice 3 0 s.P.length none,.slice 4 0 s.T.length none],.agg y,vA p] (.cells true 0 [.int .u8 s.kind,.int .i8 s.sx,.int .i8 s.sy,.bool s.half]::.cells true 0 C::.cells true 0 [.int .i16 H,.int .u8 d1,.int .i16 I,.int .u8 d2,.int .i16 J,.int .u8 d3]::.cells true 2 (pC s.P)::.cells true 3 (tC s.T)::.cells true 0 [.slice 3 0 s.P.length none,.slice 4 0 s.T.length none]::X 0::X 1::X 2::X 3::X 4::Z)=some ⟨.int .i64 n,none,[]⟩:=fun Z=>by rw[V,bd (.inl (by decide)),bd (.inl (by decide)),bd (.inl (by decide)),bd (.inl (by decide))];exact ed ⟨Z,rfl⟩
 have D:∀Z,fC L (.fn 14) [.agg [.slice 3 0 s.P.length none,.slice 4 0 s.T.length none],.agg y,.int .i64 n] (.cells true 0 [.int .u8 s.kind,.int .i8 s.sx,.int .i8 s.sy,.bool s.half]::.cells true 0 C::.cells true 0 [.int .i16 H,.int .u8 d1,.int .i16 I,.int .u8 d2,.int .i16 J,.int .u8 d3]::.cells true 2 (pC s.P)::.cells true 3 (tC s.T)::.cells true 0 [.slice 3 0 s.P.length none,.slice 4 0 s.T.length none]::X 0::X 1::X 2::X 3::X 4::Z)=some ⟨.tuple [afA S w,.int .i64 0],none,[]⟩:=fun Z=>by rw[V,bd (.inl (by decide)),bd (.inl (by decide)),bd (.inl (by decide)),bd (.inl (by decide)),bd (.inl (by decide))];exact ed ⟨Z,rfl⟩
 have B:∀M,fC L (.fn 17) [afA S w,vA p] M=some ⟨.tuple [vA q,.int .i64 0],none,[]⟩:=fun M=>by rw[V,bd (.inl (by decide)),bd (.inl (by decide)),bd (.inl (by decide)),bd (.inl (by decide)),bd (.inl (by decide)),bd (.inl (by decide))];exact ed trivial
 have u:∀M,fC L (.fn 18) [afA S w] M=some ⟨.tuple [.str [49],.int .i64 0],none,[]⟩:=fun M=>by rw[V,bd (.inl (by decide)),bd (.inl (by decide)),bd (.inl (by decide)),bd (.inl (by decide)),bd (.inl (by decide)),bd (.inl (by decide)),bd (.inl (by decide))];exact ed trivial
 have e9:∀Z,fC L (.fn 12) [.agg [.slice 3 0 s.P.length none,.slice 4 0 s.T.length none],.agg y,vA p,.bool false] (.cells true 0 [.int .u8 s.kind,.int .i8 s.sx,.int .i8 s.sy,.bool s.half]::.cells true 0 C::.cells true 0 [.int .i16 H,.int .u8 d1,.int .i16 I,.int .u8 d2,.int .i16 J,.int .u8 d3]::.cells true 2 (pC s.P)::.cells true 3 (tC s.T)::.cells true 0 [.slice 3 0 s.P.length none,.slice 4 0 s.T.length none]::X 0::X 1::X 2::X 3::X 4::Z)=some ⟨vA q,none,[]⟩:=fun Z=>by rw[V,bd (.inl (by decide)),bd (.inl (by decide)),bd (.inl (by decide)),bd (.inl (by decide)),bd (.inl (by decide)),bd (.inl (by decide)),bd (.inl (by decide)),bd (.inl (by decide))];exact ed ⟨Z,rfl⟩
 have eV:∀a b c,kU (bh prog) 20 54 (.agg [.str a,.str b,.str c]) (.agg [.str a,.str b,.str c])=some true:=fun a b c=>k9 (d:=18) a b c
 obtain⟨O,R⟩:=xE (fC L);rw[←R] at hO e1 e2 e3 e4 e5 D B u e9;clear R V h1 h2 h3 h4 h5 hM hP;unfold vA afA mC vL at*;simp only[List.cons_append,List.nil_append] at D B u;obtain⟨os,o⟩:∃os,aG f5=os:=⟨_,rfl⟩
 have PP:=cr o Gw;have k2:dH [0,1,3,7,15,31,63,127,127,127,127,1919,4095,8191,16383,32767,65535,131071,262143,524287,1048575,2097151,4194303] 22=true:=by decide
 simp only[aG,bQ,f5,lA] at o;subst o;simp only[lB] at PP;obtain⟨S',m,j⟩:=PP;have hr:∃Q,dV (bh prog) (fun _=>[]) (aS prog) O 1 5 [s.av,.agg C,.agg [.int .i16 H,.int .u8 d1,.int .i16 I,.int .u8 d2,.int .i16 J,.int .u8 d3]] []=some (.bool true,[]++Q):=by simp (maxSteps:=1000000) [-AV.afR,-AV.known,-List.all_eq_true,-afU.afP,vS,rS,dV,hF,f5,af1.av,e1,e2,e3,e4,e5,D,B,u,e9,eV,hC,o0,w0,wa,wb,v0,N,K,G,t34,t32,hl,g1,-aH,bE S',bE m,ak j,be,aV,aX,k2,dh,fG,O3,fJ,dw,dE,jQ,bef,Nat.testBit]
 obtain⟨Q,hr⟩:=hr;exact kO.forget rfl (dZ aj (aK _) hO (aR _) hr)
theorem Tryz.agS.pad{M:Mem}{mv:AV}{y:List AV}{p:V3}(h:agS M mv y p)(Z:Mem):agS (M++Z) mv y p:=by obtain⟨n,R,w,q,⟨X,V⟩,h3,U⟩:=h;exact⟨n,R,w,q,⟨fun Y=>by rw[List.append_assoc];exact X _,fun Y=>by rw[List.append_assoc];exact V _⟩,h3,fun Y=>by rw[List.append_assoc];exact U _⟩
theorem BH(s:af1)(hs:s.Ok)(x:afO)(y:x.Ok)(pl:Pl)(H:Zp pl):kO prog 5 [s.av,.agg x.cells,.agg (plC pl)] [] (.bool true) []:=by
 obtain⟨Q,N⟩:=ue s;obtain⟨M,Z⟩:=xE (lwM s x.cells pl.1.1 (pl.1.2:Int) pl.2.1.1 (pl.2.1.2:Int) pl.2.2.1 (pl.2.2.2:Int));have U:=IU x y s.P.length s.T.length Q N M 3 4 (by rw[Z];show 3<6;omega) (by rw[Z];show 4<6;omega);have S:=NY (x:=x) (s:=s) (M:=M) (p:=3) (t:=4) (o:=true) (o' :=true) (Za H) (by rw[Z];rfl) (by rw[Z];rfl);have V:=T8 x s.P.length Q M;have O:M.length=6:=by rw[Z];rfl
 rw[O] at U S V;obtain⟨X,k,L,e⟩:=Yb (x:=x) (n:=s.P.length);have U:=U.pad k;have S:=S.pad (List.replicate k .qK);have V:=V.more (List.replicate k .qK);rw[List.append_assoc,e] at U S V;have K:(M++CX X).length=11:=by rw[List.length_append,O];rfl
 have R:=fun i=>V.refs i
 rw[K] at R;subst Z;exact N4 s hs _ _ (afO.afW y) x.closed V.l32 V.cok _ _ _ _ _ _ _ L R (fun M=>Iz pl H M) U S
end Go.Proofs
