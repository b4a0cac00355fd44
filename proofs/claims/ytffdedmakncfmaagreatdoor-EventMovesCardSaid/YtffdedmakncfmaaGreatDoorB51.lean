/- See B54. -/
import Derived.Test.YtffdedmakncfmaaGreatDoorB50
import Derived.Test.YtffdedmakncfmaaGreatDoorB49
import Derived.Test.YtffdedmakncfmaaGreatDoorB47
import Derived.Test.YtffdedmakncfmaaGreatDoorB48
set_option linter.all false
set_option maxRecDepth 100000
set_option maxHeartbeats 40000000
namespace Go.Proofs
open Go.Eng
open Tryz
theorem WO{Q:List (Rat×Rat)}(h:∀(i:Nat) a b,Q[i]? =some a→Q[i+1]? =some b→a.1<b.1):asc Q:=by
 induction Q with
 |nil=>trivial
 |cons a l ih=>
  cases l with
  |nil=>trivial
  |cons b l=>exact⟨h 0 a b rfl rfl,ih fun i c d Z X=>h (i+1) c d Z X⟩
theorem WB(r:M3)(p c:V3):mH c (nK r (AQ p c))=mH (nK r p) (AQ c (nK r c)):=by unfold mH nK AQ gG;refine Prod.ext ?_ (Prod.ext ?_ ?_)<;>(simp only;grind)
section
variable {x y:AV}{M:Mem}
section
variable (cx:x.ae9=true∧y.ae9=true)
include cx
theorem xd{I:AV}(ck:I.ae9=true)(rk:∀k,I.ae6 (fun b=>decide (b<M.length+k))=true)(nm:List UInt8)(n v p:V3)(L:List P2)(H:Bool)(hd:TW n p){u w:Rat}(J:u=gG n p)(hV:∀Z,kO prog 37 [I,.str (aB u)] (M++Z) (.str (aB w)) (M++Z))(W:ga w)(Y:vG p)(gv:vG v)(fk:ga (sgB H*w))(gs:vG (wT v (sgB H*w))):
  kO prog 12 [.agg [x,y],.agg ((dX nm n L v).cells .qF .qF .qF I),vA p,.bool (!H)] M (vA (mH p (wT v (sgB H*w)))) M:=by
 have o:aT prog 12=some f12:=by kernel_rfl
 obtain⟨c1,c2⟩:=cx;have O:ga (sgB H):=by cases H;exact Sy;exact GF
 have K:aB (sgB H)=sgT H:=by cases H<;>decide +kernel
 have R:=fun M=>tH n p hd M
 rw[←J] at R;have U:=fun M=>xf (sgB H) w O W M
 rw[K] at U;have S:=fun M=>nW v (sgB H*w) gv fk M
 have X:=fun M=>nU p _ Y gs M
 obtain⟨k,G⟩:=xE (sgB H*w);rw[←G] at U S X ⊢;obtain⟨e,V⟩:=xE (wT v k);rw[←V] at S X ⊢;obtain⟨q,F⟩:=xE (mH p e);rw[←F] at X ⊢;have D:qS prog (ae3.or (er 37 [I,.str (aB u)] (.str (aB w)) (fun N=>∃Z,N=M++Z)) (af (cU [(38,[vA n,vA p],.str (aB u)),(36,[.str (sgT H),.str (aB w)],.str (aB k)),(29,[vA v,.str (aB k)],vA e),(35,[vA p,vA e],vA q)]))):=
  qS.or (fI fun N ⟨Z,hZ⟩=>by subst hZ;exact hV Z) (dK fun e V M=>by
   simp only[lM] at V;rcases V with rfl | rfl | rfl | rfl
   ·exact R M
   ·exact U M
   ·exact S M
   ·exact X M)
 clear R U S X hd hV W Y gv gs O fk G V F K J;obtain⟨C,Q⟩:∃C,aJ f12=C:=⟨_,rfl⟩
 have B:=cw Q qY;have m:dS [0,0,2,6,0,0,32,96,0,256,768,0,3840,8160,16368,32766,65535,131071] 17=true:=by decide
 simp only[aJ,bU,f12,lA] at Q;subst Q;simp only[lB] at B;obtain⟨-,j,-⟩:=B;have h:aa (ba prog) (fun _=>[]) (aT prog) (ae3.or (er 37 [I,.str (aB u)] (.str (aB w)) (fun N=>∃Z,N=M++Z)) (af (cU [(38,[vA n,vA p],.str (aB u)),(36,[.str (sgT H),.str (aB w)],.str (aB k)),(29,[vA v,.str (aB k)],vA e),(35,[vA p,vA e],vA q)]))) 1 12 [.agg [x,y],.agg ((dX nm n L v).cells .qF .qF .qF I),vA p,.bool (!H)] M=some ⟨vA q,none,[]⟩:=by
  clear D;have Zz:∀s,(AV.str s).ae9=true:=fun _=>rfl
  have hci:∀k n,(AV.int k n).ae9=true:=fun _ _=>rfl
  have hcn:AV.qF.ae9=true:=rfl;cases H<;>simp[-getElem?_pos,-AV.ae9,-AV.known,-AV.cells,-kq,-List.all_eq_true,Zz,vS,rS,mS,-cc,-bQ,-AV.ae6,-afb.ae6,aa,o,f12,ae3.or,er,af,cU,dX,Evc.cells,vA,rk,sgT,-aK,aq j,bm,aZ,bl,m,Nat.testBit]
 have:=(ar aj (aI _) D (aP _) h).1;simpa [y9.mem] using this
theorem xe(nm:List UInt8){t:I4}(J:tLe 20 t)(hz:¬yw t)(c p:V3)(H:Bool)(W:vG p)(I:vG c)(Y:XV (zb (km t H)) (AQ p c))(ge:vG (nK (zb (km t H)) (AQ p c))):
  kO prog 12 [.agg [x,y],.agg ((gf nm t c).cells .qF .qF .qF .qF),vA p,.bool (!H)] M (vA (mH c (nK (zb (km t H)) (AQ p c)))) M:=by
 have D:aT prog 12=some f12:=by kernel_rfl
 obtain⟨c1,c2⟩:=cx;have U:=fun M=>Hu (wM J H) (wN hz H) M
 have S:=fun M=>MD p c W I M
 have X:=fun M=>Hq _ _ Y M
 have Z:=fun M=>nU c _ I ge M
 obtain⟨r,O⟩:=xE (zb (km t H));rw[←O] at U X Z ⊢;obtain⟨d,N⟩:=xE (AQ p c);rw[←N] at S X Z ⊢;obtain⟨e,V⟩:=xE (nK r d);rw[←V] at X Z ⊢;obtain⟨q,L⟩:=xE (mH c e);rw[←L] at Z ⊢;have K:qS prog (af (cU [(40,[tA (km t H)],.agg (mC r)),(41,[vA p,vA c],vA d),(39,[.agg (mC r),vA d],vA e),(35,[vA c,vA e],vA q)])):=dK fun e V M=>by
  simp only[lM] at V;rcases V with rfl | rfl | rfl | rfl
  ·exact U M
  ·exact S M
  ·exact X M
  ·exact Z M
 clear U S X Z W I Y ge O N V L hz;obtain⟨t1,t2,t3,t4⟩:=t;obtain⟨C,B,u,o⟩:=J;simp only at C B u o;have m:IntKind.i64.wrap (-t2)= -t2:=by rw[ae]
 have j:IntKind.i64.wrap (-t3)= -t3:=by rw[ae]
 have n4:IntKind.i64.wrap (-t4)= -t4:=by rw[ae]
 obtain⟨G,R⟩:∃G,aJ f12=G:=⟨_,rfl⟩
 have F:=cw R qY;have k0:dS [0,1,3,0,8,0,0,64,192,504,1016,2047,4095] 12=true:=by decide
 simp only[aJ,bU,f12,lA] at R;subst R;simp only[lB] at F;obtain⟨-,-,H'⟩:=F;have h:aa (ba prog) (fun _=>[]) (aT prog) (af (cU [(40,[tA (km (t1,t2,t3,t4) H)],.agg (mC r)),(41,[vA p,vA c],vA d),(39,[.agg (mC r),vA d],vA e),(35,[vA c,vA e],vA q)])) 1 12 [.agg [x,y],.agg ((gf nm (t1,t2,t3,t4) c).cells .qF .qF .qF .qF),vA p,.bool (!H)] M=some ⟨vA q,none,[]⟩:=by
  clear K;have Zz:∀s,(AV.str s).ae9=true:=fun _=>rfl
  have Q:∀k n,(AV.int k n).ae9=true:=fun _ _=>rfl
  have hcn:AV.qF.ae9=true:=rfl;cases H<;>simp[-getElem?_pos,-AV.ae9,-AV.known,-AV.cells,-kq,-List.all_eq_true,Zz,Q,vS,rS,mS,-cc,-bQ,-AV.ae6,-afb.ae6,aa,D,f12,af,cU,gf,Evc.cells,vA,mC,tA,km,m,j,n4,bW,-aK,aq H',bm,aZ,bl,k0,Nat.testBit]
 have:=(ar aj (aI _) K (aP _) h).1;simpa [y9.mem] using this
end
end
def fl(M:Mem)(y:AV)(H:List AV)(p:V3):Prop:=
 ∃X V:V3,((∀Z,kO prog 10 [y,.agg H,vA p] (M++Z) (.tuple [vA X,.int .i64 0]) (M++Z))∧∀Z,kO prog 11 [y,.agg H,vA p] (M++Z) (.tuple [vA V,.int .i64 0]) (M++Z))∧
  (∀Z,kO prog 12 [y,.agg H,vA p,.bool false] (M++Z) (vA X) (M++Z))∧∀Z,kO prog 12 [y,.agg H,vA p,.bool true] (M++Z) (vA V) (M++Z)
theorem ky{M:Mem}{s:afh}{p t:Nat}{y:List AV}{c:Evc}{v:V3}(H:af7 M y c){q:Bool→V3}(J:∀X Z,kO prog 34 [kj s p t,.agg y,vA v,.str (sgT X)] (M++Z) (.tuple [vA (q X),.int .i64 0]) (M++Z))(I:∀X Z,kO prog 12 [kj s p t,.agg y,vA v,.bool (!X)] (M++Z) (vA (q X)) (M++Z)):fl M (kj s p t) y v:=by
 have k:∀X Z,∀V,kO prog 34 [kj s p t,.agg y,vA v,.str (sgT X)] ((M++Z)++V) (.tuple [vA (q X),.int .i64 0]) ((M++Z)++V):=fun X Z V =>by rw[List.append_assoc];exact J X (Z++V)
 exact⟨q true,q false,⟨fun Z=>AW (M:=M++Z) ⟨_,_,rfl,rfl,rfl⟩ H.l32 H.cok true (k true Z),fun Z=>AW (M:=M++Z) ⟨_,_,rfl,rfl,rfl⟩ H.l32 H.cok false (k false Z)⟩,fun Z=>I true Z,fun Z=>I false Z⟩
theorem ckz{P:Program}{f:FuncId}{a:List AV}{M:Mem}{v:AV}(h:∀Z,kO P f a (M++Z) v (M++Z))(Z:Mem):∀X,kO P f a ((M++Z)++X) v ((M++Z)++X):=fun X =>by rw[List.append_assoc];exact h _
variable{Q:List (Rat×Rat)}{a:V3}{k m n:Nat}{q u:Rat}
section
variable {x:ae4}{s:afh}{M:Mem}{p t:Nat}{o o' :Bool}{ev:List AV}{v:V3}
theorem Sp{b:V3}(y:vDg n a)(H:vDg m b)(hk:5*(n+m)+10≤k):dg k k (gG a b):=(G6 y H).mono hk hk
theorem LU(y:Bool):dg 1 1 (sgB y):=by cases y<;>exact⟨by decide,by decide⟩
theorem Ph{e:V3}(y:vDg k e)(H:vDg n a)(hq:dg m m q):vDg (k+n+m+5) (mH e (wT a q)):=by
 have f:∀{p r:Rat},dg k k p→dg n n r→dg (k+n+m+5) (k+n+m+5) (p+r*q):=fun Z h=>(nd Z (il h hq) (m:=k+n+m) (by omega) (by omega)).mono (by omega) (by omega)
 exact⟨f y.1 H.1,f y.2.1 H.2.1,f y.2.2 H.2.2⟩
theorem TO(y:vDg n a)(hq:dg m m q):vDg (n+m) (wT a q):=⟨il y.1 hq,il y.2.1 hq,il y.2.2 hq⟩
theorem EU{p v:V3}{k:Rat}{l:Nat}(y:vDg n p)(H:vDg m v)(hk:dg l l k)(h0:0<n)(h1:0<m)(h2:0<l)(h3:n+m+l≤40000):LB p v k:=by
 obtain⟨Z,X,V⟩:=H;have f:∀{q:Rat},dg m m q→iK (k*q):=fun h=>cY (il hk h) (by omega) (by omega) (by omega) (by omega)
 exact⟨⟨L4 y h0 (by omega),L4 ⟨Z,X,V⟩ h1 (by omega),rp hk h2 (by omega)⟩,f Z,f X,f V⟩
theorem J5(h:x.kind%5=1)(y:vDg 5 v)(I:M[p]? =some (.cells o 2 (pC s.P)))(J:M[t]? =some (.cells o' 3 (tC s.T)))(H:af7 M ev (cSk x s.P.length)):fl M (kj s p t) ev v:=by
 have V:=vt s x;rw[Xu h] at H V;obtain⟨b,u,G,F,rfl,N,L,h3,K⟩:=id H;obtain rfl:=N.agb rfl;obtain rfl:=L.agb rfl;obtain rfl:=h3.agb rfl;obtain rfl:=K.agb rfl;have S:=Rs (sM x) (k:=1) (by decide) (by decide);have U:=WZ (BQ x) (k:=3) (by decide) (by decide);have R:=NO (z:=gZ (x.n 6)) (k:=1) (by have:=dq (x.n 6);omega) (by decide);have O:=Sp (k:=40) S y (by omega);have ck:∀Z,kO prog 83 [kj s p t,.agg ((cB [110] (zQ (fz x)) (hQ (gZ (x.n 6))) (hV (Ae x))).cells .qF .qF .qF .qF)] (M++Z) (.int .i64 0) (M++Z):=fun Z=>V _ p t o o' _ (fj I Z) (fj J Z) (H.more Z)
 refine ky H (q:=fun X=>Cq (zQ (fz x)) (hQ (gZ (x.n 6))) (hV (Ae x)) X v) (fun X Z=>?_) (fun X Z=>?_)
 ·refine xa (M:=M++Z) (ON (fj I Z)) (ON (fj J Z)) [110] _ _ _ X v ⟨wS (y.mono (by omega)),mj (S.mono (m:=5) (by omega)) y (by omega) (by omega),rp O (by omega) (by omega),rp R (by omega) (by omega),EU y U (LU X) (by omega) (by omega) (by omega) (by omega),wS ((Ph y U (LU X)).mono (by omega))⟩ (ckz ck Z)
 ·exact vi ⟨rfl,rfl⟩ [110] _ _ _ v X (B7 (S.mono (m:=5) (by omega)) y (by omega) (by omega)) (ml O (by omega) (by omega)) (ml R (by omega) (by omega)) (Db y (by omega) (by omega)) (Db U (by omega) (by omega)) (Db (TO U (LU X)) (by omega) (by omega))
theorem pT(hk:x.kind%5=0∨x.kind%5=3)(H:vDg 5 v)(I:M[p]? =some (.cells o 2 (pC s.P)))(J:M[t]? =some (.cells o' 3 (tC s.T)))(y:af7 M ev (cSk x s.P.length)):fl M (kj s p t) ev v:=by
 have U:=vt s x;have ck:∀Z,kO prog 83 [kj s p t,.agg ev] (M++Z) (.int .i64 0) (M++Z):=fun Z=>U _ p t o o' _ (fj I Z) (fj J Z) (y.more Z)
 have X :(cSk x s.P.length).k=1∨(cSk x s.P.length).k=4:=by
  rcases hk with h | h
  ·rw[Xt h];exact .inl rfl
  ·rw[Xw h];exact .inr rfl
 obtain⟨c,K⟩:=xE (cSk x s.P.length);rw[←K] at y X;obtain⟨b,u,S,G,rfl,R,O,h3,N⟩:=id y;have L:S.ae9=true:=by obtain⟨_,_,h,_⟩:=h3;exact h.ck
 refine ky y (q:=fun _=>v) (fun V Z=>?_) (fun V Z=>?_)
 ·exact xc (M:=M++Z) c X b u S G R.ck O.ck L N.ck ⟨_,_,rfl,rfl,rfl⟩ V v (wS (H.mono (by omega))) (ckz ck Z)
 ·exact vj ⟨rfl,rfl⟩ c X R.ck O.ck L N.ck V v
theorem J7(h:x.kind%5=4)(y:vDg 5 v)(I:M[p]? =some (.cells o 2 (pC s.P)))(J:M[t]? =some (.cells o' 3 (tC s.T)))(H:af7 M ev (cSk x s.P.length)):fl M (kj s p t) ev v:=by
 have V:=vt s x;rw[Xx h] at H V;obtain⟨b,u,D,C,rfl,N,L,h3,K⟩:=id H;obtain rfl:=N.agb rfl;obtain rfl:=L.agb rfl;obtain rfl:=h3.agb rfl;obtain rfl:=K.agb rfl;have U:=Rs (sM x) (k:=1) (by decide) (by decide);have ck:∀Z,kO prog 83 [kj s p t,.agg ((gf [110] (sX x) (zQ (fz x))).cells .qF .qF .qF .qF)] (M++Z) (.int .i64 0) (M++Z):=fun Z=>V _ p t o o' _ (fj I Z) (fj J Z) (H.more Z)
 have rd:∀X,vDg 4 (zb (km (sX x) X)).1∧vDg 4 (zb (km (sX x) X)).2.1∧vDg 4 (zb (km (sX x) X)).2.2:=fun X=>TA (wM (AN x) X) (wN (AO x) X)
 have S:=Ou y U;refine ky H (q:=fun X=>mH (zQ (fz x)) (nK (zb (km (sX x) X)) (AQ v (zQ (fz x))))) (fun X Z=>?_) (fun X Z=>?_)
 ·have O:=GJ (rd X) y
  have G:=GJ (rd X) U;have R:=Ou U G;have r:=rd X;simp only[WB];refine zo (M:=M++Z) [110] (AN x) (AO x) (U.mono (by omega)) X v (wS (y.mono (by omega))) ?_ (ckz ck Z);exact⟨⟨wS (r.1.mono (by omega)),wS (r.2.1.mono (by omega)),wS (r.2.2.mono (by omega)),wS (R.mono (by omega))⟩,wS (y.mono (by omega)),⟨mj (r.1.mono (m:=5) (by omega)) y (by omega) (by omega),mj (r.2.1.mono (m:=5) (by omega)) y (by omega) (by omega),mj (r.2.2.mono (m:=5) (by omega)) y (by omega) (by omega)⟩,⟨L4 O (by omega) (by omega),L4 R (by omega) (by omega)⟩,wS ((WG O R).mono (by omega))⟩
 ·have r:=rd X
  have F:=GJ r S;exact xe ⟨rfl,rfl⟩ [110] (AN x) (AO x) _ v X (Db y (by omega) (by omega)) (Db U (by omega) (by omega)) ⟨B7 (r.1.mono (m:=8) (by omega)) (S.mono (by omega)) (by omega) (by omega),B7 (r.2.1.mono (m:=8) (by omega)) (S.mono (by omega)) (by omega) (by omega),B7 (r.2.2.mono (m:=8) (by omega)) (S.mono (by omega)) (by omega) (by omega)⟩ (Db F (by omega) (by omega))
theorem ND(h:WH Q u){M:Mem}{b:Nat}{o:Bool}(y:M[b]? =some (.cells o 2 (kC (kT Q)))):
  kO prog 37 [.slice b 0 Q.length none,.str (aB u)] M (.str (aB (gh Q u))) M:=by
 rw[Rl h.2.2.1];exact kO.agz (rest:=[.str (aB u)]) (jZ _) rfl rfl (Dw Q u h) ⟨b,o,_,rfl,y,List.take_length⟩
theorem TQ(h:VF 2 Q)(y:dg 40 40 u):dg 123 123 (gh Q u):=by obtain⟨Z,X⟩:=Vc h (yf Q u);have m:=il X y;exact(nd Z m (m:=122) (by omega) (by omega)).mono (by omega) (by omega)
theorem J6(h:x.kind%5=2)(y:vDg 5 v)(I:M[p]? =some (.cells o 2 (pC s.P)))(J:M[t]? =some (.cells o' 3 (tC s.T)))(H:af7 M ev (cSk x s.P.length)):fl M (kj s p t) ev v:=by
 have S:=vt s x;rw[Xv h] at H S;have hc:=wh x;have V:(x.afu (ctM x)).length=ctM x:=ae4.afG x _;have U:VF 2 (x.afu (ctM x)):=fun q L=>Lf (by omega) L
 have R:VF 40 (x.afu (ctM x)):=fun q L=>⟨(U q L).1.mono (by decide),(U q L).2.mono (by decide)⟩
 have F:asc (x.afu (ctM x)):=WO fun i a b D C=>GI D C
 obtain⟨b,u,sv,kn,rfl,h1,h2,h3,W⟩:=id H;obtain rfl:=h1.agb rfl;obtain rfl:=h2.agb rfl;obtain rfl:=h3.agb rfl;have e1:(dX [110] (zQ (fz x)) (x.afu (ctM x)) (zQ (Ae x))).K.length=ctM x:=by show(kT _).length=_;rw[eh,V]
 rw[e1] at W;obtain⟨kb,ko,rfl,O⟩:=W.pos (by omega);have O:M[kb]? =some (.cells ko 2 (kC (kT (x.afu (ctM x))))):=O;have B:=Rs (sM x) (k:=1) (by decide) (by decide);have G:=Rs (BQ x) (k:=3) (by decide) (by decide);have j:=Sp (k:=40) B y (by omega);have Y:=TQ U j;have kd:=fun X=>il (LU X) Y
 refine ky H (q:=fun X=>Vd (zQ (fz x)) (x.afu (ctM x)) (zQ (Ae x)) X v) (fun X Z=>?_) (fun X Z=>?_)
 ·have:=zn (M:=M++Z) s [110] (zQ (fz x)) (x.afu (ctM x)) (zQ (Ae x)) X v ⟨wS (y.mono (by omega)),mj (B.mono (m:=5) (by omega)) y (by omega) (by omega),⟨R,by rw[V];omega,fun i a b D C=>Va D C⟩,j,rp Y (by omega) (by omega),rp (LU X) (by omega) (by omega),EU y G (kd X) (by omega) (by omega) (by omega) (by omega),wS ((Ph y G (kd X)).mono (by omega))⟩ (by rw[V];omega) (by rw[V];omega) S (fj I Z) (fj J Z) (fj O Z)
  rw[V] at this;exact this
 ·have N:=fun Z' =>ND (Q:=x.afu (ctM x)) (u:=gG (zQ (fz x)) v) ⟨R,j,F,by rw[V];omega⟩ (fj (fj O Z) Z')
  rw[V] at N;have kl:=ON (fj O Z);exact xd (M:=M++Z) ⟨rfl,rfl⟩ rfl (fun k=>by simp only[AV.ae6,decide_eq_true_eq];omega) [110] _ _ v _ X (B7 (B.mono (m:=5) (by omega)) y (by omega) (by omega)) rfl N (ml Y (by omega) (by omega)) (Db y (by omega) (by omega)) (Db G (by omega) (by omega)) (ml (kd X) (by omega) (by omega)) (Db (TO G (kd X)) (by omega) (by omega))
theorem Nj(I:vDg 5 v)(y:M[p]? =some (.cells o 2 (pC s.P)))(H:M[t]? =some (.cells o' 3 (tC s.T))):fl (M++Ru M.length x s.P.length) (kj s p t) (We M.length x s.P.length) v:=by
 have Z:=Sv x s.P.length (yn s).1 M;have y:=fj y (Ru M.length x s.P.length);have H:=fj H (Ru M.length x s.P.length);rcases sH x.kind with h | h | h | h | h
 ·exact pT (.inl h) I y H Z
 ·exact J5 h I y H Z
 ·exact J6 h I y H Z
 ·exact pT (.inr h) I y H Z
 ·exact J7 h I y H Z
end
end Go.Proofs
