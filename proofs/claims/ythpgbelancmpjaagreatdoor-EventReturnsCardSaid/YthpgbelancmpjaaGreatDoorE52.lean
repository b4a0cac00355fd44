/- See E54. -/
import Derived.Test.YthpgbelancmpjaaGreatDoorE51
set_option linter.all false
set_option maxRecDepth 100000
set_option maxHeartbeats 40000000
namespace Go.Proofs
open Go.Eng
open Tryz
variable{Z:List Int}
theorem Sz{i:Nat}(h:i<Z.length):(qH Z)[i]? =some ((qH Z).getD i 0):=by
 unfold qH;obtain⟨z,X⟩:∃z,Z[i]? =some z:=⟨_,List.getElem?_eq_getElem h⟩
 simp[List.getD,List.getElem?_map,X]
def hOk(s:aeo)(Z:List Int):Prop:=Z.length=s.P.length∧∀z∈Z,z.natAbs<1000
theorem l9(h:∀z∈Z,z.natAbs<1000)(i:Nat):dg 4 4 ((qH Z).getD i 0):=by
 by_cases X:i<Z.length
 ·exact Xk h _ (List.mem_of_getElem? (Sz X))
 ·have:(qH Z).getD i 0=0:=by simp[qH,List.getD,List.getElem?_eq_none (show Z.length≤i by omega)]
  rw[this];exact XE.mono (by decide) (by decide)
theorem Xe:dg 1 1 (1:Rat):=⟨by decide,by decide⟩
variable{f g h:Rat}{m n:Nat}
theorem SS{A B C:P2}(H:pDg n A)(I:pDg n B)(J:pDg n C)(hf:dg m m f)(hg:dg m m g)(W:dg m m h)(hS:cN A B C≠0):dg (12*n+4*m+15) (12*n+4*m+15) (slX A B C f g h).1∧dg (12*n+4*m+15) (12*n+4*m+15) (slX A B C f g h).2:=by
 have i:=Vb Xe (FE H I J) hS;have k:∀{x y z w:Rat},dg (2*m+1) (2*m+1) x→dg (2*n+1) (2*n+1) y→dg (2*n+1) (2*n+1) z→dg (2*m+1) (2*m+1) w→dg (4*n+4*m+5) (4*n+4*m+5) (x*y-z*w):=fun X V h3 U=>(ur (dE X V) (dE h3 U)).mono (by omega) (by omega)
 have d:∀{x y:Rat},dg n n x→dg n n y→dg (2*n+1) (2*n+1) (x-y):=fun X V=>(ur X V).mono (by omega) (by omega)
 have e:∀{x y:Rat},dg m m x→dg m m y→dg (2*m+1) (2*m+1) (x-y):=fun X V=>(ur X V).mono (by omega) (by omega)
 have S:dg (4*n+4*m+5) (4*n+4*m+5) ((B.1-A.1)*(h-f)-(g-f)*(C.1-A.1)):=(ur (dE (d I.1 H.1) (e W hf)) (dE (e hg hf) (d J.1 H.1))).mono (by omega) (by omega);exact⟨(dE i (k (e hg hf) (d J.2 H.2) (d I.2 H.2) (e W hf))).mono (by omega) (by omega),(dE i S).mono (by omega) (by omega)⟩
theorem V9{A B C:P2}(h0:0<n)(h1:0<m)(h2:12*n+4*m+15≤200)(H:pDg n A)(I:pDg n B)(J:pDg n C)(hf:dg m m f)(hg:dg m m g)(W:dg m m h)(hS:cN A B C≠0):agE A B C f g h:=by
 have F:∀{k:Nat}{z:Rat},dg k k z→0<k→k≤40000→dc z:=fun h a b=>fe h a b
 have d:∀{x y:Rat},dg n n x→dg n n y→dg (2*n+1) (2*n+1) (x-y):=fun h1 h2=>(ur h1 h2).mono (by omega) (by omega)
 have e:∀{x y:Rat},dg m m x→dg m m y→dg (2*m+1) (2*m+1) (x-y):=fun h1 h2=>(ur h1 h2).mono (by omega) (by omega)
 have i:=Vb Xe (FE H I J) hS;obtain⟨X,V⟩:=SS H I J hf hg W hS;have X:=X.mono (n' :=200) (d' :=200) h2 h2;have V:=V.mono (n' :=200) (d' :=200) h2 h2;refine⟨⟨F H.1 h0 (by omega),F H.2 h0 (by omega)⟩,⟨F I.1 h0 (by omega),F I.2 h0 (by omega)⟩,⟨F J.1 h0 (by omega),F J.2 h0 (by omega)⟩,⟨F hf h1 (by omega),F hg h1 (by omega),F W h1 (by omega)⟩,
  ⟨⟨F (d I.1 H.1) (by omega) (by omega),F (d I.2 H.2) (by omega) (by omega)⟩,F (d J.1 H.1) (by omega) (by omega),F (d J.2 H.2) (by omega) (by omega)⟩,
  ⟨F (e hg hf) (by omega) (by omega),F (e W hf) (by omega) (by omega)⟩,
  ⟨F (dE (d I.1 H.1) (d J.2 H.2)) (by omega) (by omega),F (dE (d I.2 H.2) (d J.1 H.1)) (by omega) (by omega)⟩,
  ⟨F (dE (e hg hf) (d J.2 H.2)) (by omega) (by omega),F (dE (d I.2 H.2) (e W hf)) (by omega) (by omega)⟩,
  ⟨F (dE (d I.1 H.1) (e W hf)) (by omega) (by omega),F (dE (e hg hf) (d J.1 H.1)) (by omega) (by omega)⟩,
  ⟨F (FE H I J) (by omega) (by omega),hS⟩,
  ⟨F (ur (dE (e hg hf) (d J.2 H.2)) (dE (d I.2 H.2) (e W hf))) (by omega) (by omega),F (ur (dE (d I.1 H.1) (e W hf)) (dE (e hg hf) (d J.1 H.1))) (by omega) (by omega)⟩,
  F (i.mono (n' :=8*n+6) (d' :=8*n+6) (by omega) (by omega)) (by omega) (by omega),?_,iM X (by omega) (by omega),iM V (by omega) (by omega)⟩
 simp[sP,gm X,gm V]
theorem Sj{A B C:P2}(H:pDg 5 A)(I:pDg 5 B)(J:pDg 5 C)(hf:dg 4 4 f)(hg:dg 4 4 g)(W:dg 4 4 h)(hS:cN A B C≠0):vDg 91 (UJ A B C f g h):=by obtain⟨X,V⟩:=SS H I J hf hg W hS;exact⟨Rw (X.mono (by omega) (by omega)),Rw (V.mono (by omega) (by omega)),Xe.mono (by omega) (by omega)⟩
def rZ(s:aeo)(pb tb j:Nat)(A B C:P2)(t:Tr)(c:Go.Eng.Callee)(a:List AV)(N:Mem)(r:aee):Prop:=
 (∃(X:Nat) (Z:List Int),c=.fn 236∧a=[.agg [.slice pb 0 s.P.length none,.slice tb 0 s.T.length none],.slice X 0 (qH Z).length none,.int .i64 (j:Int)]∧(∃o,N[X]? =some (.cells o 1 (qC (qH Z))))∧(∃o,N[pb]? =some (.cells o 2 (pC s.P)))∧(∃o,N[tb]? =some (.cells o 3 (tC s.T)))∧hOk s Z∧r=⟨.tuple [vA (F8 A B C t (qH Z)).1,.int .i64 0],none,[]⟩)∨
 (∃x y:V3,c=.fn 113∧a=[vA x,vA y]∧kM x y∧r=⟨.str (aj (dj x y)),none,[]⟩)
theorem W1{x y:V3}(h:vA x=vA y):x=y:=by unfold vA at h;simp only[AV.agg.injEq,List.cons.injEq,AV.str.injEq,and_true] at h;exact Prod.ext (gJ h.1) (Prod.ext (gJ h.2.1) (gJ h.2.2))
variable{Ys:List (List Int)}
section
variable {s:aeo}{pb tb j:Nat}{A B C:P2}{t:Tr}
theorem yv{c:Go.Eng.Callee}{a:List AV}{N:Mem}{r r' :aee}(h:rZ s pb tb j A B C t c a N r)(h' :rZ s pb tb j A B C t c a N r'):r' =r:=by
 rcases h with⟨R,Z,rfl,rfl,⟨o,U⟩,_,_,_,rfl⟩ | ⟨x,y,rfl,rfl,_,rfl⟩
 ·rcases h' with⟨X,S,_,e,⟨O,V⟩,_,_,_,rfl⟩ | ⟨x,y,e,_⟩
  ·simp only[List.cons.injEq,AV.slice.injEq,true_and,and_true] at e
   obtain⟨rfl,_⟩:=e;rw[U] at V;simp only[Option.some.injEq,aek.cells.injEq,true_and] at V;have:=V.2;rw[WU this]
  ·cases e
 ·rcases h' with⟨X,S,e,_⟩ | ⟨M,L,_,e,_,rfl⟩
  ·cases e
  ·simp only[List.cons.injEq,and_true] at e
   rw[W1 e.1,W1 e.2]
theorem Mt(W:s.P.length≤1000)(Y:s.T[j]? =some t)(H:s.P[t.1]? =some A)(I:s.P[t.2.1]? =some B)(J:s.P[t.2.2]? =some C)(hS:0<cN A B C):qS prog (wo (rZ s pb tb j A B C t)):=wq fun c a N r h=>by
 rcases h with⟨F,Z,rfl,rfl,⟨o,V⟩,⟨D,M⟩,⟨u,h3⟩,⟨L,X⟩,rfl⟩ | ⟨x,y,rfl,rfl,V,rfl⟩
 ·have a1:=gL H
  have a2:=gL I;have a3:=gL J;have U:cN A B C≠0:=by grind
  obtain⟨S,R,O⟩:pDg 5 A∧pDg 5 B∧pDg 5 C:=⟨ij s (List.mem_of_getElem? H),ij s (List.mem_of_getElem? I),ij s (List.mem_of_getElem? J)⟩;obtain⟨K,G⟩:=SS S R O (l9 X t.1) (l9 X t.2.1) (l9 X t.2.2) U;have:=Eo W X L Y H I J (Sz (by omega)) (Sz (by omega)) (Sz (by omega)) ⟨fe K (by omega) (by omega),fe G (by omega) (by omega)⟩ (V9 (by omega) (by omega) (by omega) S R O (l9 X t.1) (l9 X t.2.1) (l9 X t.2.2) U) M h3 V;exact aC (by simpa [F8] using this)
 ·exact aW (Dt x y V N)
theorem AR{O:y9}{M0:Mem}{bm fr:Nat}{F:List AV}(H:O=wo (rZ s pb tb j A B C t))(I:∀Y∈Z::Ys,hOk s Y)(J:Ys.length≤2)(hi:s.T[j]? =some t)(hA:s.P[t.1]? =some A)(W:s.P[t.2.1]? =some B)(hC:s.P[t.2.2]? =some C)(hS:0<cN A B C)(m:M0[bm]? =some (.cells true 0 [.slice pb 0 s.P.length none,.slice tb 0 s.T.length none]))(r:∃o,M0[fr]? =some (.cells o 1 F))(p:∃o,M0[pb]? =some (.cells o 2 (pC s.P)))(tt:∃o,M0[tb]? =some (.cells o 3 (tC s.T)))(hl:F.length=Ys.length+1)(hF:∀(i:Nat) Y,(Z::Ys)[i]? =some Y→∃fb o,F[i]? =some (.slice fb 0 (qH Y).length none)∧M0[fb]? =some (.cells o 1 (qC (qH Y)))):
  agz O M0 (.fn 236) (.fn 113) bm fr pb tb j s.P s.T t A F (((Z::Ys).map qH).map (F8 A B C t)) where
 m:=m
 r:=r
 l:=⟨by simpa using hl,by simp;omega⟩
 pp:=p
 tt:=tt
 hi:=hi
 hA:=hA
 f:=fun i x L=>by
  rw[List.map_map,List.getElem?_map] at L;obtain⟨Y,K,rfl⟩:=Option.map_eq_some_iff.1 L;obtain⟨fb,o,f1,f2⟩:=hF i Y K;have U:=List.mem_of_getElem? K;obtain⟨R,X⟩:=I Y U;have a1:=gL hA;have N:∀{b:Nat}{S:aek}(V:Mem),M0[b]? =some S→(M0++V)[b]? =some S:=fun {b S} V hb=>gU hb _
  obtain⟨G,p⟩:=p;obtain⟨D,tt⟩:=tt;refine⟨fb,o,qH Y,(qH Y).getD t.1 0,f1,f2,Sz (by omega),fun V=>?_,fun V=>?_⟩
  ·have x:rZ s pb tb j A B C t (.fn 236) [.agg [.slice pb 0 s.P.length none,.slice tb 0 s.T.length none],.slice fb 0 (qH Y).length none,.int .i64 (j:Int)] (M0++V) ⟨.tuple [vA (F8 A B C t (qH Y)).1,.int .i64 0],none,[]⟩:=.inl ⟨fb,Y,rfl,rfl,⟨o,N V f2⟩,⟨G,N V p⟩,⟨D,N V tt⟩,⟨R,X⟩,rfl⟩
   rw[H];exact fQ x fun u M =>yv x M
  ·have b1:=ij s (List.mem_of_getElem? hA)
   have nv:=Sj b1 (ij s (List.mem_of_getElem? W)) (ij s (List.mem_of_getElem? hC)) (l9 X t.1) (l9 X t.2.1) (l9 X t.2.2) (by grind:cN A B C≠0);have d:kM (UJ A B C ((qH Y).getD t.1 0) ((qH Y).getD t.2.1 0) ((qH Y).getD t.2.2 0)) (A.1,A.2,(qH Y).getD t.1 0):=gD nv ⟨b1.1.mono (by omega) (by omega),b1.2.mono (by omega) (by omega),(l9 X t.1).mono (by omega) (by omega)⟩ (by omega) (by omega);have x:rZ s pb tb j A B C t (.fn 113) [vA (F8 A B C t (qH Y)).1,.agg [.str (aj A.1),.str (aj A.2),.str (aj ((qH Y).getD t.1 0))]] (M0++V) ⟨.str (aj (F8 A B C t (qH Y)).2),none,[]⟩:=.inr ⟨_,(A.1,A.2,(qH Y).getD t.1 0),rfl,rfl,d,rfl⟩;rw[H];exact fQ x fun u M =>yv x M
theorem Cy{M:Mem}{o1 o2:Bool}{c:Evc}{J:List AV}(h0:0<s.P.length)(hn:s.P.length≤1000)(hw:∀Y∈Z::Ys,hOk s Y)(I:Ys.length≤2)(W:c.B=hS Z)(hcS:c.S=Ys.map hS)(hE:ae9 M J c)(m1:M[pb]? =some (.cells o1 2 (pC s.P)))(m2:M[tb]? =some (.cells o2 3 (tC s.T)))(hi:s.T[j]? =some t)(hA:s.P[t.1]? =some A)(hB:s.P[t.2.1]? =some B)(hC:s.P[t.2.2]? =some C)(hS:0<cN A B C):
  ∃k n,k<n∧kO prog 158 [.agg [.slice pb 0 s.P.length none,.slice tb 0 s.T.length none],.agg J,.int .i64 (j:Int)] M (.tuple [.slice (M.length+k) 0 (Ys.length+1) none,.int .i64 0]) (M++afv n k (.cells true 4 (pnC (((Z::Ys).map qH).map (F8 A B C t))))):=by
 obtain⟨b,u,sv,kn,rfl,h1,h2,⟨D,R,N,hv3⟩,h4⟩:=hE;have a1:=gL hA;have eB:c.B.length=(qH Z).length:=by rw[UQ,W];exact mT Z
 have eS:c.S.length=Ys.length:=by rw[hcS];simp
 rw[eB] at h1;rw[eS] at R N;obtain⟨U,o3,rfl,hb⟩:=h1.pos (by rw[UQ];have:=(hw Z (by simp)).1;omega);have XQ :M[U]? =some (.cells o3 1 (qC (qH Z))):=by rw[←Ti,←W];exact hb
 have hO:=Mt (s:=s) (pb:=pb) (tb:=tb) (j:=j) (t:=t) hn hi hA hB hC hS;have H':(((Z::Ys).map qH).map (F8 A B C t)).length=Ys.length+1:=by simp
 have L:∀{b:Nat}{S:aek}(V:Mem),M[b]? =some S→(M++V)[b]? =some S:=fun {b S} V hb=>gU hb _
 have Y7:∀{J:List AV}{w:AV}{X:Mem},kO prog 158 [.agg [.slice pb 0 s.P.length none,.slice tb 0 s.T.length none],.agg J,.int .i64 (j:Int)] M (.tuple [w,.int .i64 0]) (M++X)→(∃k,w=.slice (M.length+k) 0 (((Z::Ys).map qH).map (F8 A B C t)).length none∧(M++X)[M.length+k]? =some (.cells true 4 (pnC (((Z::Ys).map qH).map (F8 A B C t)))))→
   ∃k n,k<n∧kO prog 158 [.agg [.slice pb 0 s.P.length none,.slice tb 0 s.T.length none],.agg J,.int .i64 (j:Int)] M (.tuple [.slice (M.length+k) 0 (Ys.length+1) none,.int .i64 0]) (M++afv n k (.cells true 4 (pnC (((Z::Ys).map qH).map (F8 A B C t))))):=fun {J w X} h ⟨k,e,hk⟩=>by
  rw[e,H'] at h;obtain⟨O,K⟩:=h.afv hk;exact⟨k,X.length,O,K⟩
 by_cases hY:Ys=[]
 ·subst hY
  obtain rfl:=N.aeS rfl;have H:=AR (M0:=M++[.cells true 0 [.slice pb 0 s.P.length none,.slice tb 0 s.T.length none],.cells true 0 (c.cells (.slice U 0 (qH Z).length none) u .qF kn),.qK,.cells true 1 [.slice U 0 (qH Z).length none]]) (bm:=M.length) (fr:=M.length+3) (F:=[.slice U 0 (qH Z).length none]) rfl hw I hi hA hB hC hS (by rw[xJ];rfl) ⟨true,by rw[BO];rfl⟩ ⟨o1,L _ m1⟩ ⟨o2,L _ m2⟩ rfl (fun i Y h=>by
   match i,h with
   |0,h=>simp only[List.getElem?_cons_zero,Option.some.injEq] at h;subst h;exact⟨U,o3,rfl,L _ XQ⟩
   |i+1,h=>simp at h)
  obtain⟨w,X,O,K⟩:=Jo hO h2.ck h4.ck H;exact Y7 O K
 ·have hp:0<Ys.length:=List.length_pos_iff.2 hY
  obtain⟨cb,o4,rfl,hc⟩:=N.pos hp;have acS :∀(i:Nat) Y,Ys[i]? =some Y→∃U o,D[i]? =some (.slice U 0 (qH Y).length none)∧M[U]? =some (.cells o 1 (qC (qH Y))):=fun i Y h=>by
   have FS:=gL h;obtain⟨x,G⟩:∃x,D[i]? =some x:=⟨_,List.getElem?_eq_getElem (by omega)⟩
   have hYl:=(hw Y (List.mem_cons_of_mem _ (List.mem_of_getElem? h))).1;have:=hv3 i x (Go.Proofs.hS Y) G (by rw[hcS,List.getElem?_map,h];rfl);rw[mT,←UQ] at this;obtain⟨f,o,rfl,hf⟩:=this.pos (by rw[UQ];omega);exact⟨f,o,G,by rw[←Ti];exact hf⟩
  have hva:D.all AV.aei=true:=by
   rw[List.all_eq_true];intro x G;obtain⟨i,G⟩:=List.getElem?_of_mem G;have FS:=gL G;obtain⟨Y,hY⟩:∃Y,Ys[i]? =some Y:=⟨_,List.getElem?_eq_getElem (by omega)⟩
   obtain⟨f,o,h,_⟩:=acS i Y hY;rw[G] at h;cases h;rfl
  rw[←R] at hp;have h3:=I;have H:=AR (M0:=M++[.cells true 0 [.slice pb 0 s.P.length none,.slice tb 0 s.T.length none],.cells true 0 (c.cells (.slice U 0 (qH Z).length none) u (.slice cb 0 D.length none) kn),.qK,.cells true 1 (.slice U 0 (qH Z).length none::D)]) (bm:=M.length) (fr:=M.length+3) (F:=.slice U 0 (qH Z).length none::D) rfl hw I hi hA hB hC hS (by rw[xJ];rfl) ⟨true,by rw[BO];rfl⟩ ⟨o1,L _ m1⟩ ⟨o2,L _ m2⟩ (by simp[R]) (fun i Y h=>by
   match i,h with
   |0,h=>simp only[List.getElem?_cons_zero,Option.some.injEq] at h;subst h;exact⟨U,o3,rfl,L _ XQ⟩
   |i+1,h=>
    obtain⟨f,o,O,K⟩:=acS i Y h;exact⟨f,o,O,L _ K⟩)
  rw[←R];obtain⟨w,X,O,K⟩:=Jp hO h2.ck h4.ck hc hp (by omega) hva H;rw[R] at O ⊢;exact Y7 O K
end
end Go.Proofs
namespace Go.Proofs
open Go.Eng
open Tryz
theorem DI{P:List P2}{q:P2}:∀{T:List Tr} {k:Nat},(pz P q T k).length≤T.length
 | [],k=>Nat.le_refl 0
 |t::r,k=>by
  rw[pz];have:=DI (P:=P) (q:=q) (T:=r) (k:=k+1);split
  ·rw[List.length_cons,List.length_cons];omega
  ·rw[List.length_cons];omega
section
variable {f g:FuncId}{a b:List AV}{p:Mem→Prop}{r:aee}{m:Mem}{L:List (FuncId×List AV×(Mem→Prop)×aee)}{O:y9}
theorem Vi(h:p m):y9.or (dy ((f,a,p,r)::L)) O (.fn f) a m=some r:=by unfold y9.or;rw[cr h]
theorem Kx(h:f≠g∨¬p m):y9.or (dy ((f,a,p,r)::L)) O (.fn g) b m=y9.or (dy L) O (.fn g) b m:=by unfold y9.or;rw[aB h]
theorem Su{c:Go.Eng.Callee}:y9.or (dy []) O c a m=O c a m:=rfl
end
theorem Od(f:Nat→Bool):∀X:List (V3×Rat),AV.ael f (pnC X)=true
 | []=>rfl
 |x::l=>by rw[pnC,jy,Od f l];rfl
theorem Mq{x y:V3}(h:kM x y)(N:Mem):ag bt (.fn 113) [vA x,vA y] N=some ⟨.str (aj (dj x y)),none,[]⟩:=by obtain⟨d,Z⟩:=xE (dj x y);rw[←Z];simp[ag,bt,vA,uJ,h,←Z]
theorem Mo{x y:Rat}(H:dc x)(I:dc y)(N:Mem):ag bt (.fn 136) [.str (aj x),.str (aj y)] N=some ⟨.int .i64 (pU x y),none,[]⟩:=by obtain⟨Z,X⟩:=H;obtain⟨V,y2⟩:=I;simp[ag,bt,aE,aH,ar,Z,X,V,y2]
theorem MJ{n:Nat}{a b c:P2}(H:pDg n a)(I:pDg n b)(hc:pDg n c)(h0:0<n)(h1:n≤400):Vz a b c:=by
 have F:∀{k:Nat}{z:Rat},dg k k z→0<k→k≤40000→dc z:=fun h a b=>fe h a b
 have d:∀{x y:Rat},dg n n x→dg n n y→dg (2*n+1) (2*n+1) (x-y):=fun h1 Z=>(ur h1 Z).mono (by omega) (by omega)
 exact⟨⟨⟨F H.1 h0 (by omega),F H.2 h0 (by omega)⟩,⟨F I.1 h0 (by omega),F I.2 h0 (by omega)⟩,F hc.1 h0 (by omega),F hc.2 h0 (by omega)⟩,⟨F (d I.1 H.1) (by omega) (by omega),F (d hc.2 H.2) (by omega) (by omega),F (d I.2 H.2) (by omega) (by omega),F (d hc.1 H.1) (by omega) (by omega)⟩,F (dE (d I.1 H.1) (d hc.2 H.2)) (by omega) (by omega),F (dE (d I.2 H.2) (d hc.1 H.1)) (by omega) (by omega)⟩
theorem R8(s:aeo){q:P2}(hq:pDg 5 q):agO s.P s.T q where
 tri:=fun i t h=>by obtain⟨A,B,C,Z,X,h3,_⟩:=KU s h;have m1:=ij s (List.mem_of_getElem? Z);have m2:=ij s (List.mem_of_getElem? X);have m3:=ij s (List.mem_of_getElem? h3);exact⟨A,B,C,Z,X,h3,MJ m2 m3 hq (by omega) (by omega),MJ m3 m1 hq (by omega) (by omega),MJ m1 m2 hq (by omega) (by omega)⟩
 hl:=⟨(np s).2,SQ s⟩
theorem Uj{s:aeo}{Z:List Int}{H:List (List Int)}{p:V3}{j:Nat}{w:V3}{t:Tr}{A B C:P2}(W:∀Y∈Z::H,hOk s Y)(hm:∀Y∈H,∀(i:Nat) z y,Z[i]? =some z→Y[i]? =some y→z≤y)(I:Tj s.P (p.1,p.2.1) s.T 0=some (j,w))(J:s.T[j]? =some t)(hA:s.P[t.1]? =some A)(hB:s.P[t.2.1]? =some B)(hC:s.P[t.2.2]? =some C)(hS:0<cN A B C):
  Wh s.P s.T (qH Z) (H.map qH) p= -1+(Tg p (((Z::H).map qH).map (F8 A B C t)):Int):=by
 obtain⟨k,D,rfl,X,O,rfl,_⟩:=BC I;rw[Nat.zero_add] at J;rw[J] at X;cases X;have K:Qv s.P (p.1,p.2.1) t=Cp A B C (p.1,p.2.1):=by unfold Qv;simp[List.getD,hA,hB,hC]
 have N:s.T.getD (0+k) (0,0,0)=t:=by rw[Nat.zero_add];simp[List.getD,J]
 rw[K] at O I;obtain⟨V,U,S⟩:=O;have V:=Gk.1 V;have U:=Gk.1 U;have S:=Gk.1 S;have R:=NH A B C (p.1,p.2.1);have G:0<(Cp A B C (p.1,p.2.1)).1+(Cp A B C (p.1,p.2.1)).2.1+(Cp A B C (p.1,p.2.1)).2.2:=by unfold Cp;simp only;rw[R];exact hS
 have e:(H.map qH).map (fun Q=>Wl s.T Q (0+k) (Cp A B C (p.1,p.2.1)))=(H.map qH).map fun Q=>RL (Cp A B C (p.1,p.2.1)) (Q.getD t.1 0) (Q.getD t.2.1 0) (Q.getD t.2.2 0):=by unfold Wl;rw[N]
 have F:Wl s.T (qH Z) (0+k) (Cp A B C (p.1,p.2.1))=RL (Cp A B C (p.1,p.2.1)) ((qH Z).getD t.1 0) ((qH Z).getD t.2.1 0) ((qH Z).getD t.2.2 0):=by unfold Wl;rw[N]
 unfold Wh;rw[I];simp only;rw[e,F,Va (by grind),List.map_cons,List.map_cons,VI];by_cases c:p.2.2<RL (Cp A B C (p.1,p.2.1)) ((qH Z).getD t.1 0) ((qH Z).getD t.2.1 0) ((qH Z).getD t.2.2 0)
 ·rw[if_pos c,if_neg (by grind),J0 c]
  ·rfl
  ·intro x M
   rw[List.map_map] at M;obtain⟨Y,L,rfl⟩:=List.mem_map.1 M;have m:=VU (hm Y L) (by rw[(W Z (by simp)).1,(W Y (by simp[L])).1]);exact RM V U S G (m _) (m _) (m _)
 ·rw[if_neg c,if_pos (by grind)]
  omega
section
variable {s:aeo}{M:Mem}{pb tb:Nat}{o1 o2:Bool}{Z:List Int}{Ys:List (List Int)}{c:Evc}{ev:List AV}{v:V3}
theorem Lk(hw:∀Y∈Z::Ys,hOk s Y)(hy2:Ys.length≤2)(hm:∀Y∈Ys,∀(i:Nat) z y,Z[i]? =some z→Y[i]? =some y→z≤y)(hcB:c.B=hS Z)(hcS:c.S=Ys.map hS)(hE:ae9 M ev c)(m1:M[pb]? =some (.cells o1 2 (pC s.P)))(m2:M[tb]? =some (.cells o2 3 (tC s.T)))(H:vDg 5 v):
  kO prog 157 [.agg [.slice pb 0 s.P.length none,.slice tb 0 s.T.length none],.agg ev,vA v] M (.tuple [.int .i64 (Wh s.P s.T (qH Z) (Ys.map qH) v),.int .i64 0]) M:=by
 obtain⟨U,G⟩:=xE (AV.slice pb 0 s.P.length none);obtain⟨R,F⟩:=xE (AV.slice tb 0 s.T.length none);have l1:=gL m1;have l2:=gL m2;obtain⟨h0,hn⟩:=np s;have hq5:pDg 5 (v.1,v.2.1):=⟨H.1,H.2.1⟩;have H0:=R8 s hq5;have YU:∀N:Mem,(∃o,N[pb]? =some (.cells o 2 (pC s.P)))→(∃o,N[tb]? =some (.cells o 3 (tC s.T)))→kO prog 46 [.agg [.slice pb 0 s.P.length none,.slice tb 0 s.T.length none]] N (.int .i64 0) N:=fun N ⟨o,h1⟩ ⟨o',h2⟩=>nK s N pb tb o o' h1 h2
 have c1:=gm (H.1.mono (n' :=200) (d' :=200) (by omega) (by omega));have c2:=gm (H.2.1.mono (n' :=200) (d' :=200) (by omega) (by omega));have hq:sP [aj v.1,aj v.2.1]=0∧(aj v.1).length≤Kw∧(aj v.2.1).length≤Kw:=⟨by simp[sP,c1,c2],iM H.1 (by omega) (by omega),iM H.2.1 (by omega) (by omega)⟩;have up:∀{b:Nat}{S:aek}(V:Mem),M[b]? =some S→(M++V)[b]? =some S:=fun {b S} V hb=>gU hb _
 obtain⟨w,K,hL,Y0⟩:=Ew H0 YU hq (up (ndB U R ev v) m1) (up (ndB U R ev v) m2);rw[←G,←F] at hL ⊢;have O:=DJ (P:=s.P) (q:=(v.1,v.2.1)) (T:=s.T) (k:=0);have cp:U.aei=true∧R.aei=true:=by rw[G,F];exact⟨rfl,rfl⟩
 have Zd:=hE.l32;have u:ev.all AV.aei=true:=List.all_eq_true.2 hE.cok;cases hl:Tj s.P (v.1,v.2.1) s.T 0 with
 |none=>
  rw[hl] at O;simp only at O;rw[O] at Y0;obtain rfl:=Y0.aeS rfl;have hO:qS prog (dy [(12,[.agg [U,R],pA (v.1,v.2.1)],(fun N=>N=M++ndB U R ev v),⟨.tuple [.qF,.int .i64 0],none,K⟩)]):=lO fun y m N hp=>by rw[List.mem_singleton] at m;subst m;subst hp;exact aC hL
  have:=Jj (p:=v) hO cp Zd u (cr rfl);rw[show Wh s.P s.T (qH Z) (Ys.map qH) v= -2 by unfold Wh;rw[hl]];exact kO.forget rfl this
 |some jw=>
  obtain⟨j,w'⟩:=jw;rw[hl] at O;obtain⟨l,O⟩:=O;rw[O,List.map_cons] at Y0;obtain⟨i,t,hji,hi,Zg,hw',_⟩:=BC hl;obtain rfl:i=j:=by omega
  obtain⟨A,B,C,hA,hB,hC,hS⟩:=KU s hi;obtain⟨lb,o,rfl,hlb⟩:=Y0.pos (by simp);have H':((i:Int)::l).length≤1000:=by have:=DI (P:=s.P) (q:=(v.1,v.2.1)) (T:=s.T) (k:=0);rw[O] at this;have:=H0.hl.2;omega
  have hE1:=hE.more (ndB U R ev v++K);obtain⟨k,n,hk,hP⟩:=Cy h0 hn hw hy2 hcB hcS hE1 (up _ m1) (up _ m2) hi hA hB hC hS;rw[←G,←F] at hP;obtain⟨X,hX⟩:=xE (((Z::Ys).map qH).map (F8 A B C t));have hXl:X.length=Ys.length+1:=by rw[hX];simp
  rw[←hX,←hXl] at hP;have hL' :kO prog 12 [.agg [U,R],pA (v.1,v.2.1)] (M++ndB U R ev v) (.tuple [.slice lb 0 ((i:Int)::l).length none,.int .i64 0]) (M++ndB U R ev v++K):=hL;obtain⟨V,hV⟩:=xE (afv n k (.cells true 4 (pnC X)));rw[←hV] at hP;have hVl:V.length=n:=by rw[hV,BW]
  have aaZ:(M++(ndB U R ev v++K)++V)[(M++(ndB U R ev v++K)).length+k]? =some (.cells true 4 (pnC X)):=by rw[hV];exact Ss hk _
  have hO:qS prog (y9.or (dy [(12,[.agg [U,R],pA (v.1,v.2.1)],(fun N=>N=M++ndB U R ev v),⟨.tuple [.slice lb 0 ((i:Int)::l).length none,.int .i64 0],none,K⟩),(158,[.agg [U,R],.agg ev,.int .i64 (i:Int)],(fun N=>N=M++(ndB U R ev v++K)),⟨.tuple [.slice ((M++(ndB U R ev v++K)).length+k) 0 X.length none,.int .i64 0],none,V⟩)]) (ag bt)):=qS.or (lO fun y m N hp=>by
   simp only[lM] at m;rcases m with rfl | rfl
   ·subst hp;exact aC hL'
   ·subst hp;exact aC hP) dm
  have X8:M.length+(4+K.length)+V.length=(M++(ndB U R ev v++K)).length+n:=by rw[hVl];simp[ndB];omega
  have W:∀x∈X,kM x.1 v∧dc (dj x.1 v)∧dc x.2:=fun x J=>by rw[hX,List.map_map] at J;obtain⟨Y,hY,rfl⟩:=List.mem_map.1 J;have D:=(hw Y hY).2;have b1:=ij s (List.mem_of_getElem? hA);have nv:=Sj b1 (ij s (List.mem_of_getElem? hB)) (ij s (List.mem_of_getElem? hC)) (l9 D t.1) (l9 D t.2.1) (l9 D t.2.2) (by grind:cN A B C≠0);have w1:vDg 91 v:=H.mono (by omega);have w2:vDg 91 (A.1,A.2,(qH Y).getD t.1 0):=⟨b1.1.mono (by omega) (by omega),b1.2.mono (by omega) (by omega),(l9 D t.1).mono (by omega) (by omega)⟩;exact⟨gD nv w1 (by omega) (by omega),fe (xV nv w1) (by omega) (by omega),fe (xV nv w2) (by omega) (by omega)⟩
  have hN:agF (y9.or (dy [(12,[.agg [U,R],pA (v.1,v.2.1)],(fun N=>N=M++ndB U R ev v),⟨.tuple [.slice lb 0 ((i:Int)::l).length none,.int .i64 0],none,K⟩),(158,[.agg [U,R],.agg ev,.int .i64 (i:Int)],(fun N=>N=M++(ndB U R ev v++K)),⟨.tuple [.slice ((M++(ndB U R ev v++K)).length+k) 0 X.length none,.int .i64 0],none,V⟩)]) (ag bt)) (M++(ndB U R ev v++(K++V))) (.fn 113) (.fn 136) (M.length+2) ((M++(ndB U R ev v++K)).length+k) v X:=by
   refine⟨by rw[BO];rfl,⟨true,?_⟩,by omega,fun x J=>⟨fun Y=>?_,fun Y=>?_⟩⟩
   ·rw[←List.append_assoc (ndB U R ev v),←List.append_assoc];exact aaZ
   ·obtain⟨h1,h2,h3⟩:=W x J
    rw[Kx (.inl (by decide)),Kx (.inl (by decide)),Su];exact Mq h1 _
   ·obtain⟨h1,h2,h3⟩:=W x J
    rw[Kx (.inl (by decide)),Kx (.inl (by decide)),Su];exact Mo h2 h3 _
  have I:=Uj (p:=v) hw hm hl hi hA hB hC hS;rw[←hX] at I;obtain⟨new,h⟩:=Jk (p:=v) (j:=i) (L:=l.map fun n=>.int .i64 n) hO cp (by rw[G,F];exact⟨rfl,rfl⟩) (fun x=>by rw[G];simp only[AV.aef,decide_eq_true_eq];omega) (fun x=>by rw[F];simp only[AV.aef,decide_eq_true_eq];omega) Zd u (fun x=>hE.refs x) (Vi rfl) ⟨by simp,H'⟩ (by rw[←List.append_assoc];exact hlb) (by rw[Kx (.inl (by decide))];exact Vi rfl) (fun f=>by rw[hV];exact UL f rfl (by show AV.ael f (pnC X)=true;exact Od f X)) (by rw[X8];omega) hN
  rw[I];exact kO.forget rfl h
end
variable{L:List P2}{b:Nat}{o:Bool}
theorem Cx{M:Mem}{u:Rat}(J:L.length≤1000)(H:M[b]? =some (.cells o 2 (kC (Go.Proofs.kT L))))(hQ:PT L)(I:dc u):
  kO prog 141 [.slice b 0 L.length none,.str (aj u)] M (.int .i64 (dV L u)) M:=by
 have X:=eh L;have e:∀b,AV.slice b 0 L.length none=.slice b 0 (Go.Proofs.kT L).length none:=fun b=>by rw[X]
 have Z:=uO L u hQ I (by omega);rw[e 0] at Z;rw[e b];exact SG rfl rfl Z ⟨b,o,_,rfl,H,List.take_of_length_le (by rw[gp];omega)⟩
variable{a:Nat}{v:V3}
section
variable {x y:AV}{M:Mem}{nm:List UInt8}{p n:V3}
theorem Li(H:x.aei=true∧y.aei=true){o w:Rat}{u:List UInt8}(d:kM n p)(I:dc (dj n p))(fo:dc o)(fw:dc w)(fs:dc (dj n p-o)):
  kO prog 171 [.agg [x,y],.agg ((mM nm n o w u).cells .qF .qF .qF .qF),vA p] M (.tuple [.int .i64 (dkL n o w p),.int .i64 0]) M:=by
 have D:aT prog 171=some f171:=by kernel_rfl
 obtain⟨e1,e2⟩:=H;obtain⟨Z,X⟩:=I;obtain⟨R,C⟩:=fo;obtain⟨w1,w2⟩:=fw;obtain⟨O,N⟩:=fs;obtain⟨ops,B⟩:∃R,aJ f171=[R]:=⟨_,rfl⟩
 obtain⟨S,A⟩:=de B (l:=[0,1,3,7,0,31,0,64,192,448,1023,2047]) (j:=11) (by kernel_rfl) (by decide);simp[aJ,bR,f171] at B;subst B;unfold dkL;obtain⟨dt,V⟩:=xE (dj n p);rw[←V] at Z X O N ⊢;obtain⟨q,G⟩:=xE (dt-o);rw[←G] at O N ⊢;have Y:ky q<0↔q<0:=by
  have:=W2 (a:=q) (b:=0)
  rwa [show q-0=q by grind] at this
 have W:pU q w<0↔q<w:=by
  have:=FM (a:=q) (b:=w);constructor
  ·intro h
   exact Rat.not_le.1 fun U=>by have:=this.2 U;omega
  ·intro h
   exact Int.not_le.1 fun U=>absurd (this.1 U) (Rat.not_le.2 h)
 have Zw:∀s,(AV.str s).aei=true:=fun _=>rfl
 have hci:∀k n,(AV.int k n).aei=true:=fun _ _=>rfl
 have hcn:AV.qF.aei=true:=rfl;refine xg (K:=1) (lv:=fun _=>[]) dm ?_;by_cases F:q<0
 ·have:=Y.2 F
  rw[if_pos F];simp[-getElem?_pos,-AV.aei,-AV.known,-AV.cells,-ee,-List.all_eq_true,vS,rS,mS,-bG,-bn,-AV.aef,-aek.aef,aa,D,f171,ag,bt,aE,aH,bj,be,vA,mM,Evc.cells,uJ,ar,←V,←G,d,Z,X,R,C,this,-aK,ao S,br,bk,bl,A,Nat.testBit]
 ·have J :¬ky q<0:=fun h=>F (Y.1 h)
  rw[if_neg F];by_cases U:q<w
  ·have:=W.2 U
   rw[if_pos U];simp[-getElem?_pos,-AV.aei,-AV.known,-AV.cells,-ee,-List.all_eq_true,vS,rS,mS,-bG,-bn,-AV.aef,-aek.aef,aa,D,f171,ag,bt,aE,aH,bj,be,vA,mM,Evc.cells,uJ,ar,←V,←G,d,Z,X,R,C,O,N,w1,w2,this,J,-aK,ao S,br,bk,bl,A,Nat.testBit]
  ·have m :¬pU q w<0:=fun h=>U (W.1 h)
   rw[if_neg U];simp[-getElem?_pos,-AV.aei,-AV.known,-AV.cells,-ee,-List.all_eq_true,vS,rS,mS,-bG,-bn,-AV.aef,-aek.aef,aa,D,f171,ag,bt,aE,aH,bj,be,vA,mM,Evc.cells,uJ,ar,←V,←G,d,Z,X,R,C,O,N,w1,w2,J,m,-aK,ao S,br,bk,bl,A,Nat.testBit]
theorem GB(d:kM n p)(H:PT L)(I:dc (dj n p))(J:L.length≤1000):
  kO prog 166 [.agg [.slice 0 0 a none,.slice 1 0 b none],.agg ((dn nm n L v).cells .qF .qF .qF (.slice 2 0 L.length none)),vA p] [.qK,.qK,.cells false 2 (kC (Go.Proofs.kT L))] (.tuple [.int .i64 (dV L (dj n p):Int),.int .i64 0]) [.qK,.qK,.cells false 2 (kC (Go.Proofs.kT L))]:=by
 have O:aT prog 166=some f166:=by kernel_rfl
 have X:qS prog (y9.or (cX 141 [.slice 2 0 L.length none,.str (aj (dj n p))] (.int .i64 (dV L (dj n p):Int)) (fun N=>∃Z,N=aek.qK::.qK::.cells false 2 (kC (Go.Proofs.kT L))::Z)) (ag bt)):=
  qS.or (dO fun N ⟨Z,hZ⟩=>by subst hZ;exact Cx J (b:=2) (o:=false) rfl H I) dm
 obtain⟨G,V⟩:∃F,aJ f166=[F]:=⟨_,rfl⟩
 obtain⟨U,D⟩:=de V (l:=[0,1,3,0,8,24,0,120,255,511,1023]) (j:=10) (by kernel_rfl) (by decide);simp[aJ,bR,f166] at V;subst V;obtain⟨u,R⟩:=xE (dj n p);rw[←R] at X ⊢;obtain⟨C,S⟩:=xE (dV L u);rw[←S] at X ⊢;refine xg (K:=1) (lv:=fun _=>[]) X ?_;clear X;simp[aa,O,f166,y9.or,cX,ag,bt,vA,dn,Evc.cells,uJ,←R,d,-aK,ao U,br,bk,bl,D,Nat.testBit]
theorem Lh{pb tb H:Nat}(I:pb<M.length)(J:tb<M.length)(hk:M[H]? =some (.cells o 2 (kC (Go.Proofs.kT L))))(d:kM n p)(W:PT L)(Y:dc (dj n p))(hl:L.length≤1000):
  kO prog 166 [.agg [.slice pb 0 a none,.slice tb 0 b none],.agg ((dn nm n L v).cells .qF .qF .qF (.slice H 0 L.length none)),vA p] M (.tuple [.int .i64 (dV L (dj n p):Int),.int .i64 0]) M:=by
 have X:=gL hk;have:=kO.frame (M:=M) (new:=[]) (args:=[.agg [.slice 0 0 a none,.slice 1 0 b none],.agg ((dn nm n L v).cells .qF .qF .qF (.slice 2 0 L.length none)),vA p]) [pb,tb,H] (m:=[.qK,.qK,.cells false 2 (kC (Go.Proofs.kT L))]) rfl (by simp[I,J,X]) (by simp[AV.aen,AV.under,dn,Evc.cells,vA]) (fun j s Z=>by
  match j with
  |0=>simp at Z;subst Z;trivial
  |1=>simp at Z;subst Z;trivial
  |2=>simp at Z;subst Z;exact cP (jJ _) hk List.take_length
  |j+3=>simp at Z) rfl (by rw[List.append_nil];exact GB (a:=a) (b:=b) d W Y hl)
 simpa [AV.aez,AV.ren,fq,dn,Evc.cells,vA] using this
theorem Lj(H:x.aei=true∧y.aei=true)(t:I4)(c:V3):
  kO prog 176 [.agg [x,y],.agg ((gO nm t c).cells .qF .qF .qF .qF),vA p] M (.tuple [.int .i64 0,.int .i64 0]) M:=by
 have Z:aT prog 176=some f176:=by kernel_rfl
 obtain⟨U,S⟩:=H;refine xg (K:=1) (lv:=fun _=>[]) (az _) ?_;have R:∀s,(AV.str s).aei=true:=fun _=>rfl
 have X:∀k n,(AV.int k n).aei=true:=fun _ _=>rfl
 have V:AV.qF.aei=true:=rfl;simp[-AV.aei,aa,Z,f176,gO,Evc.cells,vA]
end
theorem Ja(a b c d e:AV):vw (aV prog) 125 (.agg [a,b,c,d,e]) 3=some d:=by kernel_rfl
section
variable {M:Mem}{pv tv:AV}{ev:List AV}{p:V3}{n:Int}{k0 k1 k2 nf k4:FuncId}
theorem Hj:(aJ f18).map (fun o=>dT o.toList)=[[0,1,3,0,0,0,63,127,127,511,1023]]:=by kernel_rfl
theorem El(Y:pv.aei=true∧tv.aei=true)(hl:ev.length=32)(YU:ev.all AV.aei=true)(rp:∀x,pv.aef (fun b=>decide (b<M.length+x))=true)(rt:∀x,tv.aef (fun b=>decide (b<M.length+x))=true)(H:∀x,AV.ael (fun b=>decide (b<M.length+x)) ev=true)(I:∀Z,kO prog 57 [.agg [pv,tv],.agg ev,vA p] (M++Z) (.int .i64 0) (M++Z))(J:∀Z,kO prog 44 [.agg ev] (M++Z) (.agg [.func k0 [],.func k1 [],.func k2 [],.func nf [],.func k4 []]) (M++Z))(W:∀Z,kO prog nf [.agg [pv,tv],.agg ev,vA p] (M++Z) (.tuple [.int .i64 n,.int .i64 0]) (M++Z))(n1:57≠nf)(n2:44≠nf):
  kO prog 18 [.agg [pv,tv],.agg ev,vA p] M (.tuple [.int .i64 n,.int .i64 0]) M:=by
 have A:aT prog 18=some f18:=by kernel_rfl
 have j:∀s,(AV.str s).aei=true:=fun _=>rfl
 obtain⟨c1,c2⟩:=Y;obtain⟨L,X⟩:=xE (α:=List (FuncId×List AV×(Mem→Prop)×aee)) [(57,[.agg [pv,tv],.agg ev,vA p],(fun N=>∃Z,N=M++Z),⟨.int .i64 0,none,[]⟩),(44,[.agg ev],(fun N=>∃Z,N=M++Z),⟨.agg [.func k0 [],.func k1 [],.func k2 [],.func nf [],.func k4 []],none,[]⟩),(nf,[.agg [pv,tv],.agg ev,vA p],(fun N=>∃Z,N=M++Z),⟨.tuple [.int .i64 n,.int .i64 0],none,[]⟩)];have K:qS prog (dy L):=lO fun y U N S=>by
  rw[X] at U;simp only[lM] at U;rcases U with rfl | rfl | rfl
  ·obtain⟨Z,rfl⟩:=S;exact aW (I Z)
  ·obtain⟨Z,rfl⟩:=S;exact aW (J Z)
  ·obtain⟨Z,rfl⟩:=S;exact aW (W Z)
 have G:∀Z,dy L (.fn 57) [.agg [pv,tv],.agg ev,vA p] (M++Z)=some ⟨.int .i64 0,none,[]⟩:=fun Z=>by rw[X];exact cr ⟨Z,rfl⟩
 have F:∀Z,dy L (.fn 44) [.agg ev] (M++Z)=some ⟨.agg [.func k0 [],.func k1 [],.func k2 [],.func nf [],.func k4 []],none,[]⟩:=fun Z=>by rw[X,aB (.inl (by decide))];exact cr ⟨Z,rfl⟩
 have D:∀Z,dy L (.fn nf) [.agg [pv,tv],.agg ev,vA p] (M++Z)=some ⟨.tuple [.int .i64 n,.int .i64 0],none,[]⟩:=fun Z=>by rw[X,aB (.inl n1),aB (.inl n2)];exact cr ⟨Z,rfl⟩
 obtain⟨O,V⟩:=xE (dy L);rw[←V] at K G F D;clear V X I J W;have u:∀f k,AV.aef f (.func k [])=true:=fun _ _=>rfl
 have t0:ev.take 32=ev:=List.take_of_length_le (by omega);obtain⟨C,R⟩:∃C,aJ f18=C :=⟨_,rfl⟩
 have B :=cc R Hj;simp only[aJ,bR,f18,List.nil_append,List.append_nil] at R;subst R;simp only[lB] at B;have m:cJ (aV prog) (fun _=>[]) (aT prog) O 1 18 [.agg [pv,tv],.agg ev,vA p] M=some (.tuple [.int .i64 n,.int .i64 0],M++[.cells true 0 [pv,tv],.cells true 0 ev,.cells true 0 (vL p)]):=by unfold vA vL at*;simp[-getElem?_pos,-AV.aei,-AV.known,-AV.cells,-ee,-List.all_eq_true,vS,rS,mS,cJ,A,f18,hl,t0,u,rp,rt,H,G,F,D,-vw,Ja,-bG,-bn,-aK,-AV.aef,-aek.aef,bd B,bZ,du,ef,cw,cM,gQ,bef,Nat.testBit]
 exact kO.forget rfl (bY ai (aO _) K (aR _) m)
end
end Go.Proofs
namespace Go.Proofs
open Go.Eng
open Tryz
section
variable {K:Int}{g g1 mf nf g4:FuncId}{onl:Evc→Evc}{x y:Bool}{s:aeo}{c:Evc}{M:Mem}{p t:Nat}{o o' :Bool}{ev:List AV}{v:V3}{n:Int}
theorem kB(kp:afi K g g1 mf nf g4 onl x y)(hk:c.k=K)(I:jn s c)(J:M[p]? =some (.cells o 2 (pC s.P)))(W:M[t]? =some (.cells o' 3 (tC s.T)))(H:ae9 M ev c)(hv:vC v)(hN:∀Z,kO prog nf [KS s p t,.agg ev,vA v] (M++Z) (.tuple [.int .i64 n,.int .i64 0]) (M++Z))(n1:57≠nf)(n2:44≠nf)(Z:Mem):
  kO prog 18 [KS s p t,.agg ev,vA v] (M++Z) (.tuple [.int .i64 n,.int .i64 0]) (M++Z):=by
 have V:=H.more Z;have S:=vI (di J Z);have O:=vI (di W Z);have U:∀(q k x:Nat),q<(M++Z).length→(AV.slice q 0 k none).aef (fun b=>decide (b<(M++Z).length+x))=true:=fun q k x h=>by simp only[AV.aef,decide_eq_true_eq];omega
 refine El (k0:=g) (k1:=g1) (k2:=mf) (k4:=g4) ⟨rfl,rfl⟩ H.l32 (List.all_eq_true.2 H.cok) (fun x=>U _ _ x S) (fun x=>U _ _ x O) (fun x=>V.refs x) (fun X =>?_) (fun X =>?_) (fun X =>by rw[List.append_assoc];exact hN (Z++X)) n1 n2
 ·exact jA (M:=(M++Z)++X) ⟨_,_,rfl,rfl,rfl⟩ H.l32 H.cok (fun Y=>I _ p t o o' ev (di (di (di J Z) X) Y) (di (di (di W Z) X) Y) ((V.more X).more Y)) hv
 ·obtain⟨b,u,L,G,rfl,F,D,⟨_,_,h3,_⟩,C⟩:=H
  have:=NC kp (N:=(M++Z)++X) (nm:=c.nm) (R:=((c.cells b u L G).drop 2)) rfl (by simp[Evc.cells,F.ck,D.ck,h3.ck,C.ck,vS,-AV.aei]);rw[←hk] at this;exact this
end
section
variable {x:aed}{s:aeo}{M:Mem}{p t:Nat}{o o' :Bool}{ev:List AV}{v:V3}
theorem SY{c:Nat}(hc:c=1∨c=2∨c=3):(∀Y∈x.base.l s.P.length::iX x s.P.length c,hOk s Y)∧(iX x s.P.length c).length≤2∧∀Y∈iX x s.P.length c,∀(i:Nat) z y,(x.base.l s.P.length)[i]? =some z→Y[i]? =some y→z≤y:=by
 have lB:(x.base.l s.P.length).length=s.P.length:=x.base.aeI _;have O:∀h L,(upL h L s.P.length).length=s.P.length:=fun h L=>fI h L _
 have V:hOk s (x.base.l s.P.length):=⟨lB,fun z X=>by have:=kI x _ z X;omega⟩;have N:hOk s (upL x.s0 (x.base.l s.P.length) s.P.length):=⟨O _ _,fun z X=>by have:=rR x _ z X;omega⟩;have G:hOk s (upL x.s1 (upL x.s0 (x.base.l s.P.length) s.P.length) s.P.length):=⟨O _ _,fun z X=>by unfold upL at X;obtain⟨k,U,rfl⟩:=List.mem_map.1 X;have U:=List.mem_range.1 U;have F:=rR x s.P.length _ (oQ (l:=upL x.s0 (x.base.l s.P.length) s.P.length) (k:=k) (by rw[fI];exact U));have:=x.s1.af7 k;unfold upL at F;omega⟩
 have S:∀(i:Nat) z y,(x.base.l s.P.length)[i]? =some z→(upL x.s0 (x.base.l s.P.length) s.P.length)[i]? =some y→z≤y:=fun i z y X R=>KY X R
 have D:∀(i:Nat) z y,(x.base.l s.P.length)[i]? =some z→(upL x.s1 (upL x.s0 (x.base.l s.P.length) s.P.length) s.P.length)[i]? =some y→z≤y:=fun i z y X R=>by
  obtain⟨w,K⟩:∃w,(upL x.s0 (x.base.l s.P.length) s.P.length)[i]? =some w:=⟨_,List.getElem?_eq_getElem (by rw[fI];have:=gL X;omega)⟩
  have C:=S i z w X K;have B:w≤y:=KY K R;omega
 rcases hc with rfl | rfl | rfl
 ·exact⟨fun Y Z=>by simp only[iX,List.mem_singleton] at Z;subst Z;exact V,by simp[iX],fun Y Z=>by simp[iX] at Z⟩
 ·refine⟨fun Y Z=>?_,by simp[iX],fun Y Z=>?_⟩
  ·simp only[iX,lM] at Z
   rcases Z with rfl | rfl
   ·exact V
   ·exact N
  ·simp only[iX,List.mem_singleton] at Z
   subst Z;exact S
 ·refine⟨fun Y Z=>?_,by simp[iX],fun Y Z=>?_⟩
  ·simp only[iX,lM] at Z
   rcases Z with rfl | rfl | rfl
   ·exact V
   ·exact N
   ·exact G
  ·simp only[iX,lM] at Z
   rcases Z with rfl | rfl
   ·exact S
   ·exact D
end
end Go.Proofs
namespace Go.Proofs
open Go.Eng
theorem SM(b:Bool):sgB (!b)= - sgB b:=by cases b<;>rfl
theorem NR{n v:V3}(h:dj v n=0)(p:V3)(k:Rat):dj n (pT p (Dp v k))=dj n p:=by
 unfold dj pT Dp at*;simp only
 grind
theorem SN(p v:V3)(k:Rat):pT (pT p (Dp v k)) (Dp v (-k))=p:=by unfold pT Dp;obtain⟨Z,X,V⟩:=p;simp only[Prod.mk.injEq];refine⟨?_,?_,?_⟩<;>grind
theorem RG{n v:V3}{o:Rat}(h:dj v n=0)(b:Bool)(p:V3):ru n o v (!b) (ru n o v b p)=p:=by
 unfold ru;by_cases Z:o≤dj n p
 ·rw[if_pos Z,NR h,if_pos Z,SM,SN]
 ·rw[if_neg Z,if_neg Z]
theorem RF{n v:V3}{o:Rat}(h:dj v n=0)(b:Bool)(p:V3):dj n (ru n o v b p)=dj n p:=by
 unfold ru;split
 ·exact NR h _ _
 ·rfl
variable{K:List P2}
theorem Uq{n v:V3}(h:dj v n=0)(b:Bool)(p:V3):Kp n K v (!b) (Kp n K v b p)=p:=by unfold Kp;rw[NR h,SM,Rat.neg_mul,SN]
theorem Up{n v:V3}(h:dj v n=0)(b:Bool)(p:V3):dj n (Kp n K v b p)=dj n p:=NR h _ _
def W9(t:I4)(c:V3)(b:Bool)(p:V3):V3:=pT (mF (wJ (nr t b)) p) (Ov c (mF (wJ (nr t b)) c))
theorem RZ(s w x y z a b c:Rat)(H:s*(w*w+x*x+y*y+z*z)=1):
  ((w*w+x*x-y*y-z*z)*s*((w*w+x*x-y*y-z*z)*s*a+2*(x*y-w*z)*s*b+2*(x*z+w*y)*s*c)+2*(x*y+w*z)*s*(2*(x*y+w*z)*s*a+(w*w-x*x+y*y-z*z)*s*b+2*(y*z-w*x)*s*c)+2*(x*z-w*y)*s*(2*(x*z-w*y)*s*a+2*(y*z+w*x)*s*b+(w*w-x*x-y*y+z*z)*s*c)=a)∧
  (2*(x*y-w*z)*s*((w*w+x*x-y*y-z*z)*s*a+2*(x*y-w*z)*s*b+2*(x*z+w*y)*s*c)+(w*w-x*x+y*y-z*z)*s*(2*(x*y+w*z)*s*a+(w*w-x*x+y*y-z*z)*s*b+2*(y*z-w*x)*s*c)+2*(y*z+w*x)*s*(2*(x*z-w*y)*s*a+2*(y*z+w*x)*s*b+(w*w-x*x-y*y+z*z)*s*c)=b)∧
  (2*(x*z+w*y)*s*((w*w+x*x-y*y-z*z)*s*a+2*(x*y-w*z)*s*b+2*(x*z+w*y)*s*c)+2*(y*z-w*x)*s*(2*(x*y+w*z)*s*a+(w*w-x*x+y*y-z*z)*s*b+2*(y*z-w*x)*s*c)+(w*w-x*x-y*y+z*z)*s*(2*(x*z-w*y)*s*a+2*(y*z+w*x)*s*b+(w*w-x*x-y*y+z*z)*s*c)=c):=by
 have k:∀d:Rat,(w*w+x*x+y*y+z*z)*(w*w+x*x+y*y+z*z)*(s*s)*d=d:=fun d=>by
  have:(w*w+x*x+y*y+z*z)*(w*w+x*x+y*y+z*z)*(s*s)*d=(s*(w*w+x*x+y*y+z*z))*(s*(w*w+x*x+y*y+z*z))*d:=by grind
  rw[this,H,Rat.one_mul,Rat.one_mul]
 refine⟨?_,?_,?_⟩
 ·refine Eq.trans ?_ (k a);grind
 ·refine Eq.trans ?_ (k b);grind
 ·refine Eq.trans ?_ (k c);grind
variable{t:I4}
theorem Oh(hz:¬xY t)(b:Bool)(v:V3):mF (wJ (nr t (!b))) (mF (wJ (nr t b)) v)=v:=by
 have S:=Ge hz;obtain⟨w,x,y,z⟩:=t;obtain⟨a,e,c⟩:=v;simp only at S;have V:∀(n:Int) (d:Nat),mkRat n d=(n:Rat)*(1 / (d:Rat)):=fun n d=>by rw[Rat.mkRat_eq_div,Rat.div_def,Rat.div_def,Rat.one_mul]
 have R:((Ce (w,x,y,z):Nat):Rat)=(w:Rat)*w+x*x+y*y+z*z:=by
  have e:((Ce (w,x,y,z):Nat):Int)=w*w+x*x+y*y+z*z:=by unfold Ce;simp only;omega
  rw[show((Ce (w,x,y,z):Nat):Rat)=(((Ce (w,x,y,z):Nat):Int):Rat) from rfl,e,Rat.intCast_add,Rat.intCast_add,Rat.intCast_add,Rat.intCast_mul,Rat.intCast_mul,Rat.intCast_mul,Rat.intCast_mul]
 have O:(Ce (w,x,y,z):Rat)≠0:=by
  have:Ce (w,x,y,z)≠0:=by unfold Ce;simp only;omega
  exact_mod_cast this
 have X:=Rat.div_mul_cancel (a:=1) O;have U:Ce (w,-x,-y,-z)=Ce (w,x,y,z):=by unfold Ce;simp only[Int.neg_mul_neg]
 obtain⟨s,Z⟩:=xE (1 / (Ce (w,x,y,z):Rat));rw[←Z,R] at X;obtain⟨N,M,L⟩:=RZ s w x y z a e c X;obtain⟨G,F,D⟩:=RZ s w (-x) (-y) (-z) a e c (by rw[←X];grind);cases b
 ·show mF (wJ (w,-x,-y,-z)) (mF (wJ (w,x,y,z)) (a,e,c))=(a,e,c)
  unfold mF wJ dj;simp only[V,U,←Z,Rat.intCast_add,Rat.intCast_sub,Rat.intCast_mul,Rat.intCast_neg,show((2:Int):Rat)=2 from rfl];refine Prod.ext ?_ (Prod.ext ?_ ?_)
  ·simp only;rw[←N];grind
  ·simp only;rw[←M];grind
  ·simp only;rw[←L];grind
 ·show mF (wJ (w,x,y,z)) (mF (wJ (w,-x,-y,-z)) (a,e,c))=(a,e,c)
  unfold mF wJ dj;simp only[V,U,←Z,Rat.intCast_add,Rat.intCast_sub,Rat.intCast_mul,Rat.intCast_neg,show((2:Int):Rat)=2 from rfl];refine Prod.ext ?_ (Prod.ext ?_ ?_)
  ·simp only;rw[←G];grind
  ·simp only;rw[←F];grind
  ·simp only;rw[←D];grind
theorem Wb(hz:¬xY t)(c:V3)(b:Bool)(p:V3):W9 t c (!b) (W9 t c b p)=p:=by have Z:=Oh hz b p;have X:=Oh hz b c;unfold W9;obtain⟨R,V⟩:=xE (wJ (nr t b));obtain⟨S,hS⟩:=xE (wJ (nr t (!b)));rw[←V,←hS] at Z X ⊢;unfold mF dj pT Ov at*;simp only[Prod.ext_iff] at Z X ⊢;obtain⟨U,O,N⟩:=Z;obtain⟨M,L,G⟩:=X;refine⟨?_,?_,?_⟩<;>grind
end Go.Proofs
