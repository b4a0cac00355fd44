/- See G38. -/
import Derived.Test.YthpgbelancmpjaaGreatDoorG34
set_option linter.all false
set_option maxRecDepth 100000
set_option maxHeartbeats 40000000
namespace Go.Proofs
open Go.Eng
open Tryz
variable{Z:List Int}
theorem T8{i:Nat}(h:i<Z.length):(qH Z)[i]? =some ((qH Z).getD i 0):=by
 unfold qH;obtain⟨z,X⟩:∃z,Z[i]? =some z:=⟨_,G2 h⟩
 simp[List.getD,QQJ,X]
def hOk(s:afv)(Z:List Int):Prop:=Z.length=s.P.length/\∀z∈Z,z.natAbs<1000
theorem su(h:∀z∈Z,z.natAbs<1000)(i:Nat):dg 4 4 ((qH Z).getD i 0):=by
 by_cases X:i<Z.length
 .exact V8 h _ (J1 (T8 X))
 .have:(qH Z).getD i 0=0:=by simp[qH,List.getD,List.getElem?_eq_none (show Z.length<=i by omega)]
  rw[this];exact Zk.mono (by decide) (by decide)
theorem YK:dg 1 1 (1:Rat):=⟨by decide,by decide⟩
variable{f g h:Rat}{m n:Nat}
theorem Um{A B C:P2}(H:pDg n A)(I:pDg n B)(J:pDg n C)(hf:dg m m f)(hg:dg m m g)(Y:dg m m h)(hS:bD A B C≠0):dg (12*n+4*m+15) (12*n+4*m+15) (slX A B C f g h).1/\dg (12*n+4*m+15) (12*n+4*m+15) (slX A B C f g h).2:=by
 have i:=Ta YK (jC H I J) hS;have k:∀{x y z w:Rat},dg (2*m+1) (2*m+1) x->dg (2*n+1) (2*n+1) y->dg (2*n+1) (2*n+1) z->dg (2*m+1) (2*m+1) w->dg (4*n+4*m+5) (4*n+4*m+5) (x*y-z*w):=fun X V h3 U=>(pF (dp X V) (dp h3 U)).mono (by omega) (by omega)
 have d:∀{x y:Rat},dg n n x->dg n n y->dg (2*n+1) (2*n+1) (x-y):=fun X V=>(pF X V).mono (by omega) (by omega)
 have e:∀{x y:Rat},dg m m x->dg m m y->dg (2*m+1) (2*m+1) (x-y):=fun X V=>(pF X V).mono (by omega) (by omega)
 have S:dg (4*n+4*m+5) (4*n+4*m+5) ((B.1-A.1)*(h-f)-(g-f)*(C.1-A.1)):=(pF (dp (d I.1 H.1) (e Y hf)) (dp (e hg hf) (d J.1 H.1))).mono (by omega) (by omega);exact⟨(dp i (k (e hg hf) (d J.2 H.2) (d I.2 H.2) (e Y hf))).mono (by omega) (by omega),(dp i S).mono (by omega) (by omega)⟩
theorem Xy{A B C:P2}(h0:0<n)(h1:0<m)(h2:12*n+4*m+15<=200)(H:pDg n A)(I:pDg n B)(J:pDg n C)(hf:dg m m f)(hg:dg m m g)(Y:dg m m h)(hS:bD A B C≠0):ahK A B C f g h:=by
 have F:∀{k:Nat}{z:Rat},dg k k z->0<k->k<=40000->fI z:=fun h a b=>pI h a b
 have d:∀{x y:Rat},dg n n x->dg n n y->dg (2*n+1) (2*n+1) (x-y):=fun h1 h2=>(pF h1 h2).mono (by omega) (by omega)
 have e:∀{x y:Rat},dg m m x->dg m m y->dg (2*m+1) (2*m+1) (x-y):=fun h1 h2=>(pF h1 h2).mono (by omega) (by omega)
 have i:=Ta YK (jC H I J) hS;obtain⟨X,V⟩:=Um H I J hf hg Y hS;have X:=X.mono (n' :=200) (d' :=200) h2 h2;have V:=V.mono (n' :=200) (d' :=200) h2 h2;refine⟨⟨F H.1 h0 (by omega),F H.2 h0 (by omega)⟩,⟨F I.1 h0 (by omega),F I.2 h0 (by omega)⟩,⟨F J.1 h0 (by omega),F J.2 h0 (by omega)⟩,⟨F hf h1 (by omega),F hg h1 (by omega),F Y h1 (by omega)⟩,
  ⟨⟨F (d I.1 H.1) (by omega) (by omega),F (d I.2 H.2) (by omega) (by omega)⟩,F (d J.1 H.1) (by omega) (by omega),F (d J.2 H.2) (by omega) (by omega)⟩,
  ⟨F (e hg hf) (by omega) (by omega),F (e Y hf) (by omega) (by omega)⟩,
  ⟨F (dp (d I.1 H.1) (d J.2 H.2)) (by omega) (by omega),F (dp (d I.2 H.2) (d J.1 H.1)) (by omega) (by omega)⟩,
  ⟨F (dp (e hg hf) (d J.2 H.2)) (by omega) (by omega),F (dp (d I.2 H.2) (e Y hf)) (by omega) (by omega)⟩,
  ⟨F (dp (d I.1 H.1) (e Y hf)) (by omega) (by omega),F (dp (e hg hf) (d J.1 H.1)) (by omega) (by omega)⟩,
  ⟨F (jC H I J) (by omega) (by omega),hS⟩,
  ⟨F (pF (dp (e hg hf) (d J.2 H.2)) (dp (d I.2 H.2) (e Y hf))) (by omega) (by omega),F (pF (dp (d I.1 H.1) (e Y hf)) (dp (e hg hf) (d J.1 H.1))) (by omega) (by omega)⟩,
  F (i.mono (n' :=8*n+6) (d' :=8*n+6) (by omega) (by omega)) (by omega) (by omega),?_,jW X (by omega) (by omega),jW V (by omega) (by omega)⟩
 simp[vo,gB X,gB V]
theorem TR{A B C:P2}(H:pDg 5 A)(I:pDg 5 B)(J:pDg 5 C)(hf:dg 4 4 f)(hg:dg 4 4 g)(Y:dg 4 4 h)(hS:bD A B C≠0):vDg 91 (UH A B C f g h):=by obtain⟨X,V⟩:=Um H I J hf hg Y hS;exact⟨Tb (X.mono (by omega) (by omega)),Tb (V.mono (by omega) (by omega)),YK.mono (by omega) (by omega)⟩
def sN(s:afv)(pb tb j:Nat)(A B C:P2)(t:Tr)(c:Go.Eng.Callee)(a:List AV)(N:Mem)(r:afl):Prop:=
 (∃(X:Nat) (Z:List Int),c=.fn 236/\a=[.agg [.slice pb 0 s.P.length none,.slice tb 0 s.T.length none],.slice X 0 (qH Z).length none,.int .i64 (j:Int)]/\(∃o,N[X]? =some (.cells o 1 (qC (qH Z))))/\(∃o,N[pb]? =some (.cells o 2 (pC s.P)))/\(∃o,N[tb]? =some (.cells o 3 (tC s.T)))/\hOk s Z/\r=⟨.tuple [vA (Dp A B C t (qH Z)).1,.int .i64 0],none,[]⟩)\/
 (∃x y:V3,c=.fn 113/\a=[vA x,vA y]/\GZ x y/\r=⟨.str (aq (iK x y)),none,[]⟩)
theorem YA{x y:V3}(h:vA x=vA y):x=y:=by unfold vA at h;simp only[AV.agg.injEq,List.cons.injEq,AV.str.injEq,and_true] at h;exact Prod.ext (dy h.1) (Prod.ext (dy h.2.1) (dy h.2.2))
variable{Ys:List (List Int)}
section
variable {s:afv}{pb tb j:Nat}{A B C:P2}{t:Tr}
theorem yX{c:Go.Eng.Callee}{a:List AV}{N:Mem}{r r' :afl}(h:sN s pb tb j A B C t c a N r)(h' :sN s pb tb j A B C t c a N r'):r' =r:=by
 rcases h with⟨R,Z,rfl,rfl,⟨o,U⟩,_,_,_,rfl⟩ | ⟨x,y,rfl,rfl,_,rfl⟩
 .rcases h' with⟨V,S,_,e,⟨O,X⟩,_,_,_,rfl⟩ | ⟨x,y,e,_⟩
  .simp only[List.cons.injEq,AV.slice.injEq,true_and,and_true] at e
   obtain⟨rfl,_⟩:=e;rw[U] at X;simp only[Pi,afq.cells.injEq,true_and] at X;have:=X.2;rw[WB this]
  .cases e
 .rcases h' with⟨V,S,e,_⟩ | ⟨M,L,_,e,_,rfl⟩
  .cases e
  .simp only[List.cons.injEq,and_true] at e
   rw[YA e.1,YA e.2]
theorem NP(Y:s.P.length<=1000)(hi:s.T[j]? =some t)(H:s.P[t.1]? =some A)(I:s.P[t.2.1]? =some B)(J:s.P[t.2.2]? =some C)(hS:0<bD A B C):qS prog (jV (sN s pb tb j A B C t)):=mX fun c a N r h=>by
 rcases h with⟨F,Z,rfl,rfl,⟨o,V⟩,⟨u,M⟩,⟨o2,h3⟩,⟨L,X⟩,rfl⟩ | ⟨x,y,rfl,rfl,V,rfl⟩
 .have a1:=gL H
  have a2:=gL I;have a3:=gL J;have U:bD A B C≠0:=by grind
  obtain⟨S,R,O⟩:pDg 5 A/\pDg 5 B/\pDg 5 C:=⟨gF s (J1 H),gF s (J1 I),gF s (J1 J)⟩;obtain⟨K,G⟩:=Um S R O (su X t.1) (su X t.2.1) (su X t.2.2) U;have:=Fo Y X L hi H I J (T8 (by omega)) (T8 (by omega)) (T8 (by omega)) ⟨pI K (by omega) (by omega),pI G (by omega) (by omega)⟩ (Xy (by omega) (by omega) (by omega) S R O (su X t.1) (su X t.2.1) (su X t.2.2) U) M h3 V;exact au (by simpa [Dp] using this)
 .exact bz (PY x y V N)
theorem BE{O:y9}{M0:Mem}{bm fr:Nat}{F:List AV}(H:O=jV (sN s pb tb j A B C t))(I:∀Y∈Z::Ys,hOk s Y)(J:Ys.length<=2)(hi:s.T[j]? =some t)(hA:s.P[t.1]? =some A)(hB:s.P[t.2.1]? =some B)(hC:s.P[t.2.2]? =some C)(hS:0<bD A B C)(m:M0[bm]? =some (.cells true 0 [.slice pb 0 s.P.length none,.slice tb 0 s.T.length none]))(r:∃o,M0[fr]? =some (.cells o 1 F))(p:∃o,M0[pb]? =some (.cells o 2 (pC s.P)))(tt:∃o,M0[tb]? =some (.cells o 3 (tC s.T)))(hl:F.length=Ys.length+1)(hF:∀(i:Nat) Y,(Z::Ys)[i]? =some Y->∃fb o,F[i]? =some (.slice fb 0 (qH Y).length none)/\M0[fb]? =some (.cells o 1 (qC (qH Y)))):
  ahF O M0 (.fn 236) (.fn 113) bm fr pb tb j s.P s.T t A F (((Z::Ys).map qH).map (Dp A B C t)) where
 m:=m
 r:=r
 l:=⟨by simpa using hl,by simp;omega⟩
 pp:=p
 tt:=tt
 hi:=hi
 hA:=hA
 f:=fun i x L=>by
  rw[List.map_map,QQJ] at L;obtain⟨Y,K,rfl⟩:=Y1.1 L;obtain⟨fb,o,f1,f2⟩:=hF i Y K;have U:=J1 K;obtain⟨R,X⟩:=I Y U;have a1:=gL hA;have N:∀{b:Nat}{S:afq}(V:Mem),M0[b]? =some S->(M0++V)[b]? =some S:=fun {b S} V hb=>gU hb _
  obtain⟨G,p⟩:=p;obtain⟨u,tt⟩:=tt;refine⟨fb,o,qH Y,(qH Y).getD t.1 0,f1,f2,T8 (by omega),fun V=>?_,fun V=>?_⟩
  .have x:sN s pb tb j A B C t (.fn 236) [.agg [.slice pb 0 s.P.length none,.slice tb 0 s.T.length none],.slice fb 0 (qH Y).length none,.int .i64 (j:Int)] (M0++V) ⟨.tuple [vA (Dp A B C t (qH Y)).1,.int .i64 0],none,[]⟩:=.inl ⟨fb,Y,rfl,rfl,⟨o,N V f2⟩,⟨G,N V p⟩,⟨u,N V tt⟩,⟨R,X⟩,rfl⟩
   rw[H];exact dL x fun r' M =>yX x M
  .have b1:=gF s (J1 hA)
   have nv:=TR b1 (gF s (J1 hB)) (gF s (J1 hC)) (su X t.1) (su X t.2.1) (su X t.2.2) (show bD A B C≠0 by grind);have d:GZ (UH A B C ((qH Y).getD t.1 0) ((qH Y).getD t.2.1 0) ((qH Y).getD t.2.2 0)) (A.1,A.2,(qH Y).getD t.1 0):=VI nv ⟨b1.1.mono (by omega) (by omega),b1.2.mono (by omega) (by omega),(su X t.1).mono (by omega) (by omega)⟩ (by omega) (by omega);have x:sN s pb tb j A B C t (.fn 113) [vA (Dp A B C t (qH Y)).1,.agg [.str (aq A.1),.str (aq A.2),.str (aq ((qH Y).getD t.1 0))]] (M0++V) ⟨.str (aq (Dp A B C t (qH Y)).2),none,[]⟩:=.inr ⟨_,(A.1,A.2,(qH Y).getD t.1 0),rfl,rfl,d,rfl⟩;rw[H];exact dL x fun r' M =>yX x M
theorem Dv{M:Mem}{o1 o2:Bool}{c:Evc}{ev:List AV}(h0:0<s.P.length)(hn:s.P.length<=1000)(hw:∀Y∈Z::Ys,hOk s Y)(I:Ys.length<=2)(hcB:c.B=hS Z)(hcS:c.S=Ys.map hS)(hE:agc M ev c)(m1:M[pb]? =some (.cells o1 2 (pC s.P)))(m2:M[tb]? =some (.cells o2 3 (tC s.T)))(hi:s.T[j]? =some t)(hA:s.P[t.1]? =some A)(hB:s.P[t.2.1]? =some B)(hC:s.P[t.2.2]? =some C)(hS:0<bD A B C):
  ∃k n,k<n/\kO prog 158 [.agg [.slice pb 0 s.P.length none,.slice tb 0 s.T.length none],.agg ev,.int .i64 (j:Int)] M (.tuple [.slice (M.length+k) 0 (Ys.length+1) none,.int .i64 0]) (M++agr n k (.cells true 4 (pnC (((Z::Ys).map qH).map (Dp A B C t))))):=by
 obtain⟨b,u,sv,kn,rfl,h1,h2,⟨J,R,N,hv3⟩,h4⟩:=hE;have a1:=gL hA;have eB:c.B.length=(qH Z).length:=by rw[Ua,hcB];exact kP Z
 have eS:c.S.length=Ys.length:=by rw[hcS];simp
 rw[eB] at h1;rw[eS] at R N;obtain⟨U,o3,rfl,hb⟩:=h1.pos (by rw[Ua];have:=(hw Z (by simp)).1;omega);have Zu :M[U]? =some (.cells o3 1 (qC (qH Z))):=by rw[<-Pg,<-hcB];exact hb
 have hO:=NP (s:=s) (pb:=pb) (tb:=tb) (j:=j) (t:=t) hn hi hA hB hC hS;have G':(((Z::Ys).map qH).map (Dp A B C t)).length=Ys.length+1:=by simp
 have L:∀{b:Nat}{S:afq}(V:Mem),M[b]? =some S->(M++V)[b]? =some S:=fun {b S} V hb=>gU hb _
 have fin:∀{ev:List AV}{w:AV}{X:Mem},kO prog 158 [.agg [.slice pb 0 s.P.length none,.slice tb 0 s.T.length none],.agg ev,.int .i64 (j:Int)] M (.tuple [w,.int .i64 0]) (M++X)->(∃k,w=.slice (M.length+k) 0 (((Z::Ys).map qH).map (Dp A B C t)).length none/\(M++X)[M.length+k]? =some (.cells true 4 (pnC (((Z::Ys).map qH).map (Dp A B C t)))))->
   ∃k n,k<n/\kO prog 158 [.agg [.slice pb 0 s.P.length none,.slice tb 0 s.T.length none],.agg ev,.int .i64 (j:Int)] M (.tuple [.slice (M.length+k) 0 (Ys.length+1) none,.int .i64 0]) (M++agr n k (.cells true 4 (pnC (((Z::Ys).map qH).map (Dp A B C t))))):=fun {ev w X} h ⟨k,e,hk⟩=>by
  rw[e,G'] at h;obtain⟨O,K⟩:=h.agr hk;exact⟨k,X.length,O,K⟩
 by_cases hY:Ys=[]
 .subst hY
  obtain rfl:=N.af0 rfl;have H:=BE (M0:=M++[.cells true 0 [.slice pb 0 s.P.length none,.slice tb 0 s.T.length none],.cells true 0 (c.cells (.slice U 0 (qH Z).length none) u .qF kn),.qK,.cells true 1 [.slice U 0 (qH Z).length none]]) (bm:=M.length) (fr:=M.length+3) (F:=[.slice U 0 (qH Z).length none]) rfl hw I hi hA hB hC hS (by rw[yr];rfl) ⟨true,by rw[wU];rfl⟩ ⟨o1,L _ m1⟩ ⟨o2,L _ m2⟩ rfl (fun i Y h=>by
   match i,h with
   |0,h=>simp only[List.getElem?_cons_zero,Pi] at h;subst h;exact⟨U,o3,rfl,L _ Zu⟩
   |i+1,h=>simp at h)
  obtain⟨w,X,O,K⟩:=Ku hO h2.ck h4.ck H;exact fin O K
 .have hp:0<Ys.length:=List.length_pos_iff.2 hY
  obtain⟨cb,o4,rfl,hc⟩:=N.pos hp;have adI :∀(i:Nat) Y,Ys[i]? =some Y->∃U o,J[i]? =some (.slice U 0 (qH Y).length none)/\M[U]? =some (.cells o 1 (qC (qH Y))):=fun i Y h=>by
   have FS:=gL h;obtain⟨x,G⟩:∃x,J[i]? =some x:=⟨_,G2 (by omega)⟩
   have hYl:=(hw Y (List.mem_cons_of_mem _ (J1 h))).1;have:=hv3 i x (Go.Proofs.hS Y) G (by rw[hcS,QQJ,h];rfl);rw[kP,<-Ua] at this;obtain⟨f,o,rfl,hf⟩:=this.pos (by rw[Ua];omega);exact⟨f,o,G,by rw[<-Pg];exact hf⟩
  have hva:J.all AV.afp=true:=by
   rw[List.all_eq_true];intro x G;obtain⟨i,G⟩:=QXe G;have FS:=gL G;obtain⟨Y,hY⟩:∃Y,Ys[i]? =some Y:=⟨_,G2 (by omega)⟩
   obtain⟨f,o,h,_⟩:=adI i Y hY;rw[G] at h;cases h;rfl
  rw[<-R] at hp;have h3:=I;have H:=BE (M0:=M++[.cells true 0 [.slice pb 0 s.P.length none,.slice tb 0 s.T.length none],.cells true 0 (c.cells (.slice U 0 (qH Z).length none) u (.slice cb 0 J.length none) kn),.qK,.cells true 1 (.slice U 0 (qH Z).length none::J)]) (bm:=M.length) (fr:=M.length+3) (F:=.slice U 0 (qH Z).length none::J) rfl hw I hi hA hB hC hS (by rw[yr];rfl) ⟨true,by rw[wU];rfl⟩ ⟨o1,L _ m1⟩ ⟨o2,L _ m2⟩ (by simp[R]) (fun i Y h=>by
   match i,h with
   |0,h=>simp only[List.getElem?_cons_zero,Pi] at h;subst h;exact⟨U,o3,rfl,L _ Zu⟩
   |i+1,h=>
    obtain⟨f,o,O,K⟩:=adI i Y h;exact⟨f,o,O,L _ K⟩)
  rw[<-R];obtain⟨w,X,O,K⟩:=Kv hO h2.ck h4.ck hc hp (by omega) hva H;rw[R] at O |-;exact fin O K
end
end Go.Proofs
namespace Go.Proofs
open Go.Eng
theorem EP{P:List P2}{q:P2}:∀{T:List Tr} {k:Nat},(mM P q T k).length<=T.length
 | [],k=>L9 0
 |t::r,k=>by
  rw[mM];have:=EP (P:=P) (q:=q) (T:=r) (k:=k+1);split
  .rw[List.length_cons,List.length_cons];omega
  .rw[List.length_cons];omega
section
variable {f g:FuncId}{a b:List AV}{p:Mem->Prop}{r:afl}{m:Mem}{L:List (FuncId×List AV×(Mem->Prop)×afl)}{O:y9}
theorem qm(h:p m):y9.or (fD ((f,a,p,r)::L)) O (.fn f) a m=some r:=by unfold y9.or;rw[iz h]
theorem ff(h:f≠g\/¬p m):y9.or (fD ((f,a,p,r)::L)) O (.fn g) b m=y9.or (fD L) O (.fn g) b m:=by unfold y9.or;rw[dX h]
theorem OB{c:Go.Eng.Callee}:y9.or (fD []) O c a m=O c a m:=rfl
end
theorem PB(f:Nat->Bool):∀X:List (V3×Rat),AV.afs f (pnC X)=true
 | []=>rfl
 |x::l=>by rw[pnC,kA,PB f l];rfl
theorem N6{n:Nat}{a b c:P2}(H:pDg n a)(I:pDg n b)(hc:pDg n c)(h0:0<n)(h1:n<=400):WU a b c:=by
 have F:∀{k:Nat}{z:Rat},dg k k z->0<k->k<=40000->fI z:=fun h a b=>pI h a b
 have d:∀{x y:Rat},dg n n x->dg n n y->dg (2*n+1) (2*n+1) (x-y):=fun h1 Z=>(pF h1 Z).mono (by omega) (by omega)
 exact⟨⟨⟨F H.1 h0 (by omega),F H.2 h0 (by omega)⟩,⟨F I.1 h0 (by omega),F I.2 h0 (by omega)⟩,F hc.1 h0 (by omega),F hc.2 h0 (by omega)⟩,⟨F (d I.1 H.1) (by omega) (by omega),F (d hc.2 H.2) (by omega) (by omega),F (d I.2 H.2) (by omega) (by omega),F (d hc.1 H.1) (by omega) (by omega)⟩,F (dp (d I.1 H.1) (d hc.2 H.2)) (by omega) (by omega),F (dp (d I.2 H.2) (d hc.1 H.1)) (by omega) (by omega)⟩
theorem TH(s:afv){q:P2}(hq:pDg 5 q):ahT s.P s.T q where
 tri:=fun i t h=>by obtain⟨A,B,C,Z,X,h3,_⟩:=sF s h;have m1:=gF s (J1 Z);have m2:=gF s (J1 X);have m3:=gF s (J1 h3);exact⟨A,B,C,Z,X,h3,N6 m2 m3 hq (by omega) (by omega),N6 m3 m1 hq (by omega) (by omega),N6 m1 m2 hq (by omega) (by omega)⟩
 hl:=⟨(lH s).2,mq s⟩
theorem VG{s:afv}{Z:List Int}{H:List (List Int)}{p:V3}{j:Nat}{w:V3}{t:Tr}{A B C:P2}(hw:∀Y∈Z::H,hOk s Y)(hm:∀Y∈H,∀(i:Nat) z y,Z[i]? =some z->Y[i]? =some y->z<=y)(I:MH s.P (p.1,p.2.1) s.T 0=some (j,w))(J:s.T[j]? =some t)(hA:s.P[t.1]? =some A)(hB:s.P[t.2.1]? =some B)(hC:s.P[t.2.2]? =some C)(hS:0<bD A B C):
  XV s.P s.T (qH Z) (H.map qH) p= -1+(EJ p (((Z::H).map qH).map (Dp A B C t)):Int):=by
 obtain⟨k,u,rfl,X,O,rfl,_⟩:=se I;rw[QQb] at J;rw[J] at X;cases X;have K:qc s.P (p.1,p.2.1) t=gZ A B C (p.1,p.2.1):=by unfold qc;simp[List.getD,hA,hB,hC]
 have N:s.T.getD (0+k) (0,0,0)=t:=by rw[QQb];simp[List.getD,J]
 rw[K] at O I;obtain⟨V,U,S⟩:=O;have V:=cM.1 V;have U:=cM.1 U;have S:=cM.1 S;have R:=wH A B C (p.1,p.2.1);have G:0<(gZ A B C (p.1,p.2.1)).1+(gZ A B C (p.1,p.2.1)).2.1+(gZ A B C (p.1,p.2.1)).2.2:=by unfold gZ;simp only;rw[R];exact hS
 have e:(H.map qH).map (fun Q=>ym s.T Q (0+k) (gZ A B C (p.1,p.2.1)))=(H.map qH).map fun Q=>mz (gZ A B C (p.1,p.2.1)) (Q.getD t.1 0) (Q.getD t.2.1 0) (Q.getD t.2.2 0):=by unfold ym;rw[N]
 have F:ym s.T (qH Z) (0+k) (gZ A B C (p.1,p.2.1))=mz (gZ A B C (p.1,p.2.1)) ((qH Z).getD t.1 0) ((qH Z).getD t.2.1 0) ((qH Z).getD t.2.2 0):=by unfold ym;rw[N]
 unfold XV;rw[I];simp only;rw[e,F,O8 (by grind),List.map_cons,List.map_cons,UC];by_cases c:p.2.2<mz (gZ A B C (p.1,p.2.1)) ((qH Z).getD t.1 0) ((qH Z).getD t.2.1 0) ((qH Z).getD t.2.2 0)
 .rw[if_pos c,if_neg (by grind),Ls c]
  .rfl
  .intro x M
   rw[List.map_map] at M;obtain⟨Y,L,rfl⟩:=QQm.1 M;have m:=Xl (hm Y L) (by rw[(hw Z (by simp)).1,(hw Y (by simp[L])).1]);exact To V U S G (m _) (m _) (m _)
 .rw[if_neg c,if_pos (by grind)]
  omega
section
variable {s:afv}{M:Mem}{pb tb:Nat}{o1 o2:Bool}{Z:List Int}{Ys:List (List Int)}{c:Evc}{ev:List AV}{v:V3}
end
section
variable {x y:AV}{M:Mem}{nm:List UInt8}{p n:V3}
end
section
variable {M:Mem}{pv tv:AV}{ev:List AV}{p:V3}{n:Int}{k0 k1 k2 nf k4:FuncId}
end
section
variable {K:Int}{g g1 mf nf g4:FuncId}{onl:Evc->Evc}{x y:Bool}{s:afv}{c:Evc}{M:Mem}{p t:Nat}{o o' :Bool}{ev:List AV}{v:V3}{n:Int}
end
section
variable {x:adM}{s:afv}{M:Mem}{p t:Nat}{o o' :Bool}{ev:List AV}{v:V3}
theorem Dj{c:Nat}(hc:c=1\/c=2\/c=3):(∀Y∈x.base.l s.P.length::iW x s.P.length c,hOk s Y)/\(iW x s.P.length c).length<=2/\∀Y∈iW x s.P.length c,∀(i:Nat) z y,(x.base.l s.P.length)[i]? =some z->Y[i]? =some y->z<=y:=by
 have lB:(x.base.l s.P.length).length=s.P.length:=x.base.afP _;have O:∀h L,(upL h L s.P.length).length=s.P.length:=fun h L=>fE h L _
 have V:hOk s (x.base.l s.P.length):=⟨lB,fun z X=>by have:=kc x _ z X;omega⟩;have N:hOk s (upL x.s0 (x.base.l s.P.length) s.P.length):=⟨O _ _,fun z X=>by have:=mr x _ z X;omega⟩;have G:hOk s (upL x.s1 (upL x.s0 (x.base.l s.P.length) s.P.length) s.P.length):=⟨O _ _,fun z X=>by unfold upL at X;obtain⟨k,U,rfl⟩:=QQm.1 X;have U:=List.mem_range.1 U;have F:=mr x s.P.length _ (mK (l:=upL x.s0 (x.base.l s.P.length) s.P.length) (k:=k) (by rw[fE];exact U));have:=x.s1.ag4 k;unfold upL at F;omega⟩
 have S:∀(i:Nat) z y,(x.base.l s.P.length)[i]? =some z->(upL x.s0 (x.base.l s.P.length) s.P.length)[i]? =some y->z<=y:=fun i z y X R=>MC X R
 have C:∀(i:Nat) z y,(x.base.l s.P.length)[i]? =some z->(upL x.s1 (upL x.s0 (x.base.l s.P.length) s.P.length) s.P.length)[i]? =some y->z<=y:=fun i z y X R=>by
  obtain⟨w,K⟩:∃w,(upL x.s0 (x.base.l s.P.length) s.P.length)[i]? =some w:=⟨_,G2 (by rw[fE];have:=gL X;omega)⟩
  have B:=S i z w X K;have u:w<=y:=MC K R;omega
 rcases hc with rfl | rfl | rfl
 .exact⟨fun Y Z=>by simp only[iW,List.mem_singleton] at Z;subst Z;exact V,by simp[iW],fun Y Z=>by simp[iW] at Z⟩
 .refine⟨fun Y Z=>?_,by simp[iW],fun Y Z=>?_⟩
  .simp only[iW,lM] at Z
   rcases Z with rfl | rfl
   .exact V
   .exact N
  .simp only[iW,List.mem_singleton] at Z
   subst Z;exact S
 .refine⟨fun Y Z=>?_,by simp[iW],fun Y Z=>?_⟩
  .simp only[iW,lM] at Z
   rcases Z with rfl | rfl | rfl
   .exact V
   .exact N
   .exact G
  .simp only[iW,lM] at Z
   rcases Z with rfl | rfl
   .exact S
   .exact C
end
end Go.Proofs
namespace Go.Proofs
open Go.Eng
open Tryz
def plB(X:List (V3×Rat)):Mem:=X.map fun x=>.cells true 0 (vL x.1++[.str (aq x.2)])
structure ah0 (O:y9)(N:Mem)(cF:Go.Eng.Callee)(wb:Nat)(X:List (V3×Rat)):Prop where
 w:∃o,N[wb]? =some (.cells o 4 (pnC X))
 l:X.length<=4
 d:∀x∈X,∀Z,O cF [plA x] (N++Z)=some ⟨.int .i64 0,none,[]⟩
variable{b:Code}{env:Env}
section
variable {O:y9}{N:Mem}{n i wb:Nat}{o:Bool}{X:List (V3×Rat)}{x:V3×Rat}
section
variable (hb:ag f11=[b])
include hb
theorem KI(hw:N[wb]? =some (.cells o 4 (pnC X)))(hn:X.length=n)(Y:X[i]? =some x)(hn3:n<=4)(eC:∀Z,O (.fn 45) [plA x] (N++Z)=some ⟨.int .i64 0,none,[]⟩)(H:ad env 41=.slice wb 0 n none)(I:ad env 42=.int .i64 (n:Int))(J:ad env 43=.int .i64 (i:Int))(m0:Nat)(d:Bool):
  ∃V,aL (aX prog) (fun _=>[43,43,43]) O 6 52 m0 true b ⟨env,N,d⟩=some (.normal,V)/\ad V.env 43=.int .i64 ((i+1:Nat):Int)/\V.mem=N++[.cells true 0 (vL x.1++[.str (aq x.2)])]:=by
 simp[ag,aE,f11] at hb;subst hb;have S:i<n:=by have:=gL Y;omega
 obtain⟨R,M⟩:=T4 Y;have U:IntKind.i64.wrap ((i:Int)+1)=((i+1:Nat):Int):=by rw[af];omega
 obtain⟨K,L⟩:=xE (i+1);rw[<-L] at U |-;unfold plA vL at*;simp only[List.cons_append,List.nil_append] at eC;simp[-getElem?_pos,-AV.afp,-AV.known,-AV.cells,-cN,-List.all_eq_true,vS,mS,H,I,J,S,hw,eC,U,R,M,-bP,-bw,-AV.afm,-afq.afm]
theorem zb(H env:Env):ad (an [43,43,43] (aa b) H env) 43=ad env 43/\ad (an [43,43,43] (aa b) H env) 41=ad H 41/\ad (an [43,43,43] (aa b) H env) 42=ad H 42/\ad (an [43,43,43] (aa b) H env) 9=ad H 9:=by simp[ag,aE,f11] at hb;subst hb;simp[an]
theorem NR{n:Nat}(H:ad env 42=.int .i64 (n:Int))(I:ad env 43=.int .i64 (n:Int))(m0:Nat)(d:Bool):
  ∃Z,aL (aX prog) (fun _=>[43,43,43]) O 6 52 m0 true b ⟨env,N,d⟩=some (.exit 0,⟨Z,N,d⟩)/\ad Z 9=ad env 9:=by
 simp[ag,aE,f11] at hb;subst hb;simp[H,I]
end
theorem za{b:Code}(I:ag f11=[b])(H0:ah0 O N (.fn 45) wb X)
  {H:Env}(l41:ad H 41=.slice wb 0 X.length none) (J:ad H 42=.int .i64 (X.length:Int)) (m1 m0:Nat):
  ∀(k i:Nat) (Z:Mem) (env:Env) (d:Bool) (K:Nat),i+k=X.length->k<K->ad env 43=.int .i64 (i:Int)->
   ∃r:Env×Bool,fj [43,43,43] (aa b) H m1 (aL (aX prog) (fun _=>[43,43,43]) O 6 52 m0 true b) K ⟨an [43,43,43] (aa b) H env,N++Z,d⟩=some (.exit 0,⟨r.1,N++(Z++plB (X.drop i)),r.2⟩)/\ad r.1 9=ad H 9
 |0,i,Z,env,d,K,hk,hK,h43=>by
  obtain⟨K,rfl⟩:∃k,K=k+1:=⟨K-1,by omega⟩
  obtain rfl:i=X.length:=by omega
  obtain⟨U,L,R,G⟩:=zb I H env;obtain⟨F,C,B⟩:=NR (O:=O) (N:=N++Z) I (env:=an [43,43,43] (aa b) H env) (by rw[R];exact J) (by rw[U];exact h43) m0 d;rw[List.drop_length,show plB []=[] from rfl,List.append_nil];exact⟨(F,d),by rw[fj,C],by rw[B,G]⟩
 |k+1,i,Z,env,d,K,hk,hK,h43=>by
  obtain⟨K,rfl⟩:∃k,K=k+1:=⟨K-1,by omega⟩
  obtain⟨U,L,R,_⟩:=zb I H env;obtain⟨x,M⟩:∃t,X[i]? =some t:=⟨_,G2 (by omega)⟩
  have d1:=H0.d x (J1 M);obtain⟨o,u⟩:=H0.w;have m:X.drop i=x::X.drop (i+1):=by obtain⟨j,e⟩:=O2.1 M;rw[N0 j,e]
  have up:∀{b:Nat}{S:afq},N[b]? =some S->(N++Z)[b]? =some S:=fun {b S} I=>gU I _
  obtain⟨V,t1,t2,t4⟩:=KI (O:=O) (n:=X.length) (i:=i) I (up u) rfl M H0.l (fun Y=>by rw[QQQ];exact d1 _)
   (env:=an [43,43,43] (aa b) H env) (by rw[L];exact l41) (by rw[R];exact J) (by rw[U];exact h43) m0 d
  rw[m,fj,t1];simp only;have hs:jP [43,43,43] (aa b) H m1 V =⟨an [43,43,43] (aa b) H V.env,V.mem,V.afH⟩:=by simp[jP,mY]
  rw[hs,t4,QQQ];obtain⟨r,r1,r2⟩:=za I H0 l41 J m1 m0 k (i+1) (Z++[.cells true 0 (vL x.1++[.str (aq x.2)])]) V.env V.afH K (by omega) (by omega) t2;refine⟨r,?_,r2⟩;rw[r1];simp[plB]
theorem KF(H:ah0 O N (.fn 45) wb X)(I:ag f11=[b])(m0:Nat):
  ∃G:Env->Bool->Env×Bool,∀env d,(ad env 41=.slice wb 0 X.length none/\ad env 42=.int .i64 (X.length:Int)/\ad env 43=.int .i64 0)->
   aL (aX prog) (fun _=>[43,43,43]) O 6 52 m0 true (.loop b) ⟨env,N,d⟩=some (.exit 0,⟨(G env d).1,N++plB X,(G env d).2⟩)/\ad (G env d).1 9=ad env 9:=by
 obtain⟨G,Z⟩:=sG (β:=Env×Bool) (p:=fun env _=>ad env 41=.slice wb 0 X.length none/\ad env 42=.int .i64 (X.length:Int)/\ad env 43=.int .i64 0)
  (q:=fun env d r=>aL (aX prog) (fun _=>[43,43,43]) O 6 52 m0 true (.loop b) ⟨env,N,d⟩=some (.exit 0,⟨r.1,N++plB X,r.2⟩)/\ad r.1 9=ad env 9) (fun env d ⟨a41,a42,a43⟩=>by
  have V:=H.l;have:=za (O:=O) (N:=N) I H a41 a42 N.length m0 X.length 0 [] env d 6 (by omega) (by omega) a43;rw[List.drop_zero,List.append_nil,List.nil_append] at this;exact this)
 exact⟨G,Z⟩
end
end Go.Proofs
namespace Go.Proofs
open Go.Eng
open Tryz
theorem yP(a b c d e:AV):tP (aX prog) 125 (.agg [a,b,c,d,e]) 4=some e:=by kernel_rfl
theorem y8:(aJ f11).map (fun o=>dT o.toList)=[[0,1,3,0,0,0,63,127,255,255,511,2047]]:=by kernel_rfl
section
variable {O:y9}{M V:Mem}{ev:List AV}{pv:AV}{X:List (V3×Rat)}{tb m wb:Nat}{j:Int}{k0 k1 k2 k3 k4:FuncId}
theorem ag1:aZ prog 11=some f11:=by kernel_rfl
section
variable (hO:qS prog O)(cp:pv.afp=true)
include hO cp
theorem Gw(H:ev.length=32)(J:ev.all AV.afp=true)(Y:m<=1000)(hj:j<0\/(m:Int)<=j)(I:∀Z,O (.fn 25) [.agg [pv,.slice tb 0 m none],.agg ev] (M++Z)=some ⟨.int .i64 0,none,[]⟩):
  kO prog 11 [.agg [pv,.slice tb 0 m none],.agg ev,.int .i64 j] M (.tuple [.qF,.int .i64 3]) M:=by
 have t0:ev.take 32=ev:=B5 (by omega);have U:cI (aX prog) (fun _=>[43,43,43]) (aZ prog) O 6 11 [.agg [pv,.slice tb 0 m none],.agg ev,.int .i64 j] M=some (.tuple [.qF,.int .i64 3],M++[.cells true 0 [pv,.slice tb 0 m none],.cells true 0 ev]):=by
  by_cases h:j<0
  .simp[-getElem?_pos,-AV.afp,-AV.known,-AV.cells,-cN,-List.all_eq_true,vS,mS,cI,ag1,f11,H,t0,h,I]
  .have S:(m:Int)<=j:=by omega
   simp[-getElem?_pos,-AV.afp,-AV.known,-AV.cells,-cN,-List.all_eq_true,vS,mS,cI,ag1,f11,H,t0,h,S,I]
 exact kO.forget rfl (cf aj (aI _) hO (aQ _) U)
section
variable (rp:∀x,pv.afm (fun b=>decide (b<M.length+x))=true)(ht:tb<M.length)(rev:∀x,AV.afs (fun b=>decide (b<M.length+x)) ev=true)(hl:ev.length=32)(hck:ev.all AV.afp=true)(hm:m<=1000)(hj:0<=j/\j<(m:Int))(eB:∀Z,O (.fn 25) [.agg [pv,.slice tb 0 m none],.agg ev] (M++Z)=some ⟨.int .i64 0,none,[]⟩)(eK:∀Z,O (.fn 44) [.agg ev] (M++Z)=some ⟨.agg [.func k0 [],.func k1 [],.func k2 [],.func k3 [],.func k4 []],none,[]⟩)
include rp ht rev hl hck hm hj eB eK
theorem KH(H:O (.fn k4) [.agg [pv,.slice tb 0 m none],.agg ev,.int .i64 j] (M++[.cells true 0 [pv,.slice tb 0 m none],.cells true 0 ev])=some ⟨.tuple [.slice wb 0 X.length none,.int .i64 0],none,V⟩)(hV:∀f,(V.all fun s=>ma s&&s.afm f)=true)(J:wb<M.length+2+V.length)(I:ah0 O (M++([.cells true 0 [pv,.slice tb 0 m none],.cells true 0 ev]++V)) (.fn 45) wb X):
  kO prog 11 [.agg [pv,.slice tb 0 m none],.agg ev,.int .i64 j] M (.tuple [.slice wb 0 X.length none,.int .i64 0]) (M++([.cells true 0 [pv,.slice tb 0 m none],.cells true 0 ev]++(V++plB X))):=by
 have t0:ev.take 32=ev:=B5 (by omega);obtain⟨j0,j1⟩:=hj;have F:¬j<0:=by omega
 have C:¬(m:Int)<=j:=by omega
 obtain⟨b,S⟩:∃b,ag f11=[b]:=⟨_,rfl⟩
 obtain⟨G,Z⟩:=KF I S M.length;have R:=fun env d h=>(Z env d h).1
 have L:=fun env d h=>(Z env d h).2
 clear Z I;obtain⟨U,N⟩:∃U,aJ f11=U :=⟨_,rfl⟩
 have K :=cG N y8;simp only[aJ,cB,f11,List.nil_append,List.append_nil] at N;subst N;simp only[lB] at K;obtain⟨n,B⟩:=xE X.length;rw[<-B] at R L H |-;have u:∀x,tb<M.length+x:=fun x=>by omega
 have o:wb<M.length+(V.length+1+1):=by omega
 have Y:∀f k,AV.afm f (.func k [])=true:=fun _ _=>rfl
 have Zr:cI (aX prog) (fun _=>[43,43,43]) (aZ prog) O 6 11 [.agg [pv,.slice tb 0 m none],.agg ev,.int .i64 j] M=some (.tuple [.slice wb 0 n none,.int .i64 0],M++([.cells true 0 [pv,.slice tb 0 m none],.cells true 0 ev]++(V++plB X))):=by simp[ag,aE,f11] at S;subst S;simp only[List.cons_append,List.nil_append,QQQ] at H R;simp[-getElem?_pos,-AV.afp,-AV.known,-AV.cells,-cN,-List.all_eq_true,vS,rS,mS,cI,ag1,f11,rp,u,o,rev,hl,t0,F,C,eB,eK,H,hV,Y,R,L,-tP,yP,-bP,-bw,-aR,-AV.afm,-afq.afm,bW K,dq,dZ,fT,dD,dR,jB,bef,Nat.testBit]
 exact cf aj (aI _) hO (aQ _) Zr
theorem KG(H:O (.fn k4) [.agg [pv,.slice tb 0 m none],.agg ev,.int .i64 j] (M++[.cells true 0 [pv,.slice tb 0 m none],.cells true 0 ev])=some ⟨.tuple [.qF,.int .i64 0],none,[]⟩):
  kO prog 11 [.agg [pv,.slice tb 0 m none],.agg ev,.int .i64 j] M (.tuple [.qF,.int .i64 0]) M:=by
 have t0:ev.take 32=ev:=B5 (by omega);obtain⟨C,B⟩:=hj;have L:¬j<0:=by omega
 have K:¬(m:Int)<=j:=by omega
 obtain⟨Z,S⟩:∃Z,aJ f11=Z :=⟨_,rfl⟩
 have N :=cG S y8;simp only[aJ,cB,f11,List.nil_append,List.append_nil] at S;subst S;simp only[lB] at N;have G:∀x,tb<M.length+x:=fun x=>by omega
 have F:∀f k,AV.afm f (.func k [])=true:=fun _ _=>rfl
 have R:∃U,cI (aX prog) (fun _=>[43,43,43]) (aZ prog) O 6 11 [.agg [pv,.slice tb 0 m none],.agg ev,.int .i64 j] M=some (.tuple [.qF,.int .i64 0],M++U):=by simp[-getElem?_pos,-AV.afp,-AV.known,-AV.cells,-cN,-List.all_eq_true,vS,rS,mS,cI,ag1,f11,rp,G,rev,hl,t0,L,K,eB,eK,H,F,aM,fj,-tP,yP,-bP,-bw,-aR,-AV.afm,-afq.afm,bW N,dq,dZ,fT,dD,dR,jB,bef,Nat.testBit]
 obtain⟨U,R⟩:=R;exact kO.forget rfl (cf aj (aI _) hO (aQ _) R)
end
end
end
theorem Kx:(aJ f172).map (fun o=>dT o.toList)=[[0,1,0,4,0,16,48,124,255,0,1023]]:=by kernel_rfl
section
variable {M:Mem}{pb tb a b:Nat}(nm:List UInt8)(n:V3)(o:Rat)
theorem R8(v:V3)(j:Int):
  ∃k N,k<N/\kO prog 162 [.agg [.slice pb 0 a none,.slice tb 0 b none],.agg ((ie nm n o v).cells .qF .qF .qF .qF),.int .i64 j] M (.tuple [.slice (M.length+k) 0 1 none,.int .i64 0]) (M++agr N k (.cells true 4 (pnC [(n,o)]))):=by
 have Z:aZ prog 162=some f162:=by kernel_rfl
 have X:cI (aX prog) (fun _=>[]) (aZ prog) cO 1 162 [.agg [.slice pb 0 a none,.slice tb 0 b none],.agg ((ie nm n o v).cells .qF .qF .qF .qF),.int .i64 j] M=some (.tuple [.slice (M.length+2) 0 1 none,.int .i64 0],M++[.cells true 0 [.slice pb 0 a none,.slice tb 0 b none],.cells true 0 ((ie nm n o v).cells .qF .qF .qF .qF),.cells true 4 (pnC [(n,o)])]):=by unfold ie Evc.cells pnC vL;simp[-getElem?_pos,-AV.known,-AV.cells,-cN,vS,mS,cI,Z,f162,pnC]
 have:=(cf aj (aI _) (az _) (aQ _) X).agr (k:=2) (s:=.cells true 4 (pnC [(n,o)])) (by rw[wU];rfl);exact⟨_,_,this⟩
theorem Sa(w:Rat)(u:List UInt8)(j:Int)(H:fI o)(I:fI w)(J:pb<M.length)(Y:tb<M.length):
  ∃k N,k<N/\kO prog 172 [.agg [.slice pb 0 a none,.slice tb 0 b none],.agg ((kL nm n o w u).cells .qF .qF .qF .qF),.int .i64 j] M (.tuple [.slice (M.length+k) 0 2 none,.int .i64 0]) (M++agr N k (.cells true 4 (pnC [(n,o),(n,o+w)]))):=by
 have U:aZ prog 172=some f172:=by kernel_rfl
 obtain⟨f1,f2⟩:=H;obtain⟨f3,f4⟩:=I;obtain⟨Z,X⟩:∃Z,aJ f172=Z :=⟨_,rfl⟩
 have V :=cG X Kx;have R:∀x,pb<M.length+x:=fun x=>by omega
 have O:∀x,tb<M.length+x:=fun x=>by omega
 have L:∀(f:Nat->Bool) k n,(AV.int k n).afm f=true:=fun _ _ _=>rfl
 simp only[aJ,cB,f172,List.nil_append,List.append_nil] at X;subst X;simp only[lB] at V;have S:cI (aX prog) (fun _=>[]) (aZ prog) (ah bn) 1 172 [.agg [.slice pb 0 a none,.slice tb 0 b none],.agg ((kL nm n o w u).cells .qF .qF .qF .qF),.int .i64 j] M=some (.tuple [.slice (M.length+4) 0 2 none,.int .i64 0],M++[.cells true 0 [.slice pb 0 a none,.slice tb 0 b none],.cells true 0 ((kL nm n o w u).cells .qF .qF .qF .qF),.cells true 0 (vL n++[.str (aq o)]),.cells true 0 (vL n++[.str (aq (o+w))]),.cells true 4 (pnC [(n,o),(n,o+w)])]):=by unfold kL Evc.cells pnC vL;simp[-getElem?_pos,-AV.afp,-AV.known,-AV.cells,-cN,-List.all_eq_true,vS,rS,mS,cI,U,f172,ah,bn,bH,aF,f1,f2,f3,f4,cj,aH,pnC,vL,-bP,-bw,-aR,-AV.afm,-afq.afm,AV.afs,bW V,dq,dZ,fT,dD,dR,jB,bef,Nat.testBit]
 have:=(cf aj (aI _) cU (aQ _) S).agr (k:=4) (s:=.cells true 4 (pnC [(n,o),(n,o+w)])) (by rw[wU];rfl);exact⟨_,_,this⟩
theorem Sb{ev:List AV}(H:∀x∈ev,x.afp=true)(I:ev.length=32)(j:Int):
  kO prog 177 [.agg [.slice pb 0 a none,.slice tb 0 b none],.agg ev,.int .i64 j] M (.tuple [.qF,.int .i64 0]) M:=by
 have V:aZ prog 177=some f177:=by kernel_rfl
 have t0:ev.take 32=ev:=B5 (by omega);have U:ev.all AV.afp=true:=List.all_eq_true.2 H;have X:∃Z,cI (aX prog) (fun _=>[]) (aZ prog) cO 1 177 [.agg [.slice pb 0 a none,.slice tb 0 b none],.agg ev,.int .i64 j] M=some (.tuple [.qF,.int .i64 0],M++Z):=by simp[-getElem?_pos,-AV.afp,-List.all_eq_true,cI,V,f177]
 obtain⟨Z,X⟩:=X;exact kO.forget rfl (cf aj (aI _) (az _) (aQ _) X)
end
def fdB(n:V3):List P2->List P2->Mem
 |_,[]=>[]
 |D,[q]=>[.cells true 0 [.str (aq q.1),.str (aq q.2)],.cells true 4 (pnC [(n,q.1)]),.cells true 4 (pnC ((D++[q]).map fun q=>(n,q.1)))]
 |D,q::r::l=>[.cells true 0 [.str (aq q.1),.str (aq q.2)],.cells true 4 (pnC [(n,q.1)]),.qK]++fdB n (D++[q]) (r::l)
section
variable {M:Mem}{pb tb kb a b:Nat}{o:Bool}(nm:List UInt8)(n:V3)(v:V3)
section
variable (L:List P2)(hL:L.length=1\/L.length=2\/L.length=3)(hk:M[kb]? =some (.cells o 2 (kC (kT L))))(j:Int)
include L hL hk j
theorem NO:
  cI (aX prog) (fun _=>[15,15,15,8]) (aZ prog) cO 6 167 [.agg [.slice pb 0 a none,.slice tb 0 b none],.agg ((eL nm n L v).cells .qF .qF .qF (.slice kb 0 L.length none)),.int .i64 j] M=some (.tuple [.slice (M.length+(1+3*L.length)) 0 L.length none,.int .i64 0],M++([.cells true 0 [.slice pb 0 a none,.slice tb 0 b none],.cells true 0 ((eL nm n L v).cells .qF .qF .qF (.slice kb 0 L.length none))]++fdB n [] L)):=by
 have X:aZ prog 167=some f167:=by kernel_rfl
 have R:=gL hk;have V:IntKind.i64.wrap 1=1:=rfl;have U:IntKind.i64.wrap 2=2:=rfl;have S:IntKind.i64.wrap 3=3:=rfl;have Z:∀Y:Mem,(M++Y)[kb]? =some (.cells o 2 (kC (kT L))):=fun Y=>gU hk _
 match L,hL with
 | [p],_=>
  simp only[kT,kC,List.map_cons,List.map_nil] at hk Z;unfold eL Evc.cells;simp[-getElem?_pos,-AV.known,-AV.cells,-cN,vS,mS,cI,X,f167,V,Z,cj,aH,pnC,vL,fdB,aM,fj]
 | [p,q],_=>
  simp only[kT,kC,List.map_cons,List.map_nil] at hk Z;unfold eL Evc.cells;simp[-getElem?_pos,-AV.known,-AV.cells,-cN,vS,mS,cI,X,f167,V,U,Z,cj,aH,pnC,vL,fdB,aM,fj]
 | [p,q,r],_=>
  simp only[kT,kC,List.map_cons,List.map_nil] at hk Z;unfold eL Evc.cells;simp[-getElem?_pos,-AV.known,-AV.cells,-cN,vS,mS,cI,X,f167,V,U,S,Z,cj,aH,pnC,vL,fdB,aM,fj]
theorem R9:
  ∃k N,k<N/\kO prog 167 [.agg [.slice pb 0 a none,.slice tb 0 b none],.agg ((eL nm n L v).cells .qF .qF .qF (.slice kb 0 L.length none)),.int .i64 j] M (.tuple [.slice (M.length+k) 0 L.length none,.int .i64 0]) (M++agr N k (.cells true 4 (pnC (L.map fun q=>(n,q.1))))):=by
 have:=(cf aj (aI _) (az _) (aQ _) (NO (pb:=pb) (tb:=tb) (a:=a) (b:=b) nm n v L hL hk j)).agr (k:=1+3*L.length) (s:=.cells true 4 (pnC (L.map fun q=>(n,q.1)))) (by
  rw[wU]
  match L,hL with
  | [p],_=>rfl
  | [p,q],_=>rfl
  | [p,q,r],_=>rfl)
 exact⟨_,_,this⟩
end
end
end Go.Proofs
namespace Go.Proofs
open Go.Eng
noncomputable def VY(s:afv)(x:adM)(p:V3):Int:=match x.kind%5 with
 |0=>XK s x p
 |1=>Pd (zQ (fW x)) (hQ (ir (x.n 6))) p
 |2=>(mh (x.afM (ctM x)) (iK (zQ (fW x)) p):Int)
 |3=>dkL (zQ (fW x)) (hQ (ir (x.n 6))) (hQ (ps9 (x.n 7))) p
 |_=>0
section
variable {x:adM}{s:afv}{M:Mem}{p t:Nat}{o o' :Bool}{ev:List AV}{v:V3}
end
end Go.Proofs
