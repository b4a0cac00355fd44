/- See D38. -/
import Derived.Test.YthpgbelancmpjaaGreatDoorD35
set_option linter.all false
set_option maxRecDepth 100000
set_option maxHeartbeats 40000000
namespace Go.Proofs
open Go.Eng
open Tryz
variable{Z:List Int}
theorem TU{i:Nat}(h:i<Z.length):(qH Z)[i]? =some ((qH Z).getD i 0):=by
 unfold qH;obtain⟨z,X⟩:∃z,Z[i]? =some z:=⟨_,GT h⟩
 simp[List.getD,Zo,X]
def hOk(s:afq)(Z:List Int):Prop:=Z.length=s.P.length/\∀z∈Z,z.natAbs<1000
theorem mU(h:∀z∈Z,z.natAbs<1000)(i:Nat):dg 4 4 ((qH Z).getD i 0):=by
 by_cases X:i<Z.length
 .exact VX h _ (J1 (TU X))
 .have:(qH Z).getD i 0=0:=by simp[qH,List.getD,List.getElem?_eq_none (show Z.length<=i by omega)]
  rw[this];exact YW.mono (by decide) (by decide)
theorem Yy:dg 1 1 (1:Rat):=⟨by decide,by decide⟩
variable{f g h:Rat}{m n:Nat}
theorem Ua{A B C:P2}(H:pDg n A)(I:pDg n B)(J:pDg n C)(hf:dg m m f)(hg:dg m m g)(W:dg m m h)(hS:cf A B C≠0):dg (12*n+4*m+15) (12*n+4*m+15) (slX A B C f g h).1/\dg (12*n+4*m+15) (12*n+4*m+15) (slX A B C f g h).2:=by
 have i:=SN Yy (jE H I J) hS;have k:∀{x y z w:Rat},dg (2*m+1) (2*m+1) x->dg (2*n+1) (2*n+1) y->dg (2*n+1) (2*n+1) z->dg (2*m+1) (2*m+1) w->dg (4*n+4*m+5) (4*n+4*m+5) (x*y-z*w):=fun X V h3 U=>(nT (dy X V) (dy h3 U)).mono (by omega) (by omega)
 have d:∀{x y:Rat},dg n n x->dg n n y->dg (2*n+1) (2*n+1) (x-y):=fun X V=>(nT X V).mono (by omega) (by omega)
 have e:∀{x y:Rat},dg m m x->dg m m y->dg (2*m+1) (2*m+1) (x-y):=fun X V=>(nT X V).mono (by omega) (by omega)
 have S:dg (4*n+4*m+5) (4*n+4*m+5) ((B.1-A.1)*(h-f)-(g-f)*(C.1-A.1)):=(nT (dy (d I.1 H.1) (e W hf)) (dy (e hg hf) (d J.1 H.1))).mono (by omega) (by omega);exact⟨(dy i (k (e hg hf) (d J.2 H.2) (d I.2 H.2) (e W hf))).mono (by omega) (by omega),(dy i S).mono (by omega) (by omega)⟩
theorem Xh{A B C:P2}(h0:0<n)(h1:0<m)(h2:12*n+4*m+15<=200)(H:pDg n A)(I:pDg n B)(J:pDg n C)(hf:dg m m f)(hg:dg m m g)(W:dg m m h)(hS:cf A B C≠0):ahG A B C f g h:=by
 have F:∀{k:Nat}{z:Rat},dg k k z->0<k->k<=40000->ek z:=fun h a b=>gW h a b
 have d:∀{x y:Rat},dg n n x->dg n n y->dg (2*n+1) (2*n+1) (x-y):=fun h1 h2=>(nT h1 h2).mono (by omega) (by omega)
 have e:∀{x y:Rat},dg m m x->dg m m y->dg (2*m+1) (2*m+1) (x-y):=fun h1 h2=>(nT h1 h2).mono (by omega) (by omega)
 have i:=SN Yy (jE H I J) hS;obtain⟨X,V⟩:=Ua H I J hf hg W hS;have X:=X.mono (n' :=200) (d' :=200) h2 h2;have V:=V.mono (n' :=200) (d' :=200) h2 h2;refine⟨⟨F H.1 h0 (by omega),F H.2 h0 (by omega)⟩,⟨F I.1 h0 (by omega),F I.2 h0 (by omega)⟩,⟨F J.1 h0 (by omega),F J.2 h0 (by omega)⟩,⟨F hf h1 (by omega),F hg h1 (by omega),F W h1 (by omega)⟩,
  ⟨⟨F (d I.1 H.1) (by omega) (by omega),F (d I.2 H.2) (by omega) (by omega)⟩,F (d J.1 H.1) (by omega) (by omega),F (d J.2 H.2) (by omega) (by omega)⟩,
  ⟨F (e hg hf) (by omega) (by omega),F (e W hf) (by omega) (by omega)⟩,
  ⟨F (dy (d I.1 H.1) (d J.2 H.2)) (by omega) (by omega),F (dy (d I.2 H.2) (d J.1 H.1)) (by omega) (by omega)⟩,
  ⟨F (dy (e hg hf) (d J.2 H.2)) (by omega) (by omega),F (dy (d I.2 H.2) (e W hf)) (by omega) (by omega)⟩,
  ⟨F (dy (d I.1 H.1) (e W hf)) (by omega) (by omega),F (dy (e hg hf) (d J.1 H.1)) (by omega) (by omega)⟩,
  ⟨F (jE H I J) (by omega) (by omega),hS⟩,
  ⟨F (nT (dy (e hg hf) (d J.2 H.2)) (dy (d I.2 H.2) (e W hf))) (by omega) (by omega),F (nT (dy (d I.1 H.1) (e W hf)) (dy (e hg hf) (d J.1 H.1))) (by omega) (by omega)⟩,
  F (i.mono (n' :=8*n+6) (d' :=8*n+6) (by omega) (by omega)) (by omega) (by omega),?_,jJ X (by omega) (by omega),jJ V (by omega) (by omega)⟩
 simp[tG,im X,im V]
theorem TF{A B C:P2}(H:pDg 5 A)(I:pDg 5 B)(J:pDg 5 C)(hf:dg 4 4 f)(hg:dg 4 4 g)(W:dg 4 4 h)(hS:cf A B C≠0):vDg 91 (VP A B C f g h):=by obtain⟨X,V⟩:=Ua H I J hf hg W hS;exact⟨SO (X.mono (by omega) (by omega)),SO (V.mono (by omega) (by omega)),Yy.mono (by omega) (by omega)⟩
def sI(s:afq)(pb tb j:Nat)(A B C:P2)(t:Tr)(c:Go.Eng.Callee)(a:List AV)(N:Mem)(r:afh):Prop:=
 (∃(X:Nat) (Z:List Int),c=.fn 236/\a=[.agg [.slice pb 0 s.P.length none,.slice tb 0 s.T.length none],.slice X 0 (qH Z).length none,.int .i64 (j:Int)]/\(∃o,N[X]? =some (.cells o 1 (qC (qH Z))))/\(∃o,N[pb]? =some (.cells o 2 (pC s.P)))/\(∃o,N[tb]? =some (.cells o 3 (tC s.T)))/\hOk s Z/\r=⟨.tuple [vA (GZ A B C t (qH Z)).1,.int .i64 0],none,[]⟩)\/
 (∃x y:V3,c=.fn 113/\a=[vA x,vA y]/\nA x y/\r=⟨.str (ao (gw x y)),none,[]⟩)
theorem Yc{x y:V3}(h:vA x=vA y):x=y:=by unfold vA at h;simp only[AV.agg.injEq,List.cons.injEq,AV.str.injEq,and_true] at h;exact Prod.ext (eH h.1) (Prod.ext (eH h.2.1) (eH h.2.2))
variable{Ys:List (List Int)}
section
variable {s:afq}{pb tb j:Nat}{A B C:P2}{t:Tr}
theorem yK{c:Go.Eng.Callee}{a:List AV}{N:Mem}{r r' :afh}(h:sI s pb tb j A B C t c a N r)(h' :sI s pb tb j A B C t c a N r'):r' =r:=by
 rcases h with⟨R,Z,rfl,rfl,⟨o,U⟩,_,_,_,rfl⟩ | ⟨x,y,rfl,rfl,_,rfl⟩
 .rcases h' with⟨X,S,_,e,⟨O,V⟩,_,_,_,rfl⟩ | ⟨x,y,e,_⟩
  .simp only[List.cons.injEq,AV.slice.injEq,true_and,and_true] at e
   obtain⟨rfl,_⟩:=e;rw[U] at V;simp only[Pi,afl.cells.injEq,true_and] at V;have:=V.2;rw[Wt this]
  .cases e
 .rcases h' with⟨X,S,e,_⟩ | ⟨M,L,_,e,_,rfl⟩
  .cases e
  .simp only[List.cons.injEq,and_true] at e
   rw[Yc e.1,Yc e.2]
theorem NK(W:s.P.length<=1000)(Y:s.T[j]? =some t)(H:s.P[t.1]? =some A)(I:s.P[t.2.1]? =some B)(J:s.P[t.2.2]? =some C)(hS:0<cf A B C):qS prog (qt (sI s pb tb j A B C t)):=tn fun c a N r h=>by
 rcases h with⟨F,Z,rfl,rfl,⟨o,V⟩,⟨D,M⟩,⟨u,h3⟩,⟨L,X⟩,rfl⟩ | ⟨x,y,rfl,rfl,V,rfl⟩
 .have a1:=gL H
  have a2:=gL I;have a3:=gL J;have U:cf A B C≠0:=by grind
  obtain⟨S,R,O⟩:pDg 5 A/\pDg 5 B/\pDg 5 C:=⟨gG s (J1 H),gG s (J1 I),gG s (J1 J)⟩;obtain⟨K,G⟩:=Ua S R O (mU X t.1) (mU X t.2.1) (mU X t.2.2) U;have:=Fb W X L Y H I J (TU (by omega)) (TU (by omega)) (TU (by omega)) ⟨gW K (by omega) (by omega),gW G (by omega) (by omega)⟩ (Xh (by omega) (by omega) (by omega) S R O (mU X t.1) (mU X t.2.1) (mU X t.2.2) U) M h3 V;exact aC (by simpa [GZ] using this)
 .exact bH (Ee x y V N)
theorem Bt{O:y9}{M0:Mem}{bm fr:Nat}{F:List AV}(H:O=qt (sI s pb tb j A B C t))(I:∀Y∈Z::Ys,hOk s Y)(J:Ys.length<=2)(hi:s.T[j]? =some t)(hA:s.P[t.1]? =some A)(W:s.P[t.2.1]? =some B)(hC:s.P[t.2.2]? =some C)(hS:0<cf A B C)(m:M0[bm]? =some (.cells true 0 [.slice pb 0 s.P.length none,.slice tb 0 s.T.length none]))(r:∃o,M0[fr]? =some (.cells o 1 F))(p:∃o,M0[pb]? =some (.cells o 2 (pC s.P)))(tt:∃o,M0[tb]? =some (.cells o 3 (tC s.T)))(hl:F.length=Ys.length+1)(hF:∀(i:Nat) Y,(Z::Ys)[i]? =some Y->∃fb o,F[i]? =some (.slice fb 0 (qH Y).length none)/\M0[fb]? =some (.cells o 1 (qC (qH Y)))):
  ahB O M0 (.fn 236) (.fn 113) bm fr pb tb j s.P s.T t A F (((Z::Ys).map qH).map (GZ A B C t)) where
 m:=m
 r:=r
 l:=⟨by simpa using hl,by simp;omega⟩
 pp:=p
 tt:=tt
 hi:=hi
 hA:=hA
 f:=fun i x L=>by
  rw[List.map_map,Zo] at L;obtain⟨Y,K,rfl⟩:=Y2.1 L;obtain⟨fb,o,f1,f2⟩:=hF i Y K;have U:=J1 K;obtain⟨R,X⟩:=I Y U;have a1:=gL hA;have N:∀{b:Nat}{S:afl}(V:Mem),M0[b]? =some S->(M0++V)[b]? =some S:=fun {b S} V hb=>gU hb _
  obtain⟨G,p⟩:=p;obtain⟨D,tt⟩:=tt;refine⟨fb,o,qH Y,(qH Y).getD t.1 0,f1,f2,TU (by omega),fun V=>?_,fun V=>?_⟩
  .have x:sI s pb tb j A B C t (.fn 236) [.agg [.slice pb 0 s.P.length none,.slice tb 0 s.T.length none],.slice fb 0 (qH Y).length none,.int .i64 (j:Int)] (M0++V) ⟨.tuple [vA (GZ A B C t (qH Y)).1,.int .i64 0],none,[]⟩:=.inl ⟨fb,Y,rfl,rfl,⟨o,N V f2⟩,⟨G,N V p⟩,⟨D,N V tt⟩,⟨R,X⟩,rfl⟩
   rw[H];exact fj x fun u M =>yK x M
  .have b1:=gG s (J1 hA)
   have nv:=TF b1 (gG s (J1 W)) (gG s (J1 hC)) (mU X t.1) (mU X t.2.1) (mU X t.2.2) (show cf A B C≠0 by grind);have d:nA (VP A B C ((qH Y).getD t.1 0) ((qH Y).getD t.2.1 0) ((qH Y).getD t.2.2 0)) (A.1,A.2,(qH Y).getD t.1 0):=wA nv ⟨b1.1.mono (by omega) (by omega),b1.2.mono (by omega) (by omega),(mU X t.1).mono (by omega) (by omega)⟩ (by omega) (by omega);have x:sI s pb tb j A B C t (.fn 113) [vA (GZ A B C t (qH Y)).1,.agg [.str (ao A.1),.str (ao A.2),.str (ao ((qH Y).getD t.1 0))]] (M0++V) ⟨.str (ao (GZ A B C t (qH Y)).2),none,[]⟩:=.inr ⟨_,(A.1,A.2,(qH Y).getD t.1 0),rfl,rfl,d,rfl⟩;rw[H];exact fj x fun u M =>yK x M
theorem Dh{M:Mem}{o1 o2:Bool}{c:Evc}{J:List AV}(h0:0<s.P.length)(hn:s.P.length<=1000)(hw:∀Y∈Z::Ys,hOk s Y)(I:Ys.length<=2)(W:c.B=hS Z)(hcS:c.S=Ys.map hS)(hE:af8 M J c)(m1:M[pb]? =some (.cells o1 2 (pC s.P)))(m2:M[tb]? =some (.cells o2 3 (tC s.T)))(hi:s.T[j]? =some t)(hA:s.P[t.1]? =some A)(hB:s.P[t.2.1]? =some B)(hC:s.P[t.2.2]? =some C)(hS:0<cf A B C):
  ∃k n,k<n/\kO prog 158 [.agg [.slice pb 0 s.P.length none,.slice tb 0 s.T.length none],.agg J,.int .i64 (j:Int)] M (.tuple [.slice (M.length+k) 0 (Ys.length+1) none,.int .i64 0]) (M++agB n k (.cells true 4 (pnC (((Z::Ys).map qH).map (GZ A B C t))))):=by
 obtain⟨b,u,sv,kn,rfl,h1,h2,⟨D,R,N,hv3⟩,h4⟩:=hE;have a1:=gL hA;have eB:c.B.length=(qH Z).length:=by rw[TW,W];exact kN Z
 have eS:c.S.length=Ys.length:=by rw[hcS];simp
 rw[eB] at h1;rw[eS] at R N;obtain⟨U,o3,rfl,hb⟩:=h1.pos (by rw[TW];have:=(hw Z (by simp)).1;omega);have Y7 :M[U]? =some (.cells o3 1 (qC (qH Z))):=by rw[<-O5,<-W];exact hb
 have hO:=NK (s:=s) (pb:=pb) (tb:=tb) (j:=j) (t:=t) hn hi hA hB hC hS;have F':(((Z::Ys).map qH).map (GZ A B C t)).length=Ys.length+1:=by simp
 have L:∀{b:Nat}{S:afl}(V:Mem),M[b]? =some S->(M++V)[b]? =some S:=fun {b S} V hb=>gU hb _
 have fin:∀{J:List AV}{w:AV}{X:Mem},kO prog 158 [.agg [.slice pb 0 s.P.length none,.slice tb 0 s.T.length none],.agg J,.int .i64 (j:Int)] M (.tuple [w,.int .i64 0]) (M++X)->(∃k,w=.slice (M.length+k) 0 (((Z::Ys).map qH).map (GZ A B C t)).length none/\(M++X)[M.length+k]? =some (.cells true 4 (pnC (((Z::Ys).map qH).map (GZ A B C t)))))->
   ∃k n,k<n/\kO prog 158 [.agg [.slice pb 0 s.P.length none,.slice tb 0 s.T.length none],.agg J,.int .i64 (j:Int)] M (.tuple [.slice (M.length+k) 0 (Ys.length+1) none,.int .i64 0]) (M++agB n k (.cells true 4 (pnC (((Z::Ys).map qH).map (GZ A B C t))))):=fun {J w X} h ⟨k,e,hk⟩=>by
  rw[e,F'] at h;obtain⟨O,K⟩:=h.agB hk;exact⟨k,X.length,O,K⟩
 by_cases hY:Ys=[]
 .subst hY
  obtain rfl:=N.af6 rfl;have H:=Bt (M0:=M++[.cells true 0 [.slice pb 0 s.P.length none,.slice tb 0 s.T.length none],.cells true 0 (c.cells (.slice U 0 (qH Z).length none) u .qF kn),.qK,.cells true 1 [.slice U 0 (qH Z).length none]]) (bm:=M.length) (fr:=M.length+3) (F:=[.slice U 0 (qH Z).length none]) rfl hw I hi hA hB hC hS (by rw[xZ];rfl) ⟨true,by rw[Cx];rfl⟩ ⟨o1,L _ m1⟩ ⟨o2,L _ m2⟩ rfl (fun i Y h=>by
   match i,h with
   |0,h=>simp only[List.getElem?_cons_zero,Pi] at h;subst h;exact⟨U,o3,rfl,L _ Y7⟩
   |i+1,h=>simp at h)
  obtain⟨w,X,O,K⟩:=Ks hO h2.ck h4.ck H;exact fin O K
 .have hp:0<Ys.length:=List.length_pos_iff.2 hY
  obtain⟨cb,o4,rfl,hc⟩:=N.pos hp;have adC :∀(i:Nat) Y,Ys[i]? =some Y->∃U o,D[i]? =some (.slice U 0 (qH Y).length none)/\M[U]? =some (.cells o 1 (qC (qH Y))):=fun i Y h=>by
   have FS:=gL h;obtain⟨x,G⟩:∃x,D[i]? =some x:=⟨_,GT (by omega)⟩
   have hYl:=(hw Y (List.mem_cons_of_mem _ (J1 h))).1;have:=hv3 i x (Go.Proofs.hS Y) G (by rw[hcS,Zo,h];rfl);rw[kN,<-TW] at this;obtain⟨f,o,rfl,hf⟩:=this.pos (by rw[TW];omega);exact⟨f,o,G,by rw[<-O5];exact hf⟩
  have hva:D.all AV.afi=true:=by
   rw[List.all_eq_true];intro x G;obtain⟨i,G⟩:=QXa G;have FS:=gL G;obtain⟨Y,hY⟩:∃Y,Ys[i]? =some Y:=⟨_,GT (by omega)⟩
   obtain⟨f,o,h,_⟩:=adC i Y hY;rw[G] at h;cases h;rfl
  rw[<-R] at hp;have h3:=I;have H:=Bt (M0:=M++[.cells true 0 [.slice pb 0 s.P.length none,.slice tb 0 s.T.length none],.cells true 0 (c.cells (.slice U 0 (qH Z).length none) u (.slice cb 0 D.length none) kn),.qK,.cells true 1 (.slice U 0 (qH Z).length none::D)]) (bm:=M.length) (fr:=M.length+3) (F:=.slice U 0 (qH Z).length none::D) rfl hw I hi hA hB hC hS (by rw[xZ];rfl) ⟨true,by rw[Cx];rfl⟩ ⟨o1,L _ m1⟩ ⟨o2,L _ m2⟩ (by simp[R]) (fun i Y h=>by
   match i,h with
   |0,h=>simp only[List.getElem?_cons_zero,Pi] at h;subst h;exact⟨U,o3,rfl,L _ Y7⟩
   |i+1,h=>
    obtain⟨f,o,O,K⟩:=adC i Y h;exact⟨f,o,O,L _ K⟩)
  rw[<-R];obtain⟨w,X,O,K⟩:=Kt hO h2.ck h4.ck hc hp (by omega) hva H;rw[R] at O |-;exact fin O K
end
end Go.Proofs
namespace Go.Proofs
open Go.Eng
open Tryz
theorem EB{P:List P2}{q:P2}:∀{T:List Tr} {k:Nat},(qf P q T k).length<=T.length
 | [],k=>L9 0
 |t::r,k=>by
  rw[qf];have:=EB (P:=P) (q:=q) (T:=r) (k:=k+1);split
  .rw[List.length_cons,List.length_cons];omega
  .rw[List.length_cons];omega
section
variable {f g:FuncId}{a b:List AV}{p:Mem->Prop}{r:afh}{m:Mem}{L:List (FuncId×List AV×(Mem->Prop)×afh)}{O:y9}
theorem Wq(h:p m):y9.or (eG ((f,a,p,r)::L)) O (.fn f) a m=some r:=by unfold y9.or;rw[dU h]
theorem LP(h:f≠g\/¬p m):y9.or (eG ((f,a,p,r)::L)) O (.fn g) b m=y9.or (eG L) O (.fn g) b m:=by unfold y9.or;rw[bN h]
theorem TN{c:Go.Eng.Callee}:y9.or (eG []) O c a m=O c a m:=rfl
end
theorem Pp(f:Nat->Bool):∀X:List (V3×Rat),AV.afn f (pnC X)=true
 | []=>rfl
 |x::l=>by rw[pnC,kA,Pp f l];rfl
theorem ND{x y:V3}(h:nA x y)(N:Mem):ag dP (.fn 113) [vA x,vA y] N=some ⟨.str (ao (gw x y)),none,[]⟩:=by obtain⟨d,Z⟩:=xE (gw x y);rw[<-Z];simp[ag,dP,vA,OM,h,<-Z]
theorem NC{x y:Rat}(H:ek x)(I:ek y)(N:Mem):ag dP (.fn 136) [.str (ao x),.str (ao y)] N=some ⟨.int .i64 (qu x y),none,[]⟩:=by obtain⟨Z,X⟩:=H;obtain⟨V,y2⟩:=I;simp[ag,dP,aT,aV,aB,Z,X,V,y2]
theorem NX{n:Nat}{a b c:P2}(H:pDg n a)(I:pDg n b)(hc:pDg n c)(h0:0<n)(h1:n<=400):WK a b c:=by
 have F:∀{k:Nat}{z:Rat},dg k k z->0<k->k<=40000->ek z:=fun h a b=>gW h a b
 have d:∀{x y:Rat},dg n n x->dg n n y->dg (2*n+1) (2*n+1) (x-y):=fun h1 Z=>(nT h1 Z).mono (by omega) (by omega)
 exact⟨⟨⟨F H.1 h0 (by omega),F H.2 h0 (by omega)⟩,⟨F I.1 h0 (by omega),F I.2 h0 (by omega)⟩,F hc.1 h0 (by omega),F hc.2 h0 (by omega)⟩,⟨F (d I.1 H.1) (by omega) (by omega),F (d hc.2 H.2) (by omega) (by omega),F (d I.2 H.2) (by omega) (by omega),F (d hc.1 H.1) (by omega) (by omega)⟩,F (dy (d I.1 H.1) (d hc.2 H.2)) (by omega) (by omega),F (dy (d I.2 H.2) (d hc.1 H.1)) (by omega) (by omega)⟩
theorem Tw(s:afq){q:P2}(hq:pDg 5 q):ahQ s.P s.T q where
 tri:=fun i t h=>by obtain⟨A,B,C,Z,X,h3,_⟩:=CW s h;have m1:=gG s (J1 Z);have m2:=gG s (J1 X);have m3:=gG s (J1 h3);exact⟨A,B,C,Z,X,h3,NX m2 m3 hq (by omega) (by omega),NX m3 m1 hq (by omega) (by omega),NX m1 m2 hq (by omega) (by omega)⟩
 hl:=⟨(lI s).2,Mg s⟩
theorem Vt{s:afq}{Z:List Int}{H:List (List Int)}{p:V3}{j:Nat}{w:V3}{t:Tr}{A B C:P2}(W:∀Y∈Z::H,hOk s Y)(hm:∀Y∈H,∀(i:Nat) z y,Z[i]? =some z->Y[i]? =some y->z<=y)(I:GQ s.P (p.1,p.2.1) s.T 0=some (j,w))(J:s.T[j]? =some t)(hA:s.P[t.1]? =some A)(hB:s.P[t.2.1]? =some B)(hC:s.P[t.2.2]? =some C)(hS:0<cf A B C):
  SM s.P s.T (qH Z) (H.map qH) p= -1+(Uq p (((Z::H).map qH).map (GZ A B C t)):Int):=by
 obtain⟨k,D,rfl,X,O,rfl,_⟩:=sc I;rw[QQZ] at J;rw[J] at X;cases X;have K:xf s.P (p.1,p.2.1) t=qi A B C (p.1,p.2.1):=by unfold xf;simp[List.getD,hA,hB,hC]
 have N:s.T.getD (0+k) (0,0,0)=t:=by rw[QQZ];simp[List.getD,J]
 rw[K] at O I;obtain⟨V,U,S⟩:=O;have V:=Ha.1 V;have U:=Ha.1 U;have S:=Ha.1 S;have R:=Gw A B C (p.1,p.2.1);have G:0<(qi A B C (p.1,p.2.1)).1+(qi A B C (p.1,p.2.1)).2.1+(qi A B C (p.1,p.2.1)).2.2:=by unfold qi;simp only;rw[R];exact hS
 have e:(H.map qH).map (fun Q=>xd s.T Q (0+k) (qi A B C (p.1,p.2.1)))=(H.map qH).map fun Q=>DV (qi A B C (p.1,p.2.1)) (Q.getD t.1 0) (Q.getD t.2.1 0) (Q.getD t.2.2 0):=by unfold xd;rw[N]
 have F:xd s.T (qH Z) (0+k) (qi A B C (p.1,p.2.1))=DV (qi A B C (p.1,p.2.1)) ((qH Z).getD t.1 0) ((qH Z).getD t.2.1 0) ((qH Z).getD t.2.2 0):=by unfold xd;rw[N]
 unfold SM;rw[I];simp only;rw[e,F,Wg (by grind),List.map_cons,List.map_cons,RS];by_cases c:p.2.2<DV (qi A B C (p.1,p.2.1)) ((qH Z).getD t.1 0) ((qH Z).getD t.2.1 0) ((qH Z).getD t.2.2 0)
 .rw[if_pos c,if_neg (by grind),Lf c]
  .rfl
  .intro x M
   rw[List.map_map] at M;obtain⟨Y,L,rfl⟩:=QQh.1 M;have m:=W5 (hm Y L) (by rw[(W Z (by simp)).1,(W Y (by simp[L])).1]);exact Tb V U S G (m _) (m _) (m _)
 .rw[if_neg c,if_pos (by grind)]
  omega
section
variable {s:afq}{M:Mem}{pb tb:Nat}{o1 o2:Bool}{Z:List Int}{Ys:List (List Int)}{c:Evc}{ev:List AV}{v:V3}
theorem MB(hw:∀Y∈Z::Ys,hOk s Y)(hy2:Ys.length<=2)(hm:∀Y∈Ys,∀(i:Nat) z y,Z[i]? =some z->Y[i]? =some y->z<=y)(hcB:c.B=hS Z)(hcS:c.S=Ys.map hS)(hE:af8 M ev c)(m1:M[pb]? =some (.cells o1 2 (pC s.P)))(m2:M[tb]? =some (.cells o2 3 (tC s.T)))(H:vDg 5 v):
  kO prog 157 [.agg [.slice pb 0 s.P.length none,.slice tb 0 s.T.length none],.agg ev,vA v] M (.tuple [.int .i64 (SM s.P s.T (qH Z) (Ys.map qH) v),.int .i64 0]) M:=by
 obtain⟨U,K⟩:=xE (AV.slice pb 0 s.P.length none);obtain⟨R,G⟩:=xE (AV.slice tb 0 s.T.length none);have l1:=gL m1;have l2:=gL m2;obtain⟨h0,hn⟩:=lI s;have hq5:pDg 5 (v.1,v.2.1):=⟨H.1,H.2.1⟩;have H0:=Tw s hq5;have hck:∀N:Mem,(∃o,N[pb]? =some (.cells o 2 (pC s.P)))->(∃o,N[tb]? =some (.cells o 3 (tC s.T)))->kO prog 46 [.agg [.slice pb 0 s.P.length none,.slice tb 0 s.T.length none]] N (.int .i64 0) N:=fun N ⟨o,h1⟩ ⟨o',h2⟩=>oI s N pb tb o o' h1 h2
 have c1:=im (H.1.mono (n' :=200) (d' :=200) (by omega) (by omega));have c2:=im (H.2.1.mono (n' :=200) (d' :=200) (by omega) (by omega));have hq:tG [ao v.1,ao v.2.1]=0/\(ao v.1).length<=LO/\(ao v.2.1).length<=LO:=⟨by simp[tG,c1,c2],jJ H.1 (by omega) (by omega),jJ H.2.1 (by omega) (by omega)⟩;have up:∀{b:Nat}{S:afl}(V:Mem),M[b]? =some S->(M++V)[b]? =some S:=fun {b S} V hb=>gU hb _
 obtain⟨w,O,hL,F⟩:=Fj H0 hck hq (up (ndB U R ev v) m1) (up (ndB U R ev v) m2);rw[<-K,<-G] at hL |-;have u:=EC (P:=s.P) (q:=(v.1,v.2.1)) (T:=s.T) (k:=0);have cp:U.afi=true/\R.afi=true:=by rw[K,G];exact⟨rfl,rfl⟩
 have m:=hE.l32;have W:ev.all AV.afi=true:=List.all_eq_true.2 hE.cok;cases hl:GQ s.P (v.1,v.2.1) s.T 0 with
 |none=>
  rw[hl] at u;simp only at u;rw[u] at F;obtain rfl:=F.af6 rfl;have hO:qS prog (eG [(12,[.agg [U,R],pA (v.1,v.2.1)],(fun N=>N=M++ndB U R ev v),⟨.tuple [.qF,.int .i64 0],none,O⟩)]):=mM fun y J N hp=>by rw[List.mem_singleton] at J;subst J;subst hp;exact aC hL
  have:=Km (p:=v) hO cp m W (dU rfl);rw[show SM s.P s.T (qH Z) (Ys.map qH) v= -2 by unfold SM;rw[hl]];exact kO.forget rfl this
 |some jw=>
  obtain⟨j,w'⟩:=jw;rw[hl] at u;obtain⟨l,u⟩:=u;rw[u,List.map_cons] at F;obtain⟨i,t,hji,hi,ZY,hw',_⟩:=sc hl;obtain rfl:i=j:=by omega
  obtain⟨A,B,C,hA,hB,hC,hS⟩:=CW s hi;obtain⟨lb,o,rfl,hlb⟩:=F.pos (by simp);have F':((i:Int)::l).length<=1000:=by have:=EB (P:=s.P) (q:=(v.1,v.2.1)) (T:=s.T) (k:=0);rw[u] at this;have:=H0.hl.2;omega
  have hE1:=hE.more (ndB U R ev v++O);obtain⟨k,n,hk,hP⟩:=Dh h0 hn hw hy2 hcB hcS hE1 (up _ m1) (up _ m2) hi hA hB hC hS;rw[<-K,<-G] at hP;obtain⟨X,hX⟩:=xE (((Z::Ys).map qH).map (GZ A B C t));have hXl:X.length=Ys.length+1:=by rw[hX];simp
  rw[<-hX,<-hXl] at hP;have hL' :kO prog 12 [.agg [U,R],pA (v.1,v.2.1)] (M++ndB U R ev v) (.tuple [.slice lb 0 ((i:Int)::l).length none,.int .i64 0]) (M++ndB U R ev v++O):=hL;obtain⟨V,hV⟩:=xE (agB n k (.cells true 4 (pnC X)));rw[<-hV] at hP;have hVl:V.length=n:=by rw[hV,CE]
  have abu:(M++(ndB U R ev v++O)++V)[(M++(ndB U R ev v++O)).length+k]? =some (.cells true 4 (pnC X)):=by rw[hV];exact TL hk _
  have hO:qS prog (y9.or (eG [(12,[.agg [U,R],pA (v.1,v.2.1)],(fun N=>N=M++ndB U R ev v),⟨.tuple [.slice lb 0 ((i:Int)::l).length none,.int .i64 0],none,O⟩),(158,[.agg [U,R],.agg ev,.int .i64 (i:Int)],(fun N=>N=M++(ndB U R ev v++O)),⟨.tuple [.slice ((M++(ndB U R ev v++O)).length+k) 0 X.length none,.int .i64 0],none,V⟩)]) (ag dP)):=qS.or (mM fun y J N hp=>by
   simp only[lM] at J;rcases J with rfl | rfl
   .subst hp;exact aC hL'
   .subst hp;exact aC hP) lQ
  have Zs:M.length+(4+O.length)+V.length=(M++(ndB U R ev v++O)).length+n:=by rw[hVl];simp[ndB];omega
  have I:∀x∈X,nA x.1 v/\ek (gw x.1 v)/\ek x.2:=fun x hx=>by rw[hX,List.map_map] at hx;obtain⟨Y,hY,rfl⟩:=QQh.1 hx;have D:=(hw Y hY).2;have b1:=gG s (J1 hA);have nv:=TF b1 (gG s (J1 hB)) (gG s (J1 hC)) (mU D t.1) (mU D t.2.1) (mU D t.2.2) (show cf A B C≠0 by grind);have w1:vDg 91 v:=H.mono (by omega);have w2:vDg 91 (A.1,A.2,(qH Y).getD t.1 0):=⟨b1.1.mono (by omega) (by omega),b1.2.mono (by omega) (by omega),(mU D t.1).mono (by omega) (by omega)⟩;exact⟨wA nv w1 (by omega) (by omega),gW (ON nv w1) (by omega) (by omega),gW (ON nv w2) (by omega) (by omega)⟩
  have hN:ahH (y9.or (eG [(12,[.agg [U,R],pA (v.1,v.2.1)],(fun N=>N=M++ndB U R ev v),⟨.tuple [.slice lb 0 ((i:Int)::l).length none,.int .i64 0],none,O⟩),(158,[.agg [U,R],.agg ev,.int .i64 (i:Int)],(fun N=>N=M++(ndB U R ev v++O)),⟨.tuple [.slice ((M++(ndB U R ev v++O)).length+k) 0 X.length none,.int .i64 0],none,V⟩)]) (ag dP)) (M++(ndB U R ev v++(O++V))) (.fn 113) (.fn 136) (M.length+2) ((M++(ndB U R ev v++O)).length+k) v X:=by
   refine⟨by rw[Cx];rfl,⟨true,?_⟩,by omega,fun x hx=>⟨fun Y=>?_,fun Y=>?_⟩⟩
   .rw[<-Y1 (ndB U R ev v),<-Y1];exact abu
   .obtain⟨h1,h2,h3⟩:=I x hx
    rw[LP (.inl (by decide)),LP (.inl (by decide)),TN];exact ND h1 _
   .obtain⟨h1,h2,h3⟩:=I x hx
    rw[LP (.inl (by decide)),LP (.inl (by decide)),TN];exact NC h2 h3 _
  have adD:=Vt (p:=v) hw hm hl hi hA hB hC hS;rw[<-hX] at adD;obtain⟨new,h⟩:=Kn (p:=v) (j:=i) (L:=l.map fun n=>.int .i64 n) hO cp (by rw[K,G];exact⟨rfl,rfl⟩) (fun x=>by rw[K];simp only[AV.adM,Es];omega) (fun x=>by rw[G];simp only[AV.adM,Es];omega) m W (fun x=>hE.refs x) (Wq rfl) ⟨by simp,F'⟩ (by rw[<-Y1];exact hlb) (by rw[LP (.inl (by decide))];exact Wq rfl) (fun f=>by rw[hV];exact VS f rfl (by show AV.afn f (pnC X)=true;exact Pp f X)) (by rw[Zs];omega) hN
  rw[adD];exact kO.forget rfl h
end
variable{L:List P2}{b:Nat}{o:Bool}
theorem Dg{M:Mem}{u:Rat}(J:L.length<=1000)(H:M[b]? =some (.cells o 2 (kC (Go.Proofs.kT L))))(hQ:SX L)(I:ek u):
  kO prog 141 [.slice b 0 L.length none,.str (ao u)] M (.int .i64 (fg L u)) M:=by
 have X:=mc L;have e:∀b,AV.slice b 0 L.length none=.slice b 0 (Go.Proofs.kT L).length none:=fun b=>by rw[X]
 have Z:=Fa L u hQ I (by omega);rw[e 0] at Z;rw[e b];exact XY rfl rfl Z ⟨b,o,_,rfl,H,B5 (by rw[n9];omega)⟩
variable{a:Nat}{v:V3}
section
variable {x y:AV}{M:Mem}{nm:List UInt8}{p n:V3}
theorem Mz(H:x.afi=true/\y.afi=true){o w:Rat}{u:List UInt8}(d:nA n p)(fd:ek (gw n p))(fo:ek o)(fw:ek w)(fs:ek (gw n p-o)):
  kO prog 171 [.agg [x,y],.agg ((jW nm n o w u).cells .qF .qF .qF .qF),vA p] M (.tuple [.int .i64 (dkL n o w p),.int .i64 0]) M:=by
 have D:aX prog 171=some f171:=by kernel_rfl
 obtain⟨e1,e2⟩:=H;obtain⟨Z,X⟩:=fd;obtain⟨R,C⟩:=fo;obtain⟨w1,w2⟩:=fw;obtain⟨O,N⟩:=fs;obtain⟨ops,B⟩:∃R,aI f171=[R]:=⟨_,rfl⟩
 obtain⟨S,m⟩:=dx B (l:=[0,1,3,7,0,31,0,64,192,448,1023,2047]) (j:=11) (by kernel_rfl) (by decide);simp[aI,ca,f171] at B;subst B;unfold dkL;obtain⟨dt,V⟩:=xE (gw n p);rw[<-V] at Z X O N |-;obtain⟨q,G⟩:=xE (dt-o);rw[<-G] at O N |-;have W:gd q<0↔q<0:=by
  have:=PC (a:=q) (b:=0)
  rwa [show q-0=q by grind] at this
 have J:qu q w<0↔q<w:=by
  have:=GH (a:=q) (b:=w);constructor
  .intro h
   exact Rat.not_le.1 fun U=>by have:=this.2 U;omega
  .intro h
   exact Int.not_le.1 fun U=>absurd (this.1 U) (Rat.not_le.2 h)
 have hcs:∀s,(AV.str s).afi=true:=fun _=>rfl
 have hci:∀k n,(AV.int k n).afi=true:=fun _ _=>rfl
 have hcn:AV.qF.afi=true:=rfl;refine gQ (K:=1) (lv:=fun _=>[]) lQ ?_;by_cases F:q<0
 .have:=W.2 F
  rw[if_pos F];simp[-getElem?_pos,-AV.afi,-AV.known,-AV.cells,-cO,-List.all_eq_true,vS,rS,mS,-bF,-bn,-AV.adM,-afl.adM,aa,D,f171,ag,dP,aT,aV,bE,bz,vA,jW,Evc.cells,OM,aB,<-V,<-G,d,Z,X,R,C,this,-aG,an S,bD,bt,bB,m,Nat.testBit]
 .have I :¬gd q<0:=fun h=>F (W.1 h)
  rw[if_neg F];by_cases U:q<w
  .have:=J.2 U
   rw[if_pos U];simp[-getElem?_pos,-AV.afi,-AV.known,-AV.cells,-cO,-List.all_eq_true,vS,rS,mS,-bF,-bn,-AV.adM,-afl.adM,aa,D,f171,ag,dP,aT,aV,bE,bz,vA,jW,Evc.cells,OM,aB,<-V,<-G,d,Z,X,R,C,O,N,w1,w2,this,I,-aG,an S,bD,bt,bB,m,Nat.testBit]
  .have Y :¬qu q w<0:=fun h=>U (J.1 h)
   rw[if_neg U];simp[-getElem?_pos,-AV.afi,-AV.known,-AV.cells,-cO,-List.all_eq_true,vS,rS,mS,-bF,-bn,-AV.adM,-afl.adM,aa,D,f171,ag,dP,aT,aV,bE,bz,vA,jW,Evc.cells,OM,aB,<-V,<-G,d,Z,X,R,C,O,N,w1,w2,I,Y,-aG,an S,bD,bt,bB,m,Nat.testBit]
theorem Hr(d:nA n p)(H:SX L)(I:ek (gw n p))(J:L.length<=1000):
  kO prog 166 [.agg [.slice 0 0 a none,.slice 1 0 b none],.agg ((eV nm n L v).cells .qF .qF .qF (.slice 2 0 L.length none)),vA p] [.qK,.qK,.cells false 2 (kC (Go.Proofs.kT L))] (.tuple [.int .i64 (fg L (gw n p):Int),.int .i64 0]) [.qK,.qK,.cells false 2 (kC (Go.Proofs.kT L))]:=by
 have O:aX prog 166=some f166:=by kernel_rfl
 have X:qS prog (y9.or (fR 141 [.slice 2 0 L.length none,.str (ao (gw n p))] (.int .i64 (fg L (gw n p):Int)) (fun N=>∃Z,N=afl.qK::.qK::.cells false 2 (kC (Go.Proofs.kT L))::Z)) (ag dP)):=
  qS.or (gC fun N ⟨Z,hZ⟩=>by subst hZ;exact Dg J (b:=2) (o:=false) rfl H I) lQ
 obtain⟨G,V⟩:∃F,aI f166=[F]:=⟨_,rfl⟩
 obtain⟨U,D⟩:=dx V (l:=[0,1,3,0,8,24,0,120,255,511,1023]) (j:=10) (by kernel_rfl) (by decide);simp[aI,ca,f166] at V;subst V;obtain⟨u,R⟩:=xE (gw n p);rw[<-R] at X |-;obtain⟨C,S⟩:=xE (fg L u);rw[<-S] at X |-;refine gQ (K:=1) (lv:=fun _=>[]) X ?_;clear X;simp[aa,O,f166,y9.or,fR,ag,dP,vA,eV,Evc.cells,OM,<-R,d,-aG,an U,bD,bt,bB,D,Nat.testBit]
theorem My{pb tb H:Nat}(J:pb<M.length)(W:tb<M.length)(I:M[H]? =some (.cells o 2 (kC (Go.Proofs.kT L))))(d:nA n p)(Y:SX L)(ku:ek (gw n p))(hl:L.length<=1000):
  kO prog 166 [.agg [.slice pb 0 a none,.slice tb 0 b none],.agg ((eV nm n L v).cells .qF .qF .qF (.slice H 0 L.length none)),vA p] M (.tuple [.int .i64 (fg L (gw n p):Int),.int .i64 0]) M:=by
 have X:=gL I;have:=kO.frame (M:=M) (new:=[]) (args:=[.agg [.slice 0 0 a none,.slice 1 0 b none],.agg ((eV nm n L v).cells .qF .qF .qF (.slice 2 0 L.length none)),vA p]) [pb,tb,H] (m:=[.qK,.qK,.cells false 2 (kC (Go.Proofs.kT L))]) rfl (by simp[J,W,X]) (by simp[AV.afp,AV.under,eV,Evc.cells,vA]) (fun j s Z=>by
  match j with
  |0=>simp at Z;subst Z;trivial
  |1=>simp at Z;subst Z;trivial
  |2=>simp at Z;subst Z;exact cw (jI _) I P1
  |j+3=>simp at Z) rfl (by rw[List.append_nil];exact Hr (a:=a) (b:=b) d Y ku hl)
 simpa [AV.afz,AV.ren,fa,eV,Evc.cells,vA] using this
theorem MA(H:x.afi=true/\y.afi=true)(t:I4)(c:V3):
  kO prog 176 [.agg [x,y],.agg ((mJ nm t c).cells .qF .qF .qF .qF),vA p] M (.tuple [.int .i64 0,.int .i64 0]) M:=by
 have Z:aX prog 176=some f176:=by kernel_rfl
 obtain⟨S,R⟩:=H;refine gQ (K:=1) (lv:=fun _=>[]) (az _) ?_;have X:∀s,(AV.str s).afi=true:=fun _=>rfl
 have V:∀k n,(AV.int k n).afi=true:=fun _ _=>rfl
 have U:AV.qF.afi=true:=rfl;simp[-AV.afi,aa,Z,f176,mJ,Evc.cells,vA]
end
theorem Kc(a b c d e:AV):kZ (bd prog) 125 (.agg [a,b,c,d,e]) 3=some d:=by kernel_rfl
section
variable {M:Mem}{pv tv:AV}{ev:List AV}{p:V3}{n:Int}{k0 k1 k2 nf k4:FuncId}
theorem Io:(aI f18).map (fun o=>dO o.toList)=[[0,1,3,0,0,0,63,127,127,511,1023]]:=by kernel_rfl
theorem E9(Y:pv.afi=true/\tv.afi=true)(hl:ev.length=32)(hck:ev.all AV.afi=true)(rp:∀x,pv.adM (fun b=>decide (b<M.length+x))=true)(rt:∀x,tv.adM (fun b=>decide (b<M.length+x))=true)(H:∀x,AV.afn (fun b=>decide (b<M.length+x)) ev=true)(I:∀Z,kO prog 57 [.agg [pv,tv],.agg ev,vA p] (M++Z) (.int .i64 0) (M++Z))(J:∀Z,kO prog 44 [.agg ev] (M++Z) (.agg [.func k0 [],.func k1 [],.func k2 [],.func nf [],.func k4 []]) (M++Z))(W:∀Z,kO prog nf [.agg [pv,tv],.agg ev,vA p] (M++Z) (.tuple [.int .i64 n,.int .i64 0]) (M++Z))(n1:57≠nf)(n2:44≠nf):
  kO prog 18 [.agg [pv,tv],.agg ev,vA p] M (.tuple [.int .i64 n,.int .i64 0]) M:=by
 have u:aX prog 18=some f18:=by kernel_rfl
 have m:∀s,(AV.str s).afi=true:=fun _=>rfl
 obtain⟨c1,c2⟩:=Y;obtain⟨L,X⟩:=xE (α:=List (FuncId×List AV×(Mem->Prop)×afh)) [(57,[.agg [pv,tv],.agg ev,vA p],(fun N=>∃Z,N=M++Z),⟨.int .i64 0,none,[]⟩),(44,[.agg ev],(fun N=>∃Z,N=M++Z),⟨.agg [.func k0 [],.func k1 [],.func k2 [],.func nf [],.func k4 []],none,[]⟩),(nf,[.agg [pv,tv],.agg ev,vA p],(fun N=>∃Z,N=M++Z),⟨.tuple [.int .i64 n,.int .i64 0],none,[]⟩)];have G:qS prog (eG L):=mM fun y S N R=>by
  rw[X] at S;simp only[lM] at S;rcases S with rfl | rfl | rfl
  .obtain⟨Z,rfl⟩:=R;exact bH (I Z)
  .obtain⟨Z,rfl⟩:=R;exact bH (J Z)
  .obtain⟨Z,rfl⟩:=R;exact bH (W Z)
 have F:∀Z,eG L (.fn 57) [.agg [pv,tv],.agg ev,vA p] (M++Z)=some ⟨.int .i64 0,none,[]⟩:=fun Z=>by rw[X];exact dU ⟨Z,rfl⟩
 have D:∀Z,eG L (.fn 44) [.agg ev] (M++Z)=some ⟨.agg [.func k0 [],.func k1 [],.func k2 [],.func nf [],.func k4 []],none,[]⟩:=fun Z=>by rw[X,bN (.inl (by decide))];exact dU ⟨Z,rfl⟩
 have C:∀Z,eG L (.fn nf) [.agg [pv,tv],.agg ev,vA p] (M++Z)=some ⟨.tuple [.int .i64 n,.int .i64 0],none,[]⟩:=fun Z=>by rw[X,bN (.inl n1),bN (.inl n2)];exact dU ⟨Z,rfl⟩
 obtain⟨O,V⟩:=xE (eG L);rw[<-V] at G F D C;clear V X I J W;have j:∀f k,AV.adM f (.func k [])=true:=fun _ _=>rfl
 have t0:ev.take 32=ev:=B5 (by omega);obtain⟨U,K⟩:∃U,aI f18=U :=⟨_,rfl⟩
 have B :=cG K Io;simp only[aI,ca,f18,List.nil_append,List.append_nil] at K;subst K;simp only[lB] at B;have Y6:cE (bd prog) (fun _=>[]) (aX prog) O 1 18 [.agg [pv,tv],.agg ev,vA p] M=some (.tuple [.int .i64 n,.int .i64 0],M++[.cells true 0 [pv,tv],.cells true 0 ev,.cells true 0 (vL p)]):=by unfold vA vL at*;simp[-getElem?_pos,-AV.afi,-AV.known,-AV.cells,-cO,-List.all_eq_true,vS,rS,mS,cE,u,f18,hl,t0,j,rp,rt,H,F,D,C,-kZ,Kc,-bF,-bn,-aG,-AV.adM,-afl.adM,aY B,cq,cc,dW,cK,cS,gB,bef,Nat.testBit]
 exact kO.forget rfl (cL aj (aJ _) G (aM _) Y6)
end
end Go.Proofs
namespace Go.Proofs
open Go.Eng
open Tryz
def Mv(K:Int)(U:List (List UInt8))(H:List UInt8)(n:Int):Option (List UInt8):=
 if K=1 then (if n= -2 then some [] else if 0<=n then some (U.getD n.toNat []) else none) else if K=4 then (if n=1 then some H else none) else none
def Tryz.agk(M:Mem)(mv:AV)(H:List AV)(p:V3)(c:Evc):Prop:=
 ∃n:Int,((∀Z,kO prog 17 [mv,.agg H,vA p] (M++Z) (.int .i64 n) (M++Z))/\∀Z,kO prog 18 [mv,.agg H,vA p] (M++Z) (.tuple [.int .i64 n,.int .i64 0]) (M++Z))/\
  (∀Z,kO prog 19 [mv,.agg H,.int .i64 n] (M++Z) (Ew (Mv c.k c.U c.x24 n)) (M++Z))/\(c.k=1-> -2<=n/\n<c.U.length)
section
variable {K:Int}{g g1 mf nf g4:FuncId}{onl:Evc->Evc}{x y:Bool}{s:afq}{c:Evc}{M:Mem}{p t:Nat}{o o' :Bool}{ev:List AV}{v:V3}{n:Int}
theorem lN(kp:agm K g g1 mf nf g4 onl x y)(hk:c.k=K)(I:lf s c)(J:M[p]? =some (.cells o 2 (pC s.P)))(W:M[t]? =some (.cells o' 3 (tC s.T)))(H:af8 M ev c)(hv:vC v)(hN:∀Z,kO prog nf [Al s p t,.agg ev,vA v] (M++Z) (.tuple [.int .i64 n,.int .i64 0]) (M++Z))(n1:57≠nf)(n2:44≠nf)(Z:Mem):
  kO prog 18 [Al s p t,.agg ev,vA v] (M++Z) (.tuple [.int .i64 n,.int .i64 0]) (M++Z):=by
 have V:=H.more Z;have S:=rO (cX J Z);have O:=rO (cX W Z);have U:∀(q k x:Nat),q<(M++Z).length->(AV.slice q 0 k none).adM (fun b=>decide (b<(M++Z).length+x))=true:=fun q k x h=>by simp only[AV.adM,Es];omega
 refine E9 (k0:=g) (k1:=g1) (k2:=mf) (k4:=g4) ⟨rfl,rfl⟩ H.l32 (List.all_eq_true.2 H.cok) (fun x=>U _ _ x S) (fun x=>U _ _ x O) (fun x=>V.refs x) (fun X =>?_) (fun X =>?_) (fun X =>by rw[Y1];exact hN (Z++X)) n1 n2
 .exact Hp (M:=(M++Z)++X) ⟨_,_,rfl,rfl,rfl⟩ H.l32 H.cok (fun Y=>I _ p t o o' ev (cX (cX (cX J Z) X) Y) (cX (cX (cX W Z) X) Y) ((V.more X).more Y)) hv
 .obtain⟨b,u,L,G,rfl,F,D,⟨_,_,h3,_⟩,C⟩:=H
  have:=Ge kp (N:=(M++Z)++X) (nm:=c.nm) (R:=((c.cells b u L G).drop 2)) rfl (by simp[Evc.cells,F.ck,D.ck,h3.ck,C.ck,vS,-AV.afi]);rw[<-hk] at this;exact this
theorem jC{P:Prop}[Decidable P]{q:Option (List UInt8)}(H:∀Z,kO prog 17 [Al s p t,.agg ev,vA v] (M++Z) (.int .i64 n) (M++Z))(I:∀Z,kO prog 18 [Al s p t,.agg ev,vA v] (M++Z) (.tuple [.int .i64 n,.int .i64 0]) (M++Z))(hpos:∀Z,kO prog 58 [Al s p t,.agg ev,.int .i64 n] (M++Z) (.int .i64 (if P then 0 else 10)) (M++Z))(J:P)(W:∀Z,(∀X,kO prog 58 [Al s p t,.agg ev,.int .i64 n] ((M++Z)++X) (.int .i64 0) ((M++Z)++X))->kO prog 19 [Al s p t,.agg ev,.int .i64 n] (M++Z) (Ew q) (M++Z))(hq:Mv c.k c.U c.x24 n=q)(Y:c.k=1-> -2<=n/\n<c.U.length):agk M (Al s p t) ev v c:=by
 refine⟨n,⟨H,I⟩,fun Z=>?_,Y⟩;rw[hq];refine W Z fun X =>?_
 have:=hpos (Z++X);rw[if_pos J,<-Y1] at this;exact this
end
section
variable {x:afg}{s:afq}{M:Mem}{p t:Nat}{o o' :Bool}{ev:List AV}{v:V3}
theorem QD(h:x.kind%5=1)(H:vDg 5 v)(I:M[p]? =some (.cells o 2 (pC s.P)))(J:M[t]? =some (.cells o' 3 (tC s.T)))(W:af8 M ev (cSk x s.P.length)):agk M (Al s p t) ev v (cSk x s.P.length):=by
 have X:=qR s x;rw[Ym h] at W X |-;have V:=W;obtain⟨b,u,F,D,rfl,N,L,h3,K⟩:=W;obtain rfl:=N.af6 rfl;obtain rfl:=L.af6 rfl;obtain rfl:=h3.af6 rfl;obtain rfl:=K.af6 rfl;have S:=Un (sX x) (k:=1) (by decide) (by decide);have R:=DS (z:=ie (x.n 6)) (k:=1) (by have:=dG (x.n 6);omega) (by decide);have O:=N7 (k:=40) S H (by omega);have G:∀Z,kO prog 161 [.agg ((fY [110] (zQ (fJ x)) (hQ (ie (x.n 6))) (hV (Ae x))).cells .qF .qF .qF .qF)] (M++Z) (.int .i64 1) (M++Z):=fun Z=>Ia rfl rfl rfl rfl
 have U:=fun Z=>kE er.2.1 rfl X I J V G (by decide) (by decide) (wC (zQ (fJ x)) (hQ (ie (x.n 6))) v) Z
 have C:wC (zQ (fJ x)) (hQ (ie (x.n 6))) v=0\/wC (zQ (fJ x)) (hQ (ie (x.n 6))) v=1:=by unfold wC;split<;>simp
 have B:loK 2=0:=rfl;exact jC (fun Z=>MG (M:=M++Z) ⟨rfl,rfl⟩ [110] _ _ _ v (N9 (S.mono (m:=5) (by omega)) H (by omega) (by omega)) (ee O (by omega) (by omega)) (ee R (by omega) (by omega)))
  (lN er.2.1 rfl X I J V (Uh (H.mono (by omega))) (fun Z=>Mx (M:=M++Z) (rO (cX I Z)) (rO (cX J Z)) [110] _ _ _ v (wA (S.mono (m:=5) (by omega)) H (by omega) (by omega)) (gW O (by omega) (by omega)) (gW R (by omega) (by omega))) (by decide) (by decide)) U (by omega)
  (fun Z k=>nn ⟨rfl,rfl⟩ ⟨kne 2 rfl (by decide),kne 2 rfl (by decide)⟩ rfl rfl rfl rfl k) rfl (fun h=>absurd h (kne 2 rfl (by decide)))
theorem QG(h:x.kind%5=4)(W:vDg 5 v)(I:M[p]? =some (.cells o 2 (pC s.P)))(J:M[t]? =some (.cells o' 3 (tC s.T)))(H:af8 M ev (cSk x s.P.length)):agk M (Al s p t) ev v (cSk x s.P.length):=by
 have X:=qR s x;rw[Yp h] at H X |-;have V:=H;obtain⟨b,u,L,K,rfl,S,R,h3,O⟩:=H;obtain rfl:=S.af6 rfl;obtain rfl:=R.af6 rfl;obtain rfl:=h3.af6 rfl;obtain rfl:=O.af6 rfl;have N:∀Z,kO prog 175 [.agg ((mJ [110] (Ap x) (zQ (fJ x))).cells .qF .qF .qF .qF)] (M++Z) (.int .i64 0) (M++Z):=fun Z=>Ie rfl rfl rfl rfl
 have U:=fun Z=>kE er.2.2.2.2 rfl X I J V N (by decide) (by decide) 0 Z
 have G:loK 5=0:=rfl;exact jC (fun Z=>MJ ⟨rfl,rfl⟩ _ _ _ _) (lN er.2.2.2.2 rfl X I J V (Uh (W.mono (by omega))) (fun Z=>MA ⟨rfl,rfl⟩ _ _) (by decide) (by decide)) U (by omega)
  (fun Z k=>nn ⟨rfl,rfl⟩ ⟨kne 5 rfl (by decide),kne 5 rfl (by decide)⟩ rfl rfl rfl rfl k) rfl (fun h=>absurd h (kne 5 rfl (by decide)))
theorem QF(h:x.kind%5=3)(H:vDg 5 v)(J:M[p]? =some (.cells o 2 (pC s.P)))(W:M[t]? =some (.cells o' 3 (tC s.T)))(I:af8 M ev (cSk x s.P.length)):agk M (Al s p t) ev v (cSk x s.P.length):=by
 have X:=qR s x;rw[Yo h] at I X |-;have V:=I;obtain⟨b,u,F,D,rfl,N,L,h3,K⟩:=I;obtain rfl:=N.af6 rfl;obtain rfl:=L.af6 rfl;obtain rfl:=h3.af6 rfl;obtain rfl:=K.af6 rfl;have O:=Un (sX x) (k:=1) (by decide) (by decide);have S:=DS (z:=ie (x.n 6)) (k:=1) (by have:=dG (x.n 6);omega) (by decide);have w7:=DS (z:=ps9 (x.n 7)) (k:=1) (by have:=mT (x.n 7);omega) (by decide);have R:=N7 (k:=40) O H (by omega);have G:∀Z,kO prog 170 [.agg ((jW [110] (zQ (fJ x)) (hQ (ie (x.n 6))) (hQ (ps9 (x.n 7))) [110,95,114,111,99,107]).cells .qF .qF .qF .qF)] (M++Z) (.int .i64 2) (M++Z):=fun Z=>Ic rfl rfl rfl rfl
 have U:=fun Z=>kE er.2.2.2.1 rfl X J W V G (by decide) (by decide) (dkL (zQ (fJ x)) (hQ (ie (x.n 6))) (hQ (ps9 (x.n 7))) v) Z
 have C:loK 4=0:=rfl;have B:0<=dkL (zQ (fJ x)) (hQ (ie (x.n 6))) (hQ (ps9 (x.n 7))) v/\dkL (zQ (fJ x)) (hQ (ie (x.n 6))) (hQ (ps9 (x.n 7))) v<=2:=by
  unfold dkL;split
  .omega
  .split<;>omega
 exact jC (fun Z=>MI (M:=M++Z) ⟨rfl,rfl⟩ [110] _ _ _ _ v (N9 (O.mono (m:=5) (by omega)) H (by omega) (by omega)) (ee R (by omega) (by omega)) (ee S (by omega) (by omega)) (ee (nT R S) (by omega) (by omega)) (ee w7 (by omega) (by omega)))
  (lN er.2.2.2.1 rfl X J W V (Uh (H.mono (by omega))) (fun Z=>Mz (M:=M++Z) ⟨rfl,rfl⟩ (wA (O.mono (m:=5) (by omega)) H (by omega) (by omega)) (gW R (by omega) (by omega)) (gW S (by omega) (by omega)) (gW w7 (by omega) (by omega)) (gW (nT R S) (by omega) (by omega))) (by decide) (by decide)) U (by omega)
  (fun Z k=>zy ⟨rfl,rfl⟩ rfl rfl rfl rfl rfl k) rfl (fun h=>absurd h (kne 4 rfl (by decide)))
theorem QE(h:x.kind%5=2)(H:vDg 5 v)(I:M[p]? =some (.cells o 2 (pC s.P)))(J:M[t]? =some (.cells o' 3 (tC s.T)))(W:af8 M ev (cSk x s.P.length)):agk M (Al s p t) ev v (cSk x s.P.length):=by
 have V:=qR s x;rw[Yn h] at W V |-;have R:=W;have hc:=wz x;have X:(x.afI (ctM x)).length=ctM x:=afg.afR x _;have U:YO 2 (x.afI (ctM x)):=fun q S=>Lz (by omega) S
 obtain⟨b,u,sv,kn,rfl,j,Y,h3,D⟩:=W;obtain rfl:=j.af6 rfl;obtain rfl:=Y.af6 rfl;obtain rfl:=h3.af6 rfl;have e1:(eV [110] (zQ (fJ x)) (x.afI (ctM x)) (zQ (Ae x))).K.length=ctM x:=by show(kT _).length=_;rw[mc,X]
 rw[e1] at D;obtain⟨C,ko,rfl,N⟩:=D.pos (by omega);have N:M[C]? =some (.cells ko 2 (kC (kT (x.afI (ctM x))))):=N;have G:=Un (sX x) (k:=1) (by decide) (by decide);have B:=N7 (k:=40) G H (by omega);have F:=ES (x.afI (ctM x)) (gw (zQ (fJ x)) v);have hN:∀Z,kO prog 165 [.agg ((eV [110] (zQ (fJ x)) (x.afI (ctM x)) (zQ (Ae x))).cells .qF .qF .qF (.slice C 0 (ctM x) none))] (M++Z) (.int .i64 (ctM x:Int)) (M++Z):=fun Z=>Ib rfl rfl rfl rfl
 have O:=fun Z=>kE er.2.2.1 rfl V I J R hN (by decide) (by decide) (fg (x.afI (ctM x)) (gw (zQ (fJ x)) v):Int) Z
 have lo:loK 3=0:=rfl;refine jC (fun Z=>?_) (lN er.2.2.1 rfl V I J R (Uh (H.mono (by omega))) (fun Z=>?_) (by decide) (by decide)) O (by rw[X] at F;omega)
  (fun Z k=>nn ⟨rfl,rfl⟩ ⟨kne 3 rfl (by decide),kne 3 rfl (by decide)⟩ rfl rfl rfl rfl k) rfl (fun h=>absurd h (kne 3 rfl (by decide)))
 .have:=MH (M:=M++Z) (a0:=s.P.length) (a1:=s.T.length) (rO (cX I Z)) (rO (cX J Z)) [110] (zQ (fJ x)) (zQ (Ae x)) v (x.afI (ctM x)) (N9 (G.mono (m:=5) (by omega)) H (by omega) (by omega)) (ee B (by omega) (by omega)) (by rw[X];omega) (fun q S=>ee (U q S).1 (by omega) (by omega)) (cX N Z)
  rw[X] at this;exact this
 .have:=My (M:=M++Z) (nm:=[110]) (n:=zQ (fJ x)) (v:=zQ (Ae x)) (p:=v) (a:=s.P.length) (b:=s.T.length) (L:=x.afI (ctM x)) (rO (cX I Z)) (rO (cX J Z)) (cX N Z) (wA (G.mono (m:=5) (by omega)) H (by omega) (by omega)) (fun q S=>⟨gW (U q S).1 (by omega) (by omega),gW (U q S).2 (by omega) (by omega)⟩) (gW B (by omega) (by omega)) (by rw[X];omega)
  rw[X] at this;exact this
theorem Ue{c:Nat}(hc:c=1\/c=2\/c=3):(∀Y∈x.base.l s.P.length::ja x s.P.length c,hOk s Y)/\(ja x s.P.length c).length<=2/\∀Y∈ja x s.P.length c,∀(i:Nat) z y,(x.base.l s.P.length)[i]? =some z->Y[i]? =some y->z<=y:=by
 have lB:(x.base.l s.P.length).length=s.P.length:=x.base.afJ _;have O:∀h L,(upL h L s.P.length).length=s.P.length:=fun h L=>fE h L _
 have V:hOk s (x.base.l s.P.length):=⟨lB,fun z X=>by have:=ka x _ z X;omega⟩;have N:hOk s (upL x.s0 (x.base.l s.P.length) s.P.length):=⟨O _ _,fun z X=>by have:=mw x _ z X;omega⟩;have G:hOk s (upL x.s1 (upL x.s0 (x.base.l s.P.length) s.P.length) s.P.length):=⟨O _ _,fun z X=>by unfold upL at X;obtain⟨k,U,rfl⟩:=QQh.1 X;have U:=List.mem_range.1 U;have F:=mw x s.P.length _ (mN (l:=upL x.s0 (x.base.l s.P.length) s.P.length) (k:=k) (by rw[fE];exact U));have:=x.s1.ag0 k;unfold upL at F;omega⟩
 have S:∀(i:Nat) z y,(x.base.l s.P.length)[i]? =some z->(upL x.s0 (x.base.l s.P.length) s.P.length)[i]? =some y->z<=y:=fun i z y X R=>Mq X R
 have D:∀(i:Nat) z y,(x.base.l s.P.length)[i]? =some z->(upL x.s1 (upL x.s0 (x.base.l s.P.length) s.P.length) s.P.length)[i]? =some y->z<=y:=fun i z y X R=>by
  obtain⟨w,K⟩:∃w,(upL x.s0 (x.base.l s.P.length) s.P.length)[i]? =some w:=⟨_,GT (by rw[fE];have:=gL X;omega)⟩
  have C:=S i z w X K;have B:w<=y:=Mq K R;omega
 rcases hc with rfl | rfl | rfl
 .exact⟨fun Y Z=>by simp only[ja,List.mem_singleton] at Z;subst Z;exact V,by simp[ja],fun Y Z=>by simp[ja] at Z⟩
 .refine⟨fun Y Z=>?_,by simp[ja],fun Y Z=>?_⟩
  .simp only[ja,lM] at Z
   rcases Z with rfl | rfl
   .exact V
   .exact N
  .simp only[ja,List.mem_singleton] at Z
   subst Z;exact S
 .refine⟨fun Y Z=>?_,by simp[ja],fun Y Z=>?_⟩
  .simp only[ja,lM] at Z
   rcases Z with rfl | rfl | rfl
   .exact V
   .exact N
   .exact G
  .simp only[ja,lM] at Z
   rcases Z with rfl | rfl
   .exact S
   .exact D
theorem QC(h:x.kind%5=0)(W:vDg 5 v)(I:M[p]? =some (.cells o 2 (pC s.P)))(J:M[t]? =some (.cells o' 3 (tC s.T)))(H:af8 M ev (cSk x s.P.length)):agk M (Al s p t) ev v (cSk x s.P.length):=by
 have X:=qR s x;rw[Yl h] at H X |-;have h3:=ir x;have V:=fun Z=>NI W (cX I Z) (cX J Z) (H.more Z)
 obtain⟨w1,w2,w3⟩:=Ue (s:=s) (x:=x) h3;have S:∀Z,kO prog 157 [Al s p t,.agg ev,vA v] (M++Z) (.tuple [.int .i64 (Wh s x v),.int .i64 0]) (M++Z):=fun Z=>MB w1 w2 w3 rfl rfl (H.more Z) (cX I Z) (cX J Z) W
 have F:=lN er.1 rfl X I J H (Uh (W.mono (by omega))) S (by decide) (by decide);obtain⟨b,u,D,Y,rfl,h1,h2,O,h4⟩:=id H;have C:=h1.ck;have m:D.afi=true:=by obtain⟨_,_,h,_⟩:=O;exact h.ck
 have j:=h4.ck;have N:(tF x s.P.length (ctN x)).U.length=ctN x:=He h3;obtain⟨L,uo,rfl,hu⟩:=h2.pos (by rw[N];omega);rw[N] at H V S F |-;have K :M[L]? =some (.cells uo 1 (stC (uNm (ctN x)))):=hu;have G:(uNm (ctN x)).length=ctN x:=He h3;have hN:∀Z,kO prog 156 [.agg ((tF x s.P.length (ctN x)).cells b (.slice L 0 (ctN x) none) D Y)] (M++Z) (.int .i64 ((ctN x:Int)-1)) (M++Z):=fun Z=>H9 C rfl m j (by omega)
 have R:=fun Z=>kE er.1 rfl X I J H hN (by decide) (by decide) (Wh s x v) Z
 have lo:loK 1= -2:=rfl;have hb: -2<=Wh s x v/\Wh s x v<=(ctN x:Int)-1:=by
  have:=WR (P:=s.P) (T:=s.T) (B:=qH (x.base.l s.P.length)) (Qs:=(ja x s.P.length (ctN x)).map qH) (p:=v);have e:((ja x s.P.length (ctN x)).map qH).length=ctN x-1:=by rcases h3 with h | h | h<;>rw[h]<;>rfl
  rw[e] at this;unfold Wh;omega
 refine jC V F R (by omega) (fun Z k=>?_) rfl (fun _=>by rw[N];omega);have:=A5 (M:=M++Z) (pv:=.slice p 0 s.P.length none) (tv:=.slice t 0 s.T.length none) (c:=tF x s.P.length (ctN x)) (us:=uNm (ctN x)) (x:=Wh s x v) ⟨rfl,rfl⟩ rfl C (u:=.slice L 0 (ctN x) none) (by rw[G]) m j (cX K Z) (by rw[G];omega) (by rw[G];omega) k;exact this
theorem QB(J:vDg 5 v)(H:M[p]? =some (.cells o 2 (pC s.P)))(I:M[t]? =some (.cells o' 3 (tC s.T))):agk (M++Om M.length x s.P.length) (Al s p t) (Vy M.length x s.P.length) v (cSk x s.P.length):=by
 have Z:=SU x s.P.length (lI s).1 M;have H:=cX H (Om M.length x s.P.length);have I:=cX I (Om M.length x s.P.length);rcases pI x.kind with h | h | h | h | h
 .exact QC h J H I Z
 .exact QD h J H I Z
 .exact QE h J H I Z
 .exact QF h J H I Z
 .exact QG h J H I Z
end
end Go.Proofs
namespace Go.Proofs
open Go.Eng
end Go.Proofs
