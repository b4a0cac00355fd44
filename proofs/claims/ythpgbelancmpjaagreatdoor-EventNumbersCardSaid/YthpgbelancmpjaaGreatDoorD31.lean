/- See D38. -/
import Derived.Test.YthpgbelancmpjaaGreatDoorD30
set_option linter.all false
set_option maxRecDepth 100000
set_option maxHeartbeats 40000000
namespace Go.Proofs
open Go.Eng
open Tryz
def qf(P:List P2)(q:P2):List Tr->Nat->List Int
 | [],_=>[]
 |t::l,i=>if inQ (xf P q t) then (i:Int)::qf P q l (i+1) else qf P q l (i+1)
theorem EC{P:List P2}{q:P2}:∀{T:List Tr} {k:Nat},match GQ P q T k with
  |none=>qf P q T k=[]
  |some (j,_)=>∃l,qf P q T k=(j:Int)::l
 | [],k=>by simp[GQ,qf]
 |t::r,k=>by
  rw[GQ,qf];by_cases h:inQ (xf P q t)
  .rw[if_pos h,if_pos h];exact⟨_,rfl⟩
  .rw[if_neg h,if_neg h];exact EC (T:=r)
def YN(N:Mem)(pv:AV)(L:List AV)(H:Mem):Prop:=(pv=.qF/\L=[]/\H=N)\/∃b,pv=.slice b 0 L.length none/\N[b]? =some (.cells true 1 L)/\H=N.set b .qK
section
variable {O:y9}{N N1:Mem}{pv tv w:AV}{n i bm bp:Nat}{q A B C:P2}{L:List AV}
theorem Kj:(aI f12).map (fun o=>dO o.toList)=[[0,0,3,0,15]]:=by kernel_rfl
theorem Kk{b:Code}(J:ah f12=[b])(cp:pv.afi=true/\tv.afi=true)(kn:pv.known=true/\tv.known=true)(rf:pv.adM (fun b=>decide (b<N.length))=true/\tv.adM (fun b=>decide (b<N.length))=true)(hi:i<n)(hn:n<=1000)(hL:L.length<=1000)(W:N[bm]? =some (.cells true 0 [pv,tv]))(hp:N[bp]? =some (.cells true 0 [.str (ao q.1),.str (ao q.2)]))(hg:YN N w L N1)(eC:O (.fn 49) [.agg [pv,tv],.int .i64 (i:Int)] N=some ⟨E3 A B C,none,[]⟩){g:Bool}(eI:O (.fn 48) [E3 A B C,pA q] N=some ⟨.bool g,none,[]⟩){env:Env}(l2:ae env 2=.ptr bm 0)(l3:ae env 3=.ptr bp 0)(l7:ae env 7=w)(H:ae env 19=.int .i64 (n:Int))(I:ae env 20=.int .i64 (i:Int))(m0:Nat)(d:Bool):
  ∃X,aU (bd prog) (fun _=>[20,20,20,7]) O 1100 34 m0 true b ⟨env,N,d⟩=some (.normal,X)/\ae X.env 20=.int .i64 ((i+1:Nat):Int)/\ae X.env 7=(if g then .slice (N.length+1) 0 (L.length+1) none else w)/\X.mem=(if g then N1++[.cells true 1 [.int .i64 (i:Int)],.cells true 1 (L++[.int .i64 (i:Int)])] else N):=by
 obtain⟨Z,S⟩:∃Z,aI f12=Z :=⟨_,rfl⟩
 have V :=cG S Kj;simp only[aI,ca,f12,List.nil_append,List.append_nil] at S;subst S;simp only[lB] at V;simp[ah,aE,f12] at J;subst J;have u:=gL W;have o:=gL hp;obtain⟨m,j⟩:=cp;obtain⟨k1,k2⟩:=kn;obtain⟨r1,r2⟩:=rf;have U:IntKind.i64.wrap ((i:Int)+1)=((i+1:Nat):Int):=by rw[af];omega
 obtain⟨m1,R⟩:=xE (i+1);rw[<-R] at U |-;have M:(L.length+1)*8<=140737488355328:=by omega
 have K:L.length+1<=140737488355328:=by omega
 unfold E3 pA at*;cases g
 .simp[-getElem?_pos,-AV.afi,-AV.known,-AV.cells,-cO,-List.all_eq_true,rS,mS,l2,l3,l7,H,I,hi,W,hp,eC,eI,U,r1,r2,-bF,-bn,-aG,-AV.adM,-afl.adM,aY V,cq,cc,dW,cK,cS,gB,bef,Nat.testBit]
 .rcases hg with⟨rfl,rfl,rfl⟩ | ⟨b,rfl,J,rfl⟩
  .simp[-getElem?_pos,-AV.afi,-AV.known,-AV.cells,-cO,-List.all_eq_true,vS,rS,mS,l2,l3,l7,H,I,hi,W,hp,eC,eI,U,r1,r2,-bF,-bn,-aG,-AV.adM,-afl.adM,aY V,cq,cc,dW,cK,cS,gB,bef,Nat.testBit]
  .have G:=gL J
   have F:∀Y:Mem,(N++Y)[b]? =some (.cells true 1 L):=fun Y=>gU J _
   have D:∀Y:Mem,(N++Y).set b .qK=N.set b .qK++Y:=fun Y=>List.set_append_left _ _ G
   have z3:∀Y:Mem,(N.set b .qK++Y)[N.length]? =Y[0]? :=fun Y=>by have:=xZ (N.set b .qK) Y;rwa [QQc] at this
   simp[-getElem?_pos,-AV.afi,-AV.known,-AV.cells,-cO,-List.all_eq_true,vS,rS,mS,l2,l3,l7,H,I,hi,W,hp,eC,eI,U,r1,r2,M,K,F,D,-bF,-bn,-aG,-AV.adM,-afl.adM,aY V,cq,cc,dW,cK,cS,gB,bef,Nat.testBit]
end
def xU(N:Mem):AV->List AV
 |.slice b _ _ _=>match N[b]? with
  |some (.cells _ _ cs)=>cs
  |_=>[]
 |_=>[]
def Lv(N:Mem):AV->Mem
 |.slice b _ _ _=>N.set b .qK
 |_=>N
def kQ(N:Mem)(w:AV)(i:Nat):Mem×AV:=(Lv N w++[.cells true 1 [.int .i64 (i:Int)],.cells true 1 (xU N w++[.int .i64 (i:Int)])],.slice (N.length+1) 0 ((xU N w).length+1) none)
def GO(P:List P2)(q:P2):List Tr->Nat->Mem->AV->Mem×AV
 | [],_,N,w=>(N,w)
 |t::l,i,N,w=>if inQ (xf P q t) then GO P q l (i+1) (kQ N w i).1 (kQ N w i).2 else GO P q l (i+1) N w
structure LmI (P:List P2)(T:List Tr)(q:P2)(M N:Mem)(pb tb bm bp:Nat)(w:AV)(L:List AV):Prop where
 p:∃o,N[pb]? =some (.cells o 2 (pC P))
 t:∃o,N[tb]? =some (.cells o 3 (tC T))
 m:N[bm]? =some (.cells true 0 [.slice pb 0 P.length none,.slice tb 0 T.length none])
 v:N[bp]? =some (.cells true 0 [.str (ao q.1),.str (ao q.2)])
 e:∃Y,N=M++Y
 g:YN N w L (Lv N w)
 r:xU N w=L
 b:∀b n,w=.slice b 0 n none->M.length<=b
 z:w=.qF\/L≠[]
section
variable {P:List P2}{T:List Tr}{q:P2}{M N:Mem}{pb tb bm bp i:Nat}{w:AV}{L:List AV}
theorem LmI.next(H:LmI P T q M N pb tb bm bp w L)(i:Nat):LmI P T q M (kQ N w i).1 pb tb bm bp (kQ N w i).2 (L++[.int .i64 (i:Int)]):=by
 have R:(Lv N w).length=N.length:=by unfold Lv;split<;>simp
 have af4:∀(b:Nat) o es C,es≠1->N[b]? =some (.cells o es C)->(kQ N w i).1[b]? =some (.cells o es C):=fun b o es C O X=>by
  have K:=gL X;unfold kQ;simp only;rw[GE (by omega)];rcases H.g with⟨Z,_,_⟩ | ⟨c,Z,U,_⟩
  .rw[Z];exact X
  .rw[Z]
   show(N.set c .qK)[b]? =_
   rw[QQK (fun e=>by subst e;rw[U] at X;cases X;exact O rfl)];exact X
 have S:=H.r;have row:(kQ N w i).1[N.length+1]? =some (.cells true 1 (L++[.int .i64 (i:Int)])):=by unfold kQ;simp only;rw[V1 (by omega),R,Nat.add_sub_cancel_left,S];rfl
 refine⟨?_,?_,af4 _ _ _ _ (by decide) H.m,af4 _ _ _ _ (by decide) H.v,?_,.inr ⟨N.length+1,?_,row,rfl⟩,?_,?_,.inr (by simp)⟩
 .obtain⟨o,h⟩:=H.p;exact⟨o,af4 _ _ _ _ (by decide) h⟩
 .obtain⟨o,h⟩:=H.t;exact⟨o,af4 _ _ _ _ (by decide) h⟩
 .obtain⟨Y,V⟩:=H.e
  rcases H.g with⟨Z,_,_⟩ | ⟨c,Z,U,_⟩
  .exact⟨Y++[.cells true 1 [.int .i64 (i:Int)],.cells true 1 (xU N w++[.int .i64 (i:Int)])],by unfold kQ;simp only;rw[Z];show N++_=_;rw[V,Y1]⟩
  .have X:=H.b c _ Z
   obtain⟨k,rfl⟩:∃k,c=M.length+k:=⟨c-M.length,by omega⟩
   exact⟨Y.set k .qK++[.cells true 1 [.int .i64 (i:Int)],.cells true 1 (xU N w++[.int .i64 (i:Int)])],by unfold kQ;simp only;rw[Z];show N.set (M.length+k) .qK++_=_;rw[V,GS,Y1]⟩
 .unfold kQ;simp[S]
 .show xU (kQ N w i).1 (.slice (N.length+1) 0 _ none)=_
  simp only[xU,row]
 .intro b n h
  obtain⟨Y,V⟩:=H.e;unfold kQ at h;simp only[AV.slice.injEq] at h;obtain⟨rfl,_⟩:=h;rw[V,SP];omega
theorem GP:∀(l:List Tr) (i:Nat) (N:Mem) (w:AV) (L:List AV),LmI P T q M N pb tb bm bp w L->LmI P T q M (GO P q l i N w).1 pb tb bm bp (GO P q l i N w).2 (L++(qf P q l i).map fun n=>.int .i64 n)
 | [],i,N,w,L,H=>by show LmI P T q M N pb tb bm bp w (L++[]);rw[List.append_nil];exact H
 |t::l,i,N,w,L,H=>by
  rw[GO,qf];by_cases h:inQ (xf P q t)
  .rw[if_pos h,if_pos h]
   have:=GP l (i+1) _ _ _ (H.next i);simpa using this
  .rw[if_neg h,if_neg h]
   exact GP l (i+1) N w L H
variable {O:y9}
theorem yB{b:Code}(I:ah f12=[b])(H env:Env):ae (aw [20,20,20,7] (ad b) H env) 20=ae env 20/\ae (aw [20,20,20,7] (ad b) H env) 7=ae env 7/\ae (aw [20,20,20,7] (ad b) H env) 2=ae H 2/\ae (aw [20,20,20,7] (ad b) H env) 3=ae H 3/\ae (aw [20,20,20,7] (ad b) H env) 19=ae H 19:=by simp[ah,aE,f12] at I;subst I;simp[aw]
theorem Nz{b:Code}(J:ah f12=[b]){n:Nat}{env:Env}(H:ae env 19=.int .i64 (n:Int))(I:ae env 20=.int .i64 (n:Int))(m0:Nat)(d:Bool):
  ∃Z,aU (bd prog) (fun _=>[20,20,20,7]) O 1100 34 m0 true b ⟨env,N,d⟩=some (.exit 0,⟨Z,N,d⟩)/\ae Z 7=ae env 7:=by
 simp[ah,aE,f12] at J;subst J;simp[H,I]
theorem rE{b:Code}(W:ah f12=[b])(Y:ahQ P T q)
  (hC:∀(N:Mem) (i:Nat) t A B C,T[i]? =some t->P[t.1]? =some A->P[t.2.1]? =some B->P[t.2.2]? =some C->(∃o,N[pb]? =some (.cells o 2 (pC P)))->(∃o,N[tb]? =some (.cells o 3 (tC T)))->O (.fn 49) [.agg [.slice pb 0 P.length none,.slice tb 0 T.length none],.int .i64 (i:Int)] N=some ⟨E3 A B C,none,[]⟩)
  (hI:∀(N:Mem) A B C,Ug A B C q->O (.fn 48) [E3 A B C,pA q] N=some ⟨.bool (decide (inQ (qi A B C q))),none,[]⟩)
  {I:Env}(l2:ae I 2=.ptr bm 0) (l3:ae I 3=.ptr bp 0) (J:ae I 19=.int .i64 (T.length:Int)) (m1 m0:Nat):
  ∀(k i:Nat) (N:Mem) (w:AV) (L:List AV) (env:Env) (d:Bool) (K:Nat),i+k=T.length->k<K->LmI P T q M N pb tb bm bp w L->L.length<=i->ae env 20=.int .i64 (i:Int)->ae env 7=w->
   ∃r:Env×Bool,ga [20,20,20,7] (ad b) I m1 (aU (bd prog) (fun _=>[20,20,20,7]) O 1100 34 m0 true b) K ⟨aw [20,20,20,7] (ad b) I env,N,d⟩=some (.exit 0,⟨r.1,(GO P q (T.drop i) i N w).1,r.2⟩)/\ae r.1 7=(GO P q (T.drop i) i N w).2
 |0,i,N,w,L,env,d,K,hk,hK,H,hL,h20,h7=>by
  obtain⟨K,rfl⟩:∃k,K=k+1:=⟨K-1,by omega⟩
  obtain rfl:i=T.length:=by omega
  obtain⟨S,R,u,j,G⟩:=yB W I env;obtain⟨AC,h1,h2⟩:=Nz (O:=O) (N:=N) W (env:=aw [20,20,20,7] (ad b) I env) (by rw[G];exact J) (by rw[S];exact h20) m0 d;rw[List.drop_length];exact⟨(AC,d),by rw[ga,h1];rfl,by rw[h2,R];exact h7⟩
 |k+1,i,N,w,L,env,d,K,hk,hK,H,hL,h20,h7=>by
  obtain⟨K,rfl⟩:∃k,K=k+1:=⟨K-1,by omega⟩
  obtain⟨S,R,u,j,G⟩:=yB W I env;obtain⟨t,F⟩:∃t,T[i]? =some t:=⟨_,GT (by omega)⟩
  obtain⟨A,B,C,hA,hB,X,Zj⟩:=Y.tri i t F;have D:=Y.hl.2;have ed:T.drop i=t::T.drop (i+1):=by obtain⟨FS,e⟩:=Ns.1 F;rw[N0 FS,e]
  have et:xf P q t=qi A B C q:=by unfold xf;simp[List.getD,hA,hB,X]
  have hp:=H.p;have V:=H.t;have lp:pb<N.length:=by obtain⟨o,h⟩:=hp;exact(gL h)
  have lt:tb<N.length:=by obtain⟨o,h⟩:=V;exact(gL h)
  obtain⟨Z,t1,t2,t3,t4⟩:=Kk (O:=O) (n:=T.length) (i:=i) W ⟨rfl,rfl⟩ ⟨rfl,rfl⟩ ⟨by simp only[AV.adM,Es];exact lp,by simp only[AV.adM,Es];exact lt⟩ (by omega) D (by omega) H.m H.v H.g (hC N i t A B C F hA hB X hp V) (hI N A B C Zj)
   (env:=aw [20,20,20,7] (ad b) I env) (by rw[u];exact l2) (by rw[j];exact l3) (by rw[R];exact h7) (by rw[G];exact J) (by rw[S];exact h20) m0 d
  rw[ed,GO,et];rw[ga,t1];simp only;have hs:mg [20,20,20,7] (ad b) I m1 Z =⟨aw [20,20,20,7] (ad b) I Z.env,Z.mem,Z.afD⟩:=by simp[mg,wZ]
  rw[hs];by_cases U:inQ (qi A B C q)
  .rw[if_pos U]
   rw[decide_eq_true U,if_pos rfl] at t3 t4;have hr:=H.r;have e1:Z.mem=(kQ N w i).1:=by rw[t4];unfold kQ;rw[hr]
   have e2:ae Z.env 7=(kQ N w i).2:=by rw[t3];unfold kQ;rw[hr]
   rw[e1];exact rE W Y hC hI l2 l3 J m1 m0 k (i+1) _ _ _ Z.env Z.afD K (by omega) (by omega) (H.next i) (by simp;omega) t2 e2
  .rw[if_neg U]
   rw[decide_eq_false U,if_neg (by decide)] at t3 t4;rw[t4];exact rE W Y hC hI l2 l3 J m1 m0 k (i+1) N w L Z.env Z.afD K (by omega) (by omega) H (by omega) t2 t3
end
def sG(P:List P2)(T:List Tr)(q:P2)(pb tb:Nat)(c:Go.Eng.Callee)(a:List AV)(N:Mem)(r:afh):Prop:=
 (c=.fn 46/\a=[.agg [.slice pb 0 P.length none,.slice tb 0 T.length none]]/\(∃o,N[pb]? =some (.cells o 2 (pC P)))/\(∃o,N[tb]? =some (.cells o 3 (tC T)))/\r=⟨.int .i64 0,none,[]⟩)\/
 (c=.fn 47/\a=[pA q]/\r=⟨.int .i64 0,none,[]⟩)\/
 (∃(i:Nat) (t:Tr) (A B C:P2),c=.fn 49/\a=[.agg [.slice pb 0 P.length none,.slice tb 0 T.length none],.int .i64 (i:Int)]/\T[i]? =some t/\(P[t.1]? =some A/\P[t.2.1]? =some B/\P[t.2.2]? =some C)/\(∃o,N[pb]? =some (.cells o 2 (pC P)))/\(∃o,N[tb]? =some (.cells o 3 (tC T)))/\r=⟨E3 A B C,none,[]⟩)\/
 (∃A B C:P2,c=.fn 48/\a=[E3 A B C,pA q]/\Ug A B C q/\r=⟨.bool (decide (inQ (qi A B C q))),none,[]⟩)
variable{M N:Mem}
section
variable {P:List P2}{T:List Tr}{q:P2}{pb tb:Nat}
theorem mH{c:Go.Eng.Callee}{a:List AV}{r r' :afh}(h:sG P T q pb tb c a N r)(h' :sG P T q pb tb c a N r'):r' =r:=by
 rcases h with⟨rfl,rfl,_,_,rfl⟩ | ⟨rfl,rfl,rfl⟩ | ⟨i,t,A,B,C,rfl,rfl,L,⟨K,G,F⟩,_,_,rfl⟩ | ⟨A,B,C,rfl,rfl,_,rfl⟩
 .rcases h' with⟨_,_,_,_,rfl⟩ | ⟨e,_⟩ | ⟨_,_,_,_,_,e,_⟩ | ⟨_,_,_,e,_⟩<;>first | rfl | cases e
 .rcases h' with⟨e,_⟩ | ⟨_,_,rfl⟩ | ⟨_,_,_,_,_,e,_⟩ | ⟨_,_,_,e,_⟩<;>first | rfl | cases e
 .rcases h' with⟨e,_⟩ | ⟨e,_⟩ | ⟨D,J,S,R,O,_,e,Z,⟨X,V,U⟩,_,_,rfl⟩ | ⟨_,_,_,e,_⟩
  .cases e
  .cases e
  .simp only[List.cons.injEq,AV.int.injEq,true_and,and_true] at e
   obtain rfl:i=D :=by omega
   rw[L] at Z;cases Z;rw[K] at X;rw[G] at V;rw[F] at U;obtain rfl:=ZQ X;obtain rfl:=ZQ V;obtain rfl:=ZQ U;rfl
  .cases e
 .rcases h' with⟨e,_⟩ | ⟨e,_⟩ | ⟨_,_,_,_,_,e,_⟩ | ⟨S,R,O,_,e,_,rfl⟩
  .cases e
  .cases e
  .cases e
  .unfold E3 at e
   simp only[List.cons.injEq,AV.agg.injEq,AV.str.injEq,and_true] at e;obtain⟨u,o,m,j,Y,W⟩:=e;obtain rfl:A=S :=Prod.ext (eH u) (eH o);obtain rfl:B=R :=Prod.ext (eH m) (eH j);obtain rfl:C=O :=Prod.ext (eH Y) (eH W);rfl
theorem Ny(H:∀N:Mem,(∃o,N[pb]? =some (.cells o 2 (pC P)))->(∃o,N[tb]? =some (.cells o 3 (tC T)))->kO prog 46 [.agg [.slice pb 0 P.length none,.slice tb 0 T.length none]] N (.int .i64 0) N)(hq:tG [ao q.1,ao q.2]=0/\(ao q.1).length<=LO/\(ao q.2).length<=LO):qS prog (qt (sG P T q pb tb)):=tn fun c a N r h=>by
 rcases h with⟨rfl,rfl,Z,X,rfl⟩ | ⟨rfl,rfl,rfl⟩ | ⟨i,t,A,B,C,rfl,rfl,V,⟨U,S,R⟩,⟨L,Z⟩,⟨K,X⟩,rfl⟩ | ⟨A,B,C,rfl,rfl,O,rfl⟩
 .exact aC (by simpa [afh.mem] using H N Z X)
 .have:=iz (ao q.1) (ao q.2) hq.2.1 hq.2.2 N
  rw[hq.1] at this;exact aC (by simpa [afh.mem,pA] using this)
 .exact aC (by simpa [afh.mem] using AU V U S R Z X)
 .exact aC (by simpa [afh.mem] using Fi A B C q O N)
theorem LmI.row{bm I:Nat}{w:AV}{L:List AV}(H:LmI P T q M N pb tb bm I w L):aft N w 1 L.length L:=by
 rcases H.g with⟨Z,X,_⟩ | ⟨b,Z,X,_⟩
 .exact .inl ⟨Z,by rw[X];rfl,X⟩
 .refine .inr ⟨b,true,Z,?_,X⟩
  rcases H.z with h | h
  .rw[h] at Z;cases Z
  .exact List.length_pos_iff.2 h
theorem Fj(I:ahQ P T q)(H:∀N:Mem,(∃o,N[pb]? =some (.cells o 2 (pC P)))->(∃o,N[tb]? =some (.cells o 3 (tC T)))->kO prog 46 [.agg [.slice pb 0 P.length none,.slice tb 0 T.length none]] N (.int .i64 0) N)(hq:tG [ao q.1,ao q.2]=0/\(ao q.1).length<=LO/\(ao q.2).length<=LO){o1 o2:Bool}(J:M[pb]? =some (.cells o1 2 (pC P)))(m2:M[tb]? =some (.cells o2 3 (tC T))):
  ∃w S,kO prog 12 [.agg [.slice pb 0 P.length none,.slice tb 0 T.length none],pA q] M (.tuple [w,.int .i64 0]) (M++S)/\aft (M++S) w 1 (qf P q T 0).length ((qf P q T 0).map fun n=>.int .i64 n):=by
 have hG:aX prog 12=some f12:=by kernel_rfl
 have m:=Ny H hq;obtain⟨V,Z⟩:=xE (α:=Mem) (M++[.cells true 0 [.slice pb 0 P.length none,.slice tb 0 T.length none],.cells true 0 [.str (ao q.1),.str (ao q.2)]]);have l1:=gL J;have l2:=gL m2;have r1:V[pb]? =some (.cells o1 2 (pC P)):=by rw[Z,GE l1];exact J
 have r2:V[tb]? =some (.cells o2 3 (tC T)):=by rw[Z,GE l2];exact m2
 obtain⟨O,X⟩:=xE (qt (sG P T q pb tb));have e1:O (.fn 46) [.agg [.slice pb 0 P.length none,.slice tb 0 T.length none]] V=some ⟨.int .i64 0,none,[]⟩:=by rw[X];exact fj (.inl ⟨rfl,rfl,⟨_,r1⟩,⟨_,r2⟩,rfl⟩) fun G U =>mH (.inl ⟨rfl,rfl,⟨_,r1⟩,⟨_,r2⟩,rfl⟩) U
 have e2:O (.fn 47) [pA q] V=some ⟨.int .i64 0,none,[]⟩:=by rw[X];exact fj (.inr (.inl ⟨rfl,rfl,rfl⟩)) fun G U =>mH (.inr (.inl ⟨rfl,rfl,rfl⟩)) U
 have L:∀(N:Mem) (i:Nat) t A B C,T[i]? =some t->P[t.1]? =some A->P[t.2.1]? =some B->P[t.2.2]? =some C->(∃o,N[pb]? =some (.cells o 2 (pC P)))->(∃o,N[tb]? =some (.cells o 3 (tC T)))->O (.fn 49) [.agg [.slice pb 0 P.length none,.slice tb 0 T.length none],.int .i64 (i:Int)] N=some ⟨E3 A B C,none,[]⟩:=fun N i t A B C hi hA hB L h1 h2=>by have x:sG P T q pb tb (.fn 49) [.agg [.slice pb 0 P.length none,.slice tb 0 T.length none],.int .i64 (i:Int)] N ⟨E3 A B C,none,[]⟩:=.inr (.inr (.inl ⟨i,t,A,B,C,rfl,rfl,hi,⟨hA,hB,L⟩,h1,h2,rfl⟩));rw[X];exact fj x fun G U =>mH x U
 have j:∀(N:Mem) A B C,Ug A B C q->O (.fn 48) [E3 A B C,pA q] N=some ⟨.bool (decide (inQ (qi A B C q))),none,[]⟩:=fun N A B C ht=>by have x:sG P T q pb tb (.fn 48) [E3 A B C,pA q] N ⟨.bool (decide (inQ (qi A B C q))),none,[]⟩:=.inr (.inr (.inr ⟨A,B,C,rfl,rfl,ht,rfl⟩));rw[X];exact fj x fun G U =>mH x U
 rw[<-X] at m;clear X;have W:LmI P T q M V pb tb M.length (M.length+1) .qF []:=by
  refine⟨⟨_,r1⟩,⟨_,r2⟩,?_,?_,⟨_,Z⟩,.inl ⟨rfl,rfl,rfl⟩,rfl,fun b n h=>(by cases h),.inl rfl⟩
  .rw[Z,xZ];rfl
  .rw[Z,Cx];rfl
 have K:=GP T 0 V .qF [] W;rw[List.nil_append] at K;obtain⟨R,hR⟩:=xE (GO P q T 0 V .qF);rw[<-hR] at K;obtain⟨b,D⟩:∃b,ah f12=[b]:=⟨_,rfl⟩
 obtain⟨F,u⟩:=CX (β:=Env×Bool) (p:=fun env _=>ae env 2=.ptr M.length 0/\ae env 3=.ptr (M.length+1) 0/\ae env 19=.int .i64 (T.length:Int)/\ae env 20=.int .i64 0/\ae env 7=.qF)
  (q:=fun env d r=>aU (bd prog) (fun _=>[20,20,20,7]) O 1100 34 M.length true (.loop b) ⟨env,V,d⟩=some (.exit 0,⟨r.1,R.1,r.2⟩)/\ae r.1 7=R.2) (fun env d ⟨a2,a3,a19,a20,a7⟩=>by
  have hTl:=I.hl.2;have:=rE (O:=O) (M:=M) D I L j a2 a3 a19 V.length M.length T.length 0 V .qF [] env d 1100 (by omega) (by omega) W (by simp) a20 a7;rw[List.drop_zero,<-hR] at this;exact this)
 have Zh:=fun env d h=>(u env d h).1
 have Zn:=fun env d h=>(u env d h).2
 clear u L j;have Y6:cE (bd prog) (fun _=>[20,20,20,7]) (aX prog) O 1100 12 [.agg [.slice pb 0 P.length none,.slice tb 0 T.length none],pA q] M=some (.tuple [R.2,.int .i64 0],R.1):=by subst Z;simp[ah,aE,f12] at D;subst D;unfold pA at*;simp[-getElem?_pos,-AV.known,-AV.cells,-cO,-List.all_eq_true,vS,mS,cE,hG,f12,e1,e2,Zh,Zn]
 obtain⟨Y,hY⟩:=K.e;refine⟨R.2,Y,?_,?_⟩
 .rw[<-hY];exact cL aj (aJ _) m (aM _) Y6
 .rw[<-hY]
  have:=K.row;simpa using this
end
end Go.Proofs
namespace Go.Proofs
open Go.Eng
open Tryz
def GrN(es:Nat)(N:Mem)(pv:AV)(k:Nat)(L:List AV)(H:Mem):Prop:=(pv=.qF/\L=[]/\k=0/\H=N)\/∃b,pv=.slice b 0 k none/\N[b]? =some (.cells true es L)/\L.length=k*es/\H=N.set b .qK
theorem Kr:(aI f158).map (fun o=>dO o.toList)=[[0,0,0,0,8,0,56,120,248,0,512,0,3584,7680,15872,0,0,98304,229376,524280,1048572,2097150,4194302,8388607,16777215]]:=by kernel_rfl
section
variable {O:y9}{N N1:Mem}{w:AV}{n i j bm fr pb tb fb:Nat}{oF o1 o2 o3:Bool}{F L:List AV}{P:List P2}{T:List Tr}{Q:List Rat}{t:Tr}{A:P2}{f off:Rat}{nv:V3}
theorem Ku{b:Code}(H:ah f158=[b])(hm:N[bm]? =some (.cells true 0 [.slice pb 0 P.length none,.slice tb 0 T.length none]))(hF:N[fr]? =some (.cells oF 1 F))(hFl:F.length=n)(hi:F[i]? =some (.slice fb 0 Q.length none))(hn:n<=3)(hP:N[pb]? =some (.cells o1 2 (pC P)))(hT:N[tb]? =some (.cells o2 3 (tC T)))(hQ:N[fb]? =some (.cells o3 1 (qC Q)))(ht:T[j]? =some t)(hA:P[t.1]? =some A)(hf:Q[t.1]? =some f)(hg:GrN 4 N w i L N1)(rL:∀f,AV.afn f L=true)(eN:O (.fn 236) [.agg [.slice pb 0 P.length none,.slice tb 0 T.length none],.slice fb 0 Q.length none,.int .i64 (j:Int)] N=some ⟨.tuple [vA nv,.int .i64 0],none,[]⟩)(eD:∀X,O (.fn 113) [vA nv,.agg [.str (ao A.1),.str (ao A.2),.str (ao f)]] (N++X)=some ⟨.str (ao off),none,[]⟩){env:Env}(l2:ae env 2=.int .i64 (j:Int))(l3:ae env 3=.ptr bm 0)(l8:ae env 8=w)(I:ae env 21=.slice fr 0 n none)(J:ae env 22=.int .i64 (n:Int))(W:ae env 23=.int .i64 (i:Int))(m0:Nat)(d:Bool):
  ∃U,aU (bd prog) (fun _=>[23,23,23,8]) O 6 69 m0 true b ⟨env,N,d⟩=some (.normal,U)/\ae U.env 23=.int .i64 ((i+1:Nat):Int)/\ae U.env 8=.slice (N.length+2) 0 (i+1) none/\U.mem=N1++[.cells true 0 (vL nv),.cells true 4 (vL nv++[.str (ao off)]),.cells true 4 (L++(vL nv++[.str (ao off)]))]:=by
 obtain⟨Z,R⟩:∃Z,aI f158=Z :=⟨_,rfl⟩
 have M :=cG R Kr;simp only[aI,ca,f158,List.nil_append,List.append_nil] at R;subst R;simp only[lB] at M;simp[ah,aE,f158] at H;subst H;have g1:=gL hm;have g2:=gL hF;have g3:=gL hP;have g4:=gL hT;have g5:=gL hQ;have C:∀Y:Mem,(N++Y)[bm]? =some (.cells true 0 [.slice pb 0 P.length none,.slice tb 0 T.length none]):=fun Y=>gU hm _
 have B:∀Y:Mem,(N++Y)[pb]? =some (.cells o1 2 (pC P)):=fun Y=>gU hP _
 have u:∀Y:Mem,(N++Y)[tb]? =some (.cells o2 3 (tC T)):=fun Y=>gU hT _
 have o:∀Y:Mem,(N++Y)[fb]? =some (.cells o3 1 (qC Q)):=fun Y=>gU hQ _
 have m:∀x,bm<N.length+x:=fun x=>by omega
 have y3:∀x,pb<N.length+x:=fun x=>by omega
 have y4:∀x,tb<N.length+x:=fun x=>by omega
 have y5:∀x,fb<N.length+x:=fun x=>by omega
 have ZY:i<n:=by have:=gL hi;omega
 obtain⟨k1,k2⟩:=Mk ht;have V:=gL ht;obtain⟨p1,p2,p3,p4⟩:=vi hA;have a1:=gL hA;have f1:=Ov hf;have b1:=gL hf;obtain⟨t1,t2,t3⟩:=t;simp only at*;have kk:(tC T)[j*3]? =some (.int .i64 (t1:Int)):=by have:=congrArg (fun l=>l[0]?) k1;simpa [List.getElem?_take,QQa] using this
 have K:IntKind.i64.wrap ((i:Int)+1)=((i+1:Nat):Int):=by rw[af];omega
 obtain⟨m1,S⟩:=xE (i+1);have q0:(i+1)*64<=140737488355328:=by omega
 have q2:i<=140737488355327:=by omega
 unfold vA vL at*;rcases hg with⟨rfl,rfl,rfl,rfl⟩ | ⟨b,rfl,H,G,rfl⟩
 .rw[<-S] at K |-
  simp[-getElem?_pos,-AV.afi,-AV.known,-AV.cells,-cO,-List.all_eq_true,vS,rS,mS,l2,l3,l8,I,J,W,ZY,hF,hi,hm,eN,eD,C,B,u,o,m,y3,y5,kk,V,p2,p3,a1,f1,b1,cv,aH,-bF,-bn,-aG,-AV.adM,-afl.adM,aY M,cq,cc,dW,cK,cS,gB,bef,Nat.testBit];subst S;exact⟨rfl,rfl⟩
 .have D:=gL H
  rw[<-S] at K |-;have z0:∀x,b<N.length+x:=fun x=>by omega
  have tk:List.take (i*4) L=L:=B5 (by omega);have z1:∀Y:Mem,(N++Y)[b]? =some (.cells true 4 L):=fun Y=>gU H _
  have z2:∀Y:Mem,(N++Y).set b .qK=N.set b .qK++Y:=fun Y=>List.set_append_left _ _ D
  have z3:∀Y:Mem,(N.set b .qK++Y)[N.length]? =Y[0]? :=fun Y=>by have:=xZ (N.set b .qK) Y;rwa [QQc] at this
  have z4:∀Y:Mem,(N.set b .qK++Y)[b]? =some .qK:=fun Y=>by rw[GE (by rw[QQc];exact D),QQY D]
  have z5:∀(Y:Mem) k,List.drop (N.length+k) (N.set b .qK++Y)=Y.drop k:=fun Y k=>by have:(N.set b .qK).length=N.length:=QQc;rw[<-this,<-QQk,List.drop_left]
  simp[-getElem?_pos,-AV.afi,-AV.known,-AV.cells,-cO,-List.all_eq_true,vS,rS,mS,l2,l3,l8,I,J,W,ZY,hF,hi,hm,eN,eD,K,C,B,u,o,m,y3,y5,z4,z5,kA,rL,z0,z1,z2,G,q0,q2,tk,kk,V,p2,p3,a1,f1,b1,cv,aH,-bF,-bn,-aG,-AV.adM,-afl.adM,aY M,cq,cc,dW,cK,cS,gB,bef,Nat.testBit];exact S.symm
end
def pnC:List (V3×Rat)->List AV
 | []=>[]
 |x::l=>(vL x.1++[.str (ao x.2)])++pnC l
def ov(N:Mem)(w:AV)(i:Nat)(x:V3×Rat):Mem×AV:=(Lv N w++[.cells true 0 (vL x.1),.cells true 4 (vL x.1++[.str (ao x.2)]),.cells true 4 (xU N w++(vL x.1++[.str (ao x.2)]))],.slice (N.length+2) 0 (i+1) none)
def GY:List (V3×Rat)->Nat->Mem->AV->Mem×AV
 | [],_,N,w=>(N,w)
 |x::l,i,N,w=>GY l (i+1) (ov N w i x).1 (ov N w i x).2
structure PdI (M N:Mem)(w:AV)(i:Nat)(L:List AV):Prop where
 e:∃Y,N=M++Y
 g:GrN 4 N w i L (Lv N w)
 r:xU N w=L
 b:∀b n,w=.slice b 0 n none->M.length<=b
 z:w=.qF\/0<i
section
variable {M N:Mem}{w:AV}{L:List AV}{i:Nat}
theorem PdI.next(H:PdI M N w i L)(I:L.length=i*4)(x:V3×Rat):PdI M (ov N w i x).1 (ov N w i x).2 (i+1) (L++(vL x.1++[.str (ao x.2)])):=by
 have V:(Lv N w).length=N.length:=by unfold Lv;split<;>simp
 have U:=H.r;have row:(ov N w i x).1[N.length+2]? =some (.cells true 4 (L++(vL x.1++[.str (ao x.2)]))):=by unfold ov;simp only;rw[V1 (by omega),V,Nat.add_sub_cancel_left,U];rfl
 refine⟨?_,.inr ⟨N.length+2,rfl,row,?_,rfl⟩,?_,?_,.inr (by omega)⟩
 .obtain⟨Y,Z⟩:=H.e
  rcases H.g with⟨X,_,_⟩ | ⟨c,X,S,_⟩
  .exact⟨Y++[.cells true 0 (vL x.1),.cells true 4 (vL x.1++[.str (ao x.2)]),.cells true 4 (xU N w++(vL x.1++[.str (ao x.2)]))],by unfold ov;simp only;rw[X];show N++_=_;rw[Z,Y1]⟩
  .have R:=H.b c _ X
   obtain⟨k,rfl⟩:∃k,c=M.length+k:=⟨c-M.length,by omega⟩
   exact⟨Y.set k .qK++[.cells true 0 (vL x.1),.cells true 4 (vL x.1++[.str (ao x.2)]),.cells true 4 (xU N w++(vL x.1++[.str (ao x.2)]))],by unfold ov;simp only;rw[X];show N.set (M.length+k) .qK++_=_;rw[Z,GS,Y1]⟩
 .rw[SP,I];simp[vL];omega
 .show xU (ov N w i x).1 (.slice (N.length+2) 0 _ none)=_
  simp only[xU,row]
 .intro b n h
  obtain⟨Y,Z⟩:=H.e;unfold ov at h;simp only[AV.slice.injEq] at h;obtain⟨rfl,_⟩:=h;rw[Z,SP];omega
theorem Pn:∀(l:List (V3×Rat)) (i:Nat) (N:Mem) (w:AV) (L:List AV),L.length=i*4->PdI M N w i L->PdI M (GY l i N w).1 (GY l i N w).2 (i+l.length) (L++pnC l)
 | [],i,N,w,L,_,H=>by show PdI M N w i (L++[]);rw[List.append_nil];exact H
 |x::l,i,N,w,L,hL,H=>by rw[GY,pnC,<-Y1];have:=Pn l (i+1) _ _ _ (by rw[SP,hL];simp[vL];omega) (H.next hL x);rw[List.length_cons,show i+(l.length+1)=i+1+l.length by omega];exact this
end
structure ahB (O:y9)(M:Mem)(nF dF:Go.Eng.Callee)(bm fr pb tb j:Nat)(P:List P2)(T:List Tr)(t:Tr)(A:P2)(F:List AV)(X:List (V3×Rat)):Prop where
 m:M[bm]? =some (.cells true 0 [.slice pb 0 P.length none,.slice tb 0 T.length none])
 r:∃o,M[fr]? =some (.cells o 1 F)
 l:F.length=X.length/\X.length<=3
 pp:∃o,M[pb]? =some (.cells o 2 (pC P))
 tt:∃o,M[tb]? =some (.cells o 3 (tC T))
 hi:T[j]? =some t
 hA:P[t.1]? =some A
 f:∀(i:Nat) x,X[i]? =some x->∃fb o Q f,F[i]? =some (.slice fb 0 (Q:List Rat).length none)/\M[fb]? =some (.cells o 1 (qC Q))/\Q[t.1]? =some f/\
  (∀Y,O nF [.agg [.slice pb 0 P.length none,.slice tb 0 T.length none],.slice fb 0 Q.length none,.int .i64 (j:Int)] (M++Y)=some ⟨.tuple [vA x.1,.int .i64 0],none,[]⟩)/\∀Y,O dF [vA x.1,.agg [.str (ao A.1),.str (ao A.2),.str (ao f)]] (M++Y)=some ⟨.str (ao x.2),none,[]⟩
section
variable {O:y9}{M N:Mem}{w:AV}{bm fr pb tb j:Nat}{P:List P2}{T:List Tr}{t:Tr}{A:P2}{F:List AV}{X:List (V3×Rat)}
theorem yI{b:Code}(I:ah f158=[b])(H env:Env):ae (aw [23,23,23,8] (ad b) H env) 23=ae env 23/\ae (aw [23,23,23,8] (ad b) H env) 8=ae env 8/\ae (aw [23,23,23,8] (ad b) H env) 2=ae H 2/\ae (aw [23,23,23,8] (ad b) H env) 3=ae H 3/\ae (aw [23,23,23,8] (ad b) H env) 21=ae H 21/\ae (aw [23,23,23,8] (ad b) H env) 22=ae H 22:=by simp[ah,aE,f158] at I;subst I;simp[aw]
theorem NJ{b:Code}(J:ah f158=[b]){n:Nat}{env:Env}(H:ae env 22=.int .i64 (n:Int))(I:ae env 23=.int .i64 (n:Int))(m0:Nat)(d:Bool):
  ∃Z,aU (bd prog) (fun _=>[23,23,23,8]) O 6 69 m0 true b ⟨env,N,d⟩=some (.exit 0,⟨Z,N,d⟩)/\ae Z 8=ae env 8:=by
 simp[ah,aE,f158] at J;subst J;simp[H,I]
theorem yH{b:Code}(W:ah f158=[b])(J:ahB O M (.fn 236) (.fn 113) bm fr pb tb j P T t A F X)
  {I:Env}(l2:ae I 2=.int .i64 (j:Int)) (l3:ae I 3=.ptr bm 0) (l21:ae I 21=.slice fr 0 X.length none) (l22:ae I 22=.int .i64 (X.length:Int)) (m1 m0:Nat):
  ∀(k i:Nat) (N:Mem) (w:AV) (L:List AV) (env:Env) (d:Bool) (K:Nat),i+k=X.length->k<K->L.length=i*4->(∀f,AV.afn f L=true)->PdI M N w i L->ae env 23=.int .i64 (i:Int)->ae env 8=w->
   ∃r:Env×Bool,ga [23,23,23,8] (ad b) I m1 (aU (bd prog) (fun _=>[23,23,23,8]) O 6 69 m0 true b) K ⟨aw [23,23,23,8] (ad b) I env,N,d⟩=some (.exit 0,⟨r.1,(GY (X.drop i) i N w).1,r.2⟩)/\ae r.1 8=(GY (X.drop i) i N w).2
 |0,i,N,w,L,env,d,K,hk,hK,hL,hRL,H,h23,h8=>by
  obtain⟨K,rfl⟩:∃k,K=k+1:=⟨K-1,by omega⟩
  obtain rfl:i=X.length:=by omega
  obtain⟨R,G,u,o,q5,D⟩:=yI W I env;obtain⟨AC,h1,h2⟩:=NJ (O:=O) (N:=N) W (env:=aw [23,23,23,8] (ad b) I env) (by rw[D];exact l22) (by rw[R];exact h23) m0 d;rw[List.drop_length];exact⟨(AC,d),by rw[ga,h1];rfl,by rw[h2,G];exact h8⟩
 |k+1,i,N,w,L,env,d,K,hk,hK,hL,hRL,H,h23,h8=>by
  obtain⟨K,rfl⟩:∃k,K=k+1:=⟨K-1,by omega⟩
  obtain⟨R,G,u,o,q5,D⟩:=yI W I env;obtain⟨x,hx⟩:∃t,X[i]? =some t:=⟨_,GT (by omega)⟩
  obtain⟨fb,o3,Q,f,f1,f2,f3,f4,f5⟩:=J.f i x hx;obtain⟨Y,C⟩:=H.e;have ed:X.drop i=x::X.drop (i+1):=by obtain⟨FS,e⟩:=Ns.1 hx;rw[N0 FS,e]
  have U:∀{b:Nat}{S:afl},M[b]? =some S->N[b]? =some S:=fun {b S} W=>by rw[C,GE (gL W)];exact W
  obtain⟨oF,hF⟩:=J.r;obtain⟨o1,hP⟩:=J.pp;obtain⟨o2,hT⟩:=J.tt;obtain⟨hl,B⟩:=J.l;obtain⟨V,t1,t2,t3,t4⟩:=Ku (O:=O) (n:=X.length) (i:=i) (nv:=x.1) (off:=x.2) W (U J.m) (U hF) hl f1 B (U hP) (U hT) (U f2) J.hi J.hA f3 H.g hRL (by rw[C];exact f4 Y) (fun Z=>by rw[C,Y1];exact f5 (Y++Z))
   (env:=aw [23,23,23,8] (ad b) I env) (by rw[u];exact l2) (by rw[o];exact l3) (by rw[G];exact h8) (by rw[q5];exact l21) (by rw[D];exact l22) (by rw[R];exact h23) m0 d
  rw[ed,GY];rw[ga,t1];simp only;have hs:mg [23,23,23,8] (ad b) I m1 V =⟨aw [23,23,23,8] (ad b) I V.env,V.mem,V.afD⟩:=by simp[mg,wZ]
  rw[hs];have hr:=H.r;have e1:V.mem=(ov N w i x).1:=by rw[t4];unfold ov;rw[hr]
  have e2:ae V.env 8=(ov N w i x).2:=by rw[t3];rfl
  rw[e1];exact yH W J l2 l3 l21 l22 m1 m0 k (i+1) _ _ _ V.env V.afD K (by omega) (by omega) (by rw[SP,hL];simp[vL];omega) (fun f=>by rw[kA,hRL];rfl) (H.next hL x) t2 e2
end
theorem PdI.own{M N:Mem}{w:AV}{i:Nat}{L:List AV}(H:PdI M N w i L)(I:0<i):∃k,w=.slice (M.length+k) 0 i none/\N[M.length+k]? =some (.cells true 4 L):=by
 rcases H.g with⟨_,_,h3,_⟩ | ⟨b,Z,X,_⟩
 .omega
 .have:=H.b b i Z
  exact⟨b-M.length,by rw[show M.length+(b-M.length)=b by omega];exact Z,by rw[show M.length+(b-M.length)=b by omega];exact X⟩
section
variable {O:y9}{M:Mem}{pb tb fr j:Nat}{P:List P2}{T:List Tr}{t:Tr}{A:P2}{F:List AV}{X:List (V3×Rat)}
theorem yJ{H:Mem}{bm:Nat}(I:ahB O H (.fn 236) (.fn 113) bm fr pb tb j P T t A F X)(J:0<X.length){b:Code}(W:ah f158=[b])(m0:Nat):
  ∃w Z,(∃k,w=.slice (H.length+k) 0 X.length none/\Z[H.length+k]? =some (.cells true 4 (pnC X)))/\(∃Y,Z =H++Y)/\∃G:Env->Bool->Env×Bool,∀env d,(ae env 2=.int .i64 (j:Int)/\ae env 3=.ptr bm 0/\ae env 21=.slice fr 0 X.length none/\ae env 22=.int .i64 (X.length:Int)/\ae env 23=.int .i64 0/\ae env 8=.qF)->
   aU (bd prog) (fun _=>[23,23,23,8]) O 6 69 m0 true (.loop b) ⟨env,H,d⟩=some (.exit 0,⟨(G env d).1,Z,(G env d).2⟩)/\ae (G env d).1 8=w:=by
 have U:PdI H H .qF 0 []:=⟨⟨[],by simp⟩,.inl ⟨rfl,rfl,rfl,rfl⟩,rfl,fun b n h=>(by cases h),.inl rfl⟩;have V:=Pn X 0 H .qF [] rfl U;rw[List.nil_append,QQZ] at V;obtain⟨G,S⟩:=CX (β:=Env×Bool) (p:=fun env _=>ae env 2=.int .i64 (j:Int)/\ae env 3=.ptr bm 0/\ae env 21=.slice fr 0 X.length none/\ae env 22=.int .i64 (X.length:Int)/\ae env 23=.int .i64 0/\ae env 8=.qF)
  (q:=fun env d r=>aU (bd prog) (fun _=>[23,23,23,8]) O 6 69 m0 true (.loop b) ⟨env,H,d⟩=some (.exit 0,⟨r.1,(GY X 0 H .qF).1,r.2⟩)/\ae r.1 8=(GY X 0 H .qF).2) (fun env d ⟨a2,a3,a21,a22,a23,a8⟩=>by
  have R:=I.l.2;have:=yH (O:=O) (M:=H) W I a2 a3 a21 a22 H.length m0 X.length 0 H .qF [] env d 6 (by omega) (by omega) rfl (fun _=>rfl) U a23 a8;rw[List.drop_zero] at this;exact this)
 exact⟨_,_,V.own J,V.e,G,S⟩
variable {fb n0 cb m:Nat}{u kn:AV}{c:Evc}{vs:List AV}
theorem Ks(I:qS prog O)(hu:u.afi=true)(hn:kn.afi=true)(H:ahB O (M++[.cells true 0 [.slice pb 0 P.length none,.slice tb 0 T.length none],.cells true 0 (c.cells (.slice fb 0 n0 none) u .qF kn),.qK,.cells true 1 [.slice fb 0 n0 none]]) (.fn 236) (.fn 113) M.length (M.length+3) pb tb j P T t A [.slice fb 0 n0 none] X):
  ∃w Z,kO prog 158 [.agg [.slice pb 0 P.length none,.slice tb 0 T.length none],.agg (c.cells (.slice fb 0 n0 none) u .qF kn),.int .i64 (j:Int)] M (.tuple [w,.int .i64 0]) (M++Z)/\∃k,w=.slice (M.length+k) 0 X.length none/\(M++Z)[M.length+k]? =some (.cells true 4 (pnC X)):=by
 have N:aX prog 158=some f158:=by kernel_rfl
 obtain⟨b,U⟩:∃b,ah f158=[b]:=⟨_,rfl⟩
 have L:X.length=1:=by have:=H.l.1;simpa using this.symm
 obtain⟨w,K,⟨k,S,h3⟩,⟨Y,R⟩,G,V⟩:=yJ H (by omega) U M.length;rw[L] at V;have D:=fun env d h=>(V env d h).1
 have C:=fun env d h=>(V env d h).2
 clear V;have B:∀s,(AV.str s).afi=true:=fun _=>rfl
 have W:∀k n,(AV.int k n).afi=true:=fun _ _=>rfl
 have J:∀b o n c,(AV.slice b o n c).afi=true:=fun _ _ _ _=>rfl
 have hcn:AV.qF.afi=true:=rfl;have Y6:cE (bd prog) (fun _=>[23,23,23,8]) (aX prog) O 6 158 [.agg [.slice pb 0 P.length none,.slice tb 0 T.length none],.agg (c.cells (.slice fb 0 n0 none) u .qF kn),.int .i64 (j:Int)] M=some (.tuple [w,.int .i64 0],K):=by simp[ah,aE,f158] at U;subst U;unfold Evc.cells at*;simp[-getElem?_pos,-AV.afi,-AV.known,-AV.cells,-cO,-List.all_eq_true,vS,mS,cE,N,f158,D,C]
 refine⟨w,[.cells true 0 [.slice pb 0 P.length none,.slice tb 0 T.length none],.cells true 0 (c.cells (.slice fb 0 n0 none) u .qF kn),.qK,.cells true 1 [.slice fb 0 n0 none]]++Y,?_,?_⟩
 .rw[<-Y1,<-R];exact cL aj (aJ _) I (aM _) Y6
 .rw[<-Y1,<-R]
  rw[SP,QXX] at S h3;exact⟨_,S,h3⟩
theorem Kt{o:Bool}(W:qS prog O)(hu:u.afi=true)(hn:kn.afi=true)(hc:M[cb]? =some (.cells o 1 vs))(hv:0<vs.length)(H:vs.length<=2)(I:vs.all AV.afi=true)(J:ahB O (M++[.cells true 0 [.slice pb 0 P.length none,.slice tb 0 T.length none],.cells true 0 (c.cells (.slice fb 0 n0 none) u (.slice cb 0 vs.length none) kn),.qK,.cells true 1 (.slice fb 0 n0 none::vs)]) (.fn 236) (.fn 113) M.length (M.length+3) pb tb j P T t A (.slice fb 0 n0 none::vs) X):
  ∃w U,kO prog 158 [.agg [.slice pb 0 P.length none,.slice tb 0 T.length none],.agg (c.cells (.slice fb 0 n0 none) u (.slice cb 0 vs.length none) kn),.int .i64 (j:Int)] M (.tuple [w,.int .i64 0]) (M++U)/\∃k,w=.slice (M.length+k) 0 X.length none/\(M++U)[M.length+k]? =some (.cells true 4 (pnC X)):=by
 have B:aX prog 158=some f158:=by kernel_rfl
 obtain⟨b,R⟩:∃b,ah f158=[b]:=⟨_,rfl⟩
 have hx:X.length=vs.length+1:=by have:=J.l.1;simpa using this.symm
 obtain⟨w,N',⟨k,L,h3⟩,⟨Y,K⟩,G,S⟩:=yJ J (by omega) R M.length;rw[hx] at S;have D:=fun env d h=>(S env d h).1
 have C:=fun env d h=>(S env d h).2
 clear S;have hcs:∀s,(AV.str s).afi=true:=fun _=>rfl
 have hci:∀k n,(AV.int k n).afi=true:=fun _ _=>rfl
 have hcl:∀b o n c,(AV.slice b o n c).afi=true:=fun _ _ _ _=>rfl
 have lc:=gL hc;have N:∀Z:Mem,(M++Z)[cb]? =some (.cells o 1 vs):=fun Z=>gU hc _
 obtain⟨n,V⟩:=xE vs.length;have tk:List.take n vs=vs:=B5 (by omega);rw[<-V] at hv H;have w1:IntKind.i64.wrap ((n:Int)+1)=((n+1:Nat):Int):=by rw[af];omega
 have q1:(n+1)*24<=140737488355328/\(1+n)*24<=140737488355328:=by omega
 have q2:1+n<=140737488355328/\n<=140737488355327:=by omega
 have q3:1+n=n+1:=by omega
 have n0' :¬n=0:=by omega
 have Y6:cE (bd prog) (fun _=>[23,23,23,8]) (aX prog) O 6 158 [.agg [.slice pb 0 P.length none,.slice tb 0 T.length none],.agg (c.cells (.slice fb 0 n0 none) u (.slice cb 0 vs.length none) kn),.int .i64 (j:Int)] M=some (.tuple [w,.int .i64 0],N'):=by simp[ah,aE,f158] at R;subst R;unfold Evc.cells at*;rw[<-V] at D C |-;simp[-getElem?_pos,-AV.afi,-AV.known,-AV.cells,-cO,-List.all_eq_true,vS,mS,cE,B,f158,N,tk,<-V,q1,q2,q3,I,D,C]
 refine⟨w,[.cells true 0 [.slice pb 0 P.length none,.slice tb 0 T.length none],.cells true 0 (c.cells (.slice fb 0 n0 none) u (.slice cb 0 vs.length none) kn),.qK,.cells true 1 (.slice fb 0 n0 none::vs)]++Y,?_,?_⟩
 .rw[<-Y1,<-K];exact cL aj (aJ _) W (aM _) Y6
 .rw[<-Y1,<-K]
  rw[SP,QXX] at L h3;exact⟨_,L,h3⟩
end
end Go.Proofs
namespace Go.Eng
variable{P:Program}{args:List AV}
theorem kO.thin{f:FuncId}{m H m2:Mem}{v:AV}(h:kO P f args m v H)(I:m2.length=H.length)(hc:∀(b:Nat) s,m2[b]? =some s->H[b]? =some s\/s=.qK):kO P f args m v m2:=by
 refine⟨h.1,fun base μ w Vs hG hH hV=>(h.2 base μ w Vs hG hH hV).mono ?_⟩;rintro e w' ⟨V,v',m',μ',rfl,q1,q2,q3,rfl,rfl⟩;have X:∀{b:Nat},eJ m2 b->eJ m' b:=fun {b} ⟨s,h1,h2⟩=>by
  rcases hc b s h1 with h | rfl
  .exact⟨s,h,h2⟩
  .cases h2
 refine⟨V,v',m2,μ',rfl,by rw[I];exact q1,⟨q2.afr,fun b s Z=>?_,fun b U S Z O R N=>?_⟩,⟨by rw[I];exact q3.len,q3.agree,q3.os,q3.tape,q3.output,q3.size,q3.frame,fun b Z=>q3.owner b (X Z),q3.drawn⟩,rfl,rfl⟩
 .rcases hc b s Z with h | rfl
  .rw[I];exact q2.slot b s h
  .trivial
 .rcases hc U S O with h | rfl
  .exact q2.sep b U S (X Z) h R N
  .exact absurd rfl R
def agB(n k:Nat)(s:afl):Mem:=(List.replicate n .qK).set k s
theorem CE(n k:Nat)(s:afl):(agB n k s).length=n:=by simp[agB]
variable{k n:Nat}{s:afl}
theorem VT{x:afl}(h:x∈agB n k s):x=.qK\/x=s:=by
 unfold agB at h;rcases List.mem_or_eq_of_mem_set h with h | h
 .exact .inl (List.eq_of_mem_replicate h)
 .exact .inr h
theorem TL(H:k<n)(M:Mem):(M++agB n k s)[M.length+k]? =some s:=by rw[V1 (by omega),Nat.add_sub_cancel_left];unfold agB;rw[QQY (by simpa using H)]
theorem kO.agB{f:FuncId}{M new:Mem}{v:AV}(h:kO P f args M v (M++new))(hs:(M++new)[M.length+k]? =some s):k<new.length/\kO P f args M v (M++Go.Eng.agB new.length k s):=by
 have X:k<new.length:=by have:=gL hs;rw[SP] at this;omega
 refine⟨X,h.thin (by rw[SP,SP,CE]) fun b x Z=>?_⟩;by_cases V:b<M.length
 .rw[GE V] at Z |-;exact .inl Z
 .by_cases U:b=M.length+k
  .subst U
   rw[TL X] at Z;obtain rfl:=ZQ Z;exact .inl hs
  .right
   rw[V1 (by omega)] at Z;unfold Go.Eng.agB at Z;rw[QQK (by omega)] at Z;exact List.eq_of_mem_replicate (J1 Z)
end Go.Eng
namespace Go.Proofs
open Go.Eng
theorem VS{n k:Nat}{s:afl}(f:Nat->Bool)(h:s.own=true)(hr:s.adM f=true):((agB n k s).all fun s=>mh s&&s.adM f)=true:=by
 rw[List.all_eq_true];intro x Z;rcases VT Z with rfl | rfl
 .rfl
 .rw[hr,Bool.and_true];cases x<;>simp_all[mh,afl.own]
end Go.Proofs
