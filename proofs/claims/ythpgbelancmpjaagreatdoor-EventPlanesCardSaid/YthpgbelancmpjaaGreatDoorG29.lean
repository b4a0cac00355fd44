/- See G38. -/
import Derived.Test.YthpgbelancmpjaaGreatDoorG28
set_option linter.all false
set_option maxRecDepth 100000
set_option maxHeartbeats 40000000
namespace Go.Proofs
open Go.Eng
open Tryz
def mM(P:List P2)(q:P2):List Tr->Nat->List Int
 | [],_=>[]
 |t::l,i=>if inQ (qc P q t) then (i:Int)::mM P q l (i+1) else mM P q l (i+1)
def Za(N:Mem)(pv:AV)(L:List AV)(H:Mem):Prop:=(pv=.qF/\L=[]/\H=N)\/∃b,pv=.slice b 0 L.length none/\N[b]? =some (.cells true 1 L)/\H=N.set b .qK
section
variable {O:y9}{N N1:Mem}{pv tv w:AV}{n i bm bp:Nat}{q A B C:P2}{L:List AV}
theorem Kp:(aJ f12).map (fun o=>dT o.toList)=[[0,0,3,0,15]]:=by kernel_rfl
theorem Kq{b:Code}(J:ag f12=[b])(cp:pv.afp=true/\tv.afp=true)(kn:pv.known=true/\tv.known=true)(rf:pv.afm (fun b=>decide (b<N.length))=true/\tv.afm (fun b=>decide (b<N.length))=true)(hi:i<n)(hn:n<=1000)(hL:L.length<=1000)(hm:N[bm]? =some (.cells true 0 [pv,tv]))(hp:N[bp]? =some (.cells true 0 [.str (aq q.1),.str (aq q.2)]))(hg:Za N w L N1)(eC:O (.fn 49) [.agg [pv,tv],.int .i64 (i:Int)] N=some ⟨Fi A B C,none,[]⟩){g:Bool}(eI:O (.fn 48) [Fi A B C,pA q] N=some ⟨.bool g,none,[]⟩){env:Env}(l2:ad env 2=.ptr bm 0)(l3:ad env 3=.ptr bp 0)(l7:ad env 7=w)(H:ad env 19=.int .i64 (n:Int))(I:ad env 20=.int .i64 (i:Int))(m0:Nat)(d:Bool):
  ∃X,aL (aX prog) (fun _=>[20,20,20,7]) O 1100 34 m0 true b ⟨env,N,d⟩=some (.normal,X)/\ad X.env 20=.int .i64 ((i+1:Nat):Int)/\ad X.env 7=(if g then .slice (N.length+1) 0 (L.length+1) none else w)/\X.mem=(if g then N1++[.cells true 1 [.int .i64 (i:Int)],.cells true 1 (L++[.int .i64 (i:Int)])] else N):=by
 obtain⟨Z,S⟩:∃Z,aJ f12=Z :=⟨_,rfl⟩
 have V :=cG S Kp;simp only[aJ,cB,f12,List.nil_append,List.append_nil] at S;subst S;simp only[lB] at V;simp[ag,aE,f12] at J;subst J;have o:=gL hm;have m:=gL hp;obtain⟨j,c2⟩:=cp;obtain⟨k1,k2⟩:=kn;obtain⟨r1,r2⟩:=rf;have U:IntKind.i64.wrap ((i:Int)+1)=((i+1:Nat):Int):=by rw[af];omega
 obtain⟨m1,R⟩:=xE (i+1);rw[<-R] at U |-;have M:(L.length+1)*8<=140737488355328:=by omega
 have K:L.length+1<=140737488355328:=by omega
 unfold Fi pA at*;cases g
 .simp[-getElem?_pos,-AV.afp,-AV.known,-AV.cells,-cN,-List.all_eq_true,rS,mS,l2,l3,l7,H,I,hi,hm,hp,eC,eI,U,r1,r2,-bP,-bw,-aR,-AV.afm,-afq.afm,bW V,dq,dZ,fT,dD,dR,jB,bef,Nat.testBit]
 .rcases hg with⟨rfl,rfl,rfl⟩ | ⟨b,rfl,J,rfl⟩
  .simp[-getElem?_pos,-AV.afp,-AV.known,-AV.cells,-cN,-List.all_eq_true,vS,rS,mS,l2,l3,l7,H,I,hi,hm,hp,eC,eI,U,r1,r2,-bP,-bw,-aR,-AV.afm,-afq.afm,bW V,dq,dZ,fT,dD,dR,jB,bef,Nat.testBit]
  .have G:=gL J
   have F:∀Y:Mem,(N++Y)[b]? =some (.cells true 1 L):=fun Y=>gU J _
   have u:∀Y:Mem,(N++Y).set b .qK=N.set b .qK++Y:=fun Y=>List.set_append_left _ _ G
   have z3:∀Y:Mem,(N.set b .qK++Y)[N.length]? =Y[0]? :=fun Y=>by have:=yr (N.set b .qK) Y;rwa [QQh] at this
   simp[-getElem?_pos,-AV.afp,-AV.known,-AV.cells,-cN,-List.all_eq_true,vS,rS,mS,l2,l3,l7,H,I,hi,hm,hp,eC,eI,U,r1,r2,M,K,F,u,-bP,-bw,-aR,-AV.afm,-afq.afm,bW V,dq,dZ,fT,dD,dR,jB,bef,Nat.testBit]
end
def yj(N:Mem):AV->List AV
 |.slice b _ _ _=>match N[b]? with
  |some (.cells _ _ cs)=>cs
  |_=>[]
 |_=>[]
def LQ(N:Mem):AV->Mem
 |.slice b _ _ _=>N.set b .qK
 |_=>N
def kS(N:Mem)(w:AV)(i:Nat):Mem×AV:=(LQ N w++[.cells true 1 [.int .i64 (i:Int)],.cells true 1 (yj N w++[.int .i64 (i:Int)])],.slice (N.length+1) 0 ((yj N w).length+1) none)
def G5(P:List P2)(q:P2):List Tr->Nat->Mem->AV->Mem×AV
 | [],_,N,w=>(N,w)
 |t::l,i,N,w=>if inQ (qc P q t) then G5 P q l (i+1) (kS N w i).1 (kS N w i).2 else G5 P q l (i+1) N w
structure LmI (P:List P2)(T:List Tr)(q:P2)(M N:Mem)(pb tb bm bp:Nat)(w:AV)(L:List AV):Prop where
 p:∃o,N[pb]? =some (.cells o 2 (pC P))
 t:∃o,N[tb]? =some (.cells o 3 (tC T))
 m:N[bm]? =some (.cells true 0 [.slice pb 0 P.length none,.slice tb 0 T.length none])
 v:N[bp]? =some (.cells true 0 [.str (aq q.1),.str (aq q.2)])
 e:∃Y,N=M++Y
 g:Za N w L (LQ N w)
 r:yj N w=L
 b:∀b n,w=.slice b 0 n none->M.length<=b
 z:w=.qF\/L≠[]
section
variable {P:List P2}{T:List Tr}{q:P2}{M N:Mem}{pb tb bm bp i:Nat}{w:AV}{L:List AV}
theorem LmI.next(H:LmI P T q M N pb tb bm bp w L)(i:Nat):LmI P T q M (kS N w i).1 pb tb bm bp (kS N w i).2 (L++[.int .i64 (i:Int)]):=by
 have R:(LQ N w).length=N.length:=by unfold LQ;split<;>simp
 have aga:∀(b:Nat) o es C,es≠1->N[b]? =some (.cells o es C)->(kS N w i).1[b]? =some (.cells o es C):=fun b o es C O X=>by
  have K:=gL X;unfold kS;simp only;rw[GT (by omega)];rcases H.g with⟨Z,_,_⟩ | ⟨c,Z,U,_⟩
  .rw[Z];exact X
  .rw[Z]
   show(N.set c .qK)[b]? =_
   rw[QQe (fun e=>by subst e;rw[U] at X;cases X;exact O rfl)];exact X
 have S:=H.r;have row:(kS N w i).1[N.length+1]? =some (.cells true 1 (L++[.int .i64 (i:Int)])):=by unfold kS;simp only;rw[V1 (by omega),R,Nat.add_sub_cancel_left,S];rfl
 refine⟨?_,?_,aga _ _ _ _ (by decide) H.m,aga _ _ _ _ (by decide) H.v,?_,.inr ⟨N.length+1,?_,row,rfl⟩,?_,?_,.inr (by simp)⟩
 .obtain⟨o,h⟩:=H.p;exact⟨o,aga _ _ _ _ (by decide) h⟩
 .obtain⟨o,h⟩:=H.t;exact⟨o,aga _ _ _ _ (by decide) h⟩
 .obtain⟨Y,V⟩:=H.e
  rcases H.g with⟨Z,_,_⟩ | ⟨c,Z,U,_⟩
  .exact⟨Y++[.cells true 1 [.int .i64 (i:Int)],.cells true 1 (yj N w++[.int .i64 (i:Int)])],by unfold kS;simp only;rw[Z];show N++_=_;rw[V,QQQ]⟩
  .have X:=H.b c _ Z
   obtain⟨k,rfl⟩:∃k,c=M.length+k:=⟨c-M.length,by omega⟩
   exact⟨Y.set k .qK++[.cells true 1 [.int .i64 (i:Int)],.cells true 1 (yj N w++[.int .i64 (i:Int)])],by unfold kS;simp only;rw[Z];show N.set (M.length+k) .qK++_=_;rw[V,G8,QQQ]⟩
 .unfold kS;simp[S]
 .show yj (kS N w i).1 (.slice (N.length+1) 0 _ none)=_
  simp only[yj,row]
 .intro b n h
  obtain⟨Y,V⟩:=H.e;unfold kS at h;simp only[AV.slice.injEq] at h;obtain⟨rfl,_⟩:=h;rw[V,Qs];omega
theorem G6:∀(l:List Tr) (i:Nat) (N:Mem) (w:AV) (L:List AV),LmI P T q M N pb tb bm bp w L->LmI P T q M (G5 P q l i N w).1 pb tb bm bp (G5 P q l i N w).2 (L++(mM P q l i).map fun n=>.int .i64 n)
 | [],i,N,w,L,H=>by show LmI P T q M N pb tb bm bp w (L++[]);rw[List.append_nil];exact H
 |t::l,i,N,w,L,H=>by
  rw[G5,mM];by_cases h:inQ (qc P q t)
  .rw[if_pos h,if_pos h]
   have:=G6 l (i+1) _ _ _ (H.next i);simpa using this
  .rw[if_neg h,if_neg h]
   exact G6 l (i+1) N w L H
variable {O:y9}
theorem yR{b:Code}(I:ag f12=[b])(H env:Env):ad (an [20,20,20,7] (aa b) H env) 20=ad env 20/\ad (an [20,20,20,7] (aa b) H env) 7=ad env 7/\ad (an [20,20,20,7] (aa b) H env) 2=ad H 2/\ad (an [20,20,20,7] (aa b) H env) 3=ad H 3/\ad (an [20,20,20,7] (aa b) H env) 19=ad H 19:=by simp[ag,aE,f12] at I;subst I;simp[an]
theorem NH{b:Code}(J:ag f12=[b]){n:Nat}{env:Env}(H:ad env 19=.int .i64 (n:Int))(I:ad env 20=.int .i64 (n:Int))(m0:Nat)(d:Bool):
  ∃Z,aL (aX prog) (fun _=>[20,20,20,7]) O 1100 34 m0 true b ⟨env,N,d⟩=some (.exit 0,⟨Z,N,d⟩)/\ad Z 7=ad env 7:=by
 simp[ag,aE,f12] at J;subst J;simp[H,I]
theorem rH{b:Code}(Y:ag f12=[b])(H0:ahT P T q)
  (hC:∀(N:Mem) (i:Nat) t A B C,T[i]? =some t->P[t.1]? =some A->P[t.2.1]? =some B->P[t.2.2]? =some C->(∃o,N[pb]? =some (.cells o 2 (pC P)))->(∃o,N[tb]? =some (.cells o 3 (tC T)))->O (.fn 49) [.agg [.slice pb 0 P.length none,.slice tb 0 T.length none],.int .i64 (i:Int)] N=some ⟨Fi A B C,none,[]⟩)
  (hI:∀(N:Mem) A B C,Ur A B C q->O (.fn 48) [Fi A B C,pA q] N=some ⟨.bool (decide (inQ (gZ A B C q))),none,[]⟩)
  {I:Env}(l2:ad I 2=.ptr bm 0) (l3:ad I 3=.ptr bp 0) (J:ad I 19=.int .i64 (T.length:Int)) (m1 m0:Nat):
  ∀(k i:Nat) (N:Mem) (w:AV) (L:List AV) (env:Env) (d:Bool) (K:Nat),i+k=T.length->k<K->LmI P T q M N pb tb bm bp w L->L.length<=i->ad env 20=.int .i64 (i:Int)->ad env 7=w->
   ∃r:Env×Bool,fj [20,20,20,7] (aa b) I m1 (aL (aX prog) (fun _=>[20,20,20,7]) O 1100 34 m0 true b) K ⟨an [20,20,20,7] (aa b) I env,N,d⟩=some (.exit 0,⟨r.1,(G5 P q (T.drop i) i N w).1,r.2⟩)/\ad r.1 7=(G5 P q (T.drop i) i N w).2
 |0,i,N,w,L,env,d,K,hk,hK,H,hL,h20,h7=>by
  obtain⟨K,rfl⟩:∃k,K=k+1:=⟨K-1,by omega⟩
  obtain rfl:i=T.length:=by omega
  obtain⟨S,R,j,q4,G⟩:=yR Y I env;obtain⟨D',h1,h2⟩:=NH (O:=O) (N:=N) Y (env:=an [20,20,20,7] (aa b) I env) (by rw[G];exact J) (by rw[S];exact h20) m0 d;rw[List.drop_length];exact⟨(D',d),by rw[fj,h1];rfl,by rw[h2,R];exact h7⟩
 |k+1,i,N,w,L,env,d,K,hk,hK,H,hL,h20,h7=>by
  obtain⟨K,rfl⟩:∃k,K=k+1:=⟨K-1,by omega⟩
  obtain⟨S,R,j,q4,G⟩:=yR Y I env;obtain⟨t,F⟩:∃t,T[i]? =some t:=⟨_,G2 (by omega)⟩
  obtain⟨A,B,C,hA,hB,X,ZF⟩:=H0.tri i t F;have u:=H0.hl.2;have ed:T.drop i=t::T.drop (i+1):=by obtain⟨FS,e⟩:=O2.1 F;rw[N0 FS,e]
  have et:qc P q t=gZ A B C q:=by unfold qc;simp[List.getD,hA,hB,X]
  have hp:=H.p;have V:=H.t;have lp:pb<N.length:=by obtain⟨o,h⟩:=hp;exact(gL h)
  have lt:tb<N.length:=by obtain⟨o,h⟩:=V;exact(gL h)
  obtain⟨Z,t1,t2,t3,t4⟩:=Kq (O:=O) (n:=T.length) (i:=i) Y ⟨rfl,rfl⟩ ⟨rfl,rfl⟩ ⟨by simp only[AV.afm,GE];exact lp,by simp only[AV.afm,GE];exact lt⟩ (by omega) u (by omega) H.m H.v H.g (hC N i t A B C F hA hB X hp V) (hI N A B C ZF)
   (env:=an [20,20,20,7] (aa b) I env) (by rw[j];exact l2) (by rw[q4];exact l3) (by rw[R];exact h7) (by rw[G];exact J) (by rw[S];exact h20) m0 d
  rw[ed,G5,et];rw[fj,t1];simp only;have hs:jP [20,20,20,7] (aa b) I m1 Z =⟨an [20,20,20,7] (aa b) I Z.env,Z.mem,Z.afH⟩:=by simp[jP,mY]
  rw[hs];by_cases U:inQ (gZ A B C q)
  .rw[if_pos U]
   rw[decide_eq_true U,if_pos rfl] at t3 t4;have hr:=H.r;have e1:Z.mem=(kS N w i).1:=by rw[t4];unfold kS;rw[hr]
   have e2:ad Z.env 7=(kS N w i).2:=by rw[t3];unfold kS;rw[hr]
   rw[e1];exact rH Y H0 hC hI l2 l3 J m1 m0 k (i+1) _ _ _ Z.env Z.afH K (by omega) (by omega) (H.next i) (by simp;omega) t2 e2
  .rw[if_neg U]
   rw[decide_eq_false U,if_neg (by decide)] at t3 t4;rw[t4];exact rH Y H0 hC hI l2 l3 J m1 m0 k (i+1) N w L Z.env Z.afH K (by omega) (by omega) H (by omega) t2 t3
end
def sL(P:List P2)(T:List Tr)(q:P2)(pb tb:Nat)(c:Go.Eng.Callee)(a:List AV)(N:Mem)(r:afl):Prop:=
 (c=.fn 46/\a=[.agg [.slice pb 0 P.length none,.slice tb 0 T.length none]]/\(∃o,N[pb]? =some (.cells o 2 (pC P)))/\(∃o,N[tb]? =some (.cells o 3 (tC T)))/\r=⟨.int .i64 0,none,[]⟩)\/
 (c=.fn 47/\a=[pA q]/\r=⟨.int .i64 0,none,[]⟩)\/
 (∃(i:Nat) (t:Tr) (A B C:P2),c=.fn 49/\a=[.agg [.slice pb 0 P.length none,.slice tb 0 T.length none],.int .i64 (i:Int)]/\T[i]? =some t/\(P[t.1]? =some A/\P[t.2.1]? =some B/\P[t.2.2]? =some C)/\(∃o,N[pb]? =some (.cells o 2 (pC P)))/\(∃o,N[tb]? =some (.cells o 3 (tC T)))/\r=⟨Fi A B C,none,[]⟩)\/
 (∃A B C:P2,c=.fn 48/\a=[Fi A B C,pA q]/\Ur A B C q/\r=⟨.bool (decide (inQ (gZ A B C q))),none,[]⟩)
variable{M N:Mem}
section
variable {P:List P2}{T:List Tr}{q:P2}{pb tb:Nat}
theorem mF{c:Go.Eng.Callee}{a:List AV}{r r' :afl}(h:sL P T q pb tb c a N r)(h' :sL P T q pb tb c a N r'):r' =r:=by
 rcases h with⟨rfl,rfl,_,_,rfl⟩ | ⟨rfl,rfl,rfl⟩ | ⟨i,t,A,B,C,rfl,rfl,L,⟨K,G,F⟩,_,_,rfl⟩ | ⟨A,B,C,rfl,rfl,_,rfl⟩
 .rcases h' with⟨_,_,_,_,rfl⟩ | ⟨e,_⟩ | ⟨_,_,_,_,_,e,_⟩ | ⟨_,_,_,e,_⟩<;>first | rfl | cases e
 .rcases h' with⟨e,_⟩ | ⟨_,_,rfl⟩ | ⟨_,_,_,_,_,e,_⟩ | ⟨_,_,_,e,_⟩<;>first | rfl | cases e
 .rcases h' with⟨e,_⟩ | ⟨e,_⟩ | ⟨u,H,S,R,O,_,e,Z,⟨X,V,U⟩,_,_,rfl⟩ | ⟨_,_,_,e,_⟩
  .cases e
  .cases e
  .simp only[List.cons.injEq,AV.int.injEq,true_and,and_true] at e
   obtain rfl:i=u :=by omega
   rw[L] at Z;cases Z;rw[K] at X;rw[G] at V;rw[F] at U;obtain rfl:=QQX X;obtain rfl:=QQX V;obtain rfl:=QQX U;rfl
  .cases e
 .rcases h' with⟨e,_⟩ | ⟨e,_⟩ | ⟨_,_,_,_,_,e,_⟩ | ⟨S,R,O,_,e,_,rfl⟩
  .cases e
  .cases e
  .cases e
  .unfold Fi at e
   simp only[List.cons.injEq,AV.agg.injEq,AV.str.injEq,and_true] at e;obtain⟨o,m,j,Y,J,I⟩:=e;obtain rfl:A=S :=Prod.ext (dy o) (dy m);obtain rfl:B=R :=Prod.ext (dy j) (dy Y);obtain rfl:C=O :=Prod.ext (dy J) (dy I);rfl
theorem NG(H:∀N:Mem,(∃o,N[pb]? =some (.cells o 2 (pC P)))->(∃o,N[tb]? =some (.cells o 3 (tC T)))->kO prog 46 [.agg [.slice pb 0 P.length none,.slice tb 0 T.length none]] N (.int .i64 0) N)(hq:vo [aq q.1,aq q.2]=0/\(aq q.1).length<=RD/\(aq q.2).length<=RD):qS prog (jV (sL P T q pb tb)):=mX fun c a N r h=>by
 rcases h with⟨rfl,rfl,Z,X,rfl⟩ | ⟨rfl,rfl,rfl⟩ | ⟨i,t,A,B,C,rfl,rfl,V,⟨U,S,R⟩,⟨L,Z⟩,⟨K,X⟩,rfl⟩ | ⟨A,B,C,rfl,rfl,O,rfl⟩
 .exact au (by simpa [afl.mem] using H N Z X)
 .have:=iv (aq q.1) (aq q.2) hq.2.1 hq.2.2 N
  rw[hq.1] at this;exact au (by simpa [afl.mem,pA] using this)
 .exact au (by simpa [afl.mem] using Bc V U S R Z X)
 .exact au (by simpa [afl.mem] using Fv A B C q O N)
theorem LmI.row{bm bp:Nat}{w:AV}{L:List AV}(H:LmI P T q M N pb tb bm bp w L):afw N w 1 L.length L:=by
 rcases H.g with⟨Z,X,_⟩ | ⟨b,Z,X,_⟩
 .exact .inl ⟨Z,by rw[X];rfl,X⟩
 .refine .inr ⟨b,true,Z,?_,X⟩
  rcases H.z with h | h
  .rw[h] at Z;cases Z
  .exact List.length_pos_iff.2 h
theorem Fw(I:ahT P T q)(H:∀N:Mem,(∃o,N[pb]? =some (.cells o 2 (pC P)))->(∃o,N[tb]? =some (.cells o 3 (tC T)))->kO prog 46 [.agg [.slice pb 0 P.length none,.slice tb 0 T.length none]] N (.int .i64 0) N)(hq:vo [aq q.1,aq q.2]=0/\(aq q.1).length<=RD/\(aq q.2).length<=RD){o1 o2:Bool}(J:M[pb]? =some (.cells o1 2 (pC P)))(m2:M[tb]? =some (.cells o2 3 (tC T))):
  ∃w S,kO prog 12 [.agg [.slice pb 0 P.length none,.slice tb 0 T.length none],pA q] M (.tuple [w,.int .i64 0]) (M++S)/\afw (M++S) w 1 (mM P q T 0).length ((mM P q T 0).map fun n=>.int .i64 n):=by
 have hG:aZ prog 12=some f12:=by kernel_rfl
 have j:=NG H hq;obtain⟨V,Z⟩:=xE (α:=Mem) (M++[.cells true 0 [.slice pb 0 P.length none,.slice tb 0 T.length none],.cells true 0 [.str (aq q.1),.str (aq q.2)]]);have l1:=gL J;have l2:=gL m2;have r1:V[pb]? =some (.cells o1 2 (pC P)):=by rw[Z,GT l1];exact J
 have r2:V[tb]? =some (.cells o2 3 (tC T)):=by rw[Z,GT l2];exact m2
 obtain⟨O,X⟩:=xE (jV (sL P T q pb tb));have e1:O (.fn 46) [.agg [.slice pb 0 P.length none,.slice tb 0 T.length none]] V=some ⟨.int .i64 0,none,[]⟩:=by rw[X];exact dL (.inl ⟨rfl,rfl,⟨_,r1⟩,⟨_,r2⟩,rfl⟩) fun G U =>mF (.inl ⟨rfl,rfl,⟨_,r1⟩,⟨_,r2⟩,rfl⟩) U
 have e2:O (.fn 47) [pA q] V=some ⟨.int .i64 0,none,[]⟩:=by rw[X];exact dL (.inr (.inl ⟨rfl,rfl,rfl⟩)) fun G U =>mF (.inr (.inl ⟨rfl,rfl,rfl⟩)) U
 have L:∀(N:Mem) (i:Nat) t A B C,T[i]? =some t->P[t.1]? =some A->P[t.2.1]? =some B->P[t.2.2]? =some C->(∃o,N[pb]? =some (.cells o 2 (pC P)))->(∃o,N[tb]? =some (.cells o 3 (tC T)))->O (.fn 49) [.agg [.slice pb 0 P.length none,.slice tb 0 T.length none],.int .i64 (i:Int)] N=some ⟨Fi A B C,none,[]⟩:=fun N i t A B C hi hA hB L h1 h2=>by have x:sL P T q pb tb (.fn 49) [.agg [.slice pb 0 P.length none,.slice tb 0 T.length none],.int .i64 (i:Int)] N ⟨Fi A B C,none,[]⟩:=.inr (.inr (.inl ⟨i,t,A,B,C,rfl,rfl,hi,⟨hA,hB,L⟩,h1,h2,rfl⟩));rw[X];exact dL x fun G U =>mF x U
 have hI:∀(N:Mem) A B C,Ur A B C q->O (.fn 48) [Fi A B C,pA q] N=some ⟨.bool (decide (inQ (gZ A B C q))),none,[]⟩:=fun N A B C ht=>by have x:sL P T q pb tb (.fn 48) [Fi A B C,pA q] N ⟨.bool (decide (inQ (gZ A B C q))),none,[]⟩:=.inr (.inr (.inr ⟨A,B,C,rfl,rfl,ht,rfl⟩));rw[X];exact dL x fun G U =>mF x U
 rw[<-X] at j;clear X;have H1:LmI P T q M V pb tb M.length (M.length+1) .qF []:=by
  refine⟨⟨_,r1⟩,⟨_,r2⟩,?_,?_,⟨_,Z⟩,.inl ⟨rfl,rfl,rfl⟩,rfl,fun b n h=>(by cases h),.inl rfl⟩
  .rw[Z,yr];rfl
  .rw[Z,wU];rfl
 have K:=G6 T 0 V .qF [] H1;rw[List.nil_append] at K;obtain⟨R,hR⟩:=xE (G5 P q T 0 V .qF);rw[<-hR] at K;obtain⟨b,u⟩:∃b,ag f12=[b]:=⟨_,rfl⟩
 obtain⟨F,m⟩:=sG (β:=Env×Bool) (p:=fun env _=>ad env 2=.ptr M.length 0/\ad env 3=.ptr (M.length+1) 0/\ad env 19=.int .i64 (T.length:Int)/\ad env 20=.int .i64 0/\ad env 7=.qF)
  (q:=fun env d r=>aL (aX prog) (fun _=>[20,20,20,7]) O 1100 34 M.length true (.loop b) ⟨env,V,d⟩=some (.exit 0,⟨r.1,R.1,r.2⟩)/\ad r.1 7=R.2) (fun env d ⟨a2,a3,a19,a20,a7⟩=>by
  have hTl:=I.hl.2;have:=rH (O:=O) (M:=M) u I L hI a2 a3 a19 V.length M.length T.length 0 V .qF [] env d 1100 (by omega) (by omega) H1 (by simp) a20 a7;rw[List.drop_zero,<-hR] at this;exact this)
 have ZE:=fun env d h=>(m env d h).1
 have ZM:=fun env d h=>(m env d h).2
 clear m L hI;have Zr:cI (aX prog) (fun _=>[20,20,20,7]) (aZ prog) O 1100 12 [.agg [.slice pb 0 P.length none,.slice tb 0 T.length none],pA q] M=some (.tuple [R.2,.int .i64 0],R.1):=by subst Z;simp[ag,aE,f12] at u;subst u;unfold pA at*;simp[-getElem?_pos,-AV.known,-AV.cells,-cN,-List.all_eq_true,vS,mS,cI,hG,f12,e1,e2,ZE,ZM]
 obtain⟨Y,hY⟩:=K.e;refine⟨R.2,Y,?_,?_⟩
 .rw[<-hY];exact cf aj (aI _) j (aQ _) Zr
 .rw[<-hY]
  have:=K.row;simpa using this
end
end Go.Proofs
namespace Go.Proofs
open Go.Eng
open Tryz
def GrN(es:Nat)(N:Mem)(pv:AV)(k:Nat)(L:List AV)(H:Mem):Prop:=(pv=.qF/\L=[]/\k=0/\H=N)\/∃b,pv=.slice b 0 k none/\N[b]? =some (.cells true es L)/\L.length=k*es/\H=N.set b .qK
theorem Kt:(aJ f158).map (fun o=>dT o.toList)=[[0,0,0,0,8,0,56,120,248,0,512,0,3584,7680,15872,0,0,98304,229376,524280,1048572,2097150,4194302,8388607,16777215]]:=by kernel_rfl
section
variable {O:y9}{N N1:Mem}{w:AV}{n i j bm fr pb tb fb:Nat}{oF o1 o2 o3:Bool}{F L:List AV}{P:List P2}{T:List Tr}{Q:List Rat}{t:Tr}{A:P2}{f off:Rat}{nv:V3}
theorem Kw{b:Code}(H:ag f158=[b])(hm:N[bm]? =some (.cells true 0 [.slice pb 0 P.length none,.slice tb 0 T.length none]))(hF:N[fr]? =some (.cells oF 1 F))(hFl:F.length=n)(hi:F[i]? =some (.slice fb 0 Q.length none))(hn:n<=3)(hP:N[pb]? =some (.cells o1 2 (pC P)))(hT:N[tb]? =some (.cells o2 3 (tC T)))(hQ:N[fb]? =some (.cells o3 1 (qC Q)))(ht:T[j]? =some t)(hA:P[t.1]? =some A)(hf:Q[t.1]? =some f)(hg:GrN 4 N w i L N1)(rL:∀f,AV.afs f L=true)(eN:O (.fn 236) [.agg [.slice pb 0 P.length none,.slice tb 0 T.length none],.slice fb 0 Q.length none,.int .i64 (j:Int)] N=some ⟨.tuple [vA nv,.int .i64 0],none,[]⟩)(eD:∀X,O (.fn 113) [vA nv,.agg [.str (aq A.1),.str (aq A.2),.str (aq f)]] (N++X)=some ⟨.str (aq off),none,[]⟩){env:Env}(l2:ad env 2=.int .i64 (j:Int))(l3:ad env 3=.ptr bm 0)(l8:ad env 8=w)(I:ad env 21=.slice fr 0 n none)(J:ad env 22=.int .i64 (n:Int))(l23:ad env 23=.int .i64 (i:Int))(m0:Nat)(d:Bool):
  ∃U,aL (aX prog) (fun _=>[23,23,23,8]) O 6 69 m0 true b ⟨env,N,d⟩=some (.normal,U)/\ad U.env 23=.int .i64 ((i+1:Nat):Int)/\ad U.env 8=.slice (N.length+2) 0 (i+1) none/\U.mem=N1++[.cells true 0 (vL nv),.cells true 4 (vL nv++[.str (aq off)]),.cells true 4 (L++(vL nv++[.str (aq off)]))]:=by
 obtain⟨Z,R⟩:∃Z,aJ f158=Z :=⟨_,rfl⟩
 have M :=cG R Kt;simp only[aJ,cB,f158,List.nil_append,List.append_nil] at R;subst R;simp only[lB] at M;simp[ag,aE,f158] at H;subst H;have g1:=gL hm;have g2:=gL hF;have g3:=gL hP;have g4:=gL hT;have g5:=gL hQ;have B:∀Y:Mem,(N++Y)[bm]? =some (.cells true 0 [.slice pb 0 P.length none,.slice tb 0 T.length none]):=fun Y=>gU hm _
 have u:∀Y:Mem,(N++Y)[pb]? =some (.cells o1 2 (pC P)):=fun Y=>gU hP _
 have o:∀Y:Mem,(N++Y)[tb]? =some (.cells o2 3 (tC T)):=fun Y=>gU hT _
 have m:∀Y:Mem,(N++Y)[fb]? =some (.cells o3 1 (qC Q)):=fun Y=>gU hQ _
 have y1:∀x,bm<N.length+x:=fun x=>by omega
 have y3:∀x,pb<N.length+x:=fun x=>by omega
 have y4:∀x,tb<N.length+x:=fun x=>by omega
 have y5:∀x,fb<N.length+x:=fun x=>by omega
 have ZP:i<n:=by have:=gL hi;omega
 obtain⟨k1,k2⟩:=Mx ht;have V:=gL ht;obtain⟨p1,p2,p3,p4⟩:=vu hA;have a1:=gL hA;have f1:=OD hf;have b1:=gL hf;obtain⟨t1,t2,t3⟩:=t;simp only at*;have kk:(tC T)[j*3]? =some (.int .i64 (t1:Int)):=by have:=congrArg (fun l=>l[0]?) k1;simpa [List.getElem?_take,QQf] using this
 have K:IntKind.i64.wrap ((i:Int)+1)=((i+1:Nat):Int):=by rw[af];omega
 obtain⟨m1,S⟩:=xE (i+1);have q0:(i+1)*64<=140737488355328:=by omega
 have q2:i<=140737488355327:=by omega
 unfold vA vL at*;rcases hg with⟨rfl,rfl,rfl,rfl⟩ | ⟨b,rfl,H,G,rfl⟩
 .rw[<-S] at K |-
  simp[-getElem?_pos,-AV.afp,-AV.known,-AV.cells,-cN,-List.all_eq_true,vS,rS,mS,l2,l3,l8,I,J,l23,ZP,hF,hi,hm,eN,eD,B,u,o,m,y1,y3,y5,kk,V,p2,p3,a1,f1,b1,cj,aH,-bP,-bw,-aR,-AV.afm,-afq.afm,bW M,dq,dZ,fT,dD,dR,jB,bef,Nat.testBit];subst S;exact⟨rfl,rfl⟩
 .have C:=gL H
  rw[<-S] at K |-;have z0:∀x,b<N.length+x:=fun x=>by omega
  have tk:List.take (i*4) L=L:=B5 (by omega);have z1:∀Y:Mem,(N++Y)[b]? =some (.cells true 4 L):=fun Y=>gU H _
  have z2:∀Y:Mem,(N++Y).set b .qK=N.set b .qK++Y:=fun Y=>List.set_append_left _ _ C
  have z3:∀Y:Mem,(N.set b .qK++Y)[N.length]? =Y[0]? :=fun Y=>by have:=yr (N.set b .qK) Y;rwa [QQh] at this
  have z4:∀Y:Mem,(N.set b .qK++Y)[b]? =some .qK:=fun Y=>by rw[GT (by rw[QQh];exact C),QQc C]
  have z5:∀(Y:Mem) k,List.drop (N.length+k) (N.set b .qK++Y)=Y.drop k:=fun Y k=>by have:(N.set b .qK).length=N.length:=QQh;rw[<-this,<-QXY,List.drop_left]
  simp[-getElem?_pos,-AV.afp,-AV.known,-AV.cells,-cN,-List.all_eq_true,vS,rS,mS,l2,l3,l8,I,J,l23,ZP,hF,hi,hm,eN,eD,K,B,u,o,m,y1,y3,y5,z4,z5,kA,rL,z0,z1,z2,G,q0,q2,tk,kk,V,p2,p3,a1,f1,b1,cj,aH,-bP,-bw,-aR,-AV.afm,-afq.afm,bW M,dq,dZ,fT,dD,dR,jB,bef,Nat.testBit];exact S.symm
end
def pnC:List (V3×Rat)->List AV
 | []=>[]
 |x::l=>(vL x.1++[.str (aq x.2)])++pnC l
def om(N:Mem)(w:AV)(i:Nat)(x:V3×Rat):Mem×AV:=(LQ N w++[.cells true 0 (vL x.1),.cells true 4 (vL x.1++[.str (aq x.2)]),.cells true 4 (yj N w++(vL x.1++[.str (aq x.2)]))],.slice (N.length+2) 0 (i+1) none)
def Hd:List (V3×Rat)->Nat->Mem->AV->Mem×AV
 | [],_,N,w=>(N,w)
 |x::l,i,N,w=>Hd l (i+1) (om N w i x).1 (om N w i x).2
structure PdI (M N:Mem)(w:AV)(i:Nat)(L:List AV):Prop where
 e:∃Y,N=M++Y
 g:GrN 4 N w i L (LQ N w)
 r:yj N w=L
 b:∀b n,w=.slice b 0 n none->M.length<=b
 z:w=.qF\/0<i
section
variable {M N:Mem}{w:AV}{L:List AV}{i:Nat}
theorem PdI.next(H:PdI M N w i L)(I:L.length=i*4)(x:V3×Rat):PdI M (om N w i x).1 (om N w i x).2 (i+1) (L++(vL x.1++[.str (aq x.2)])):=by
 have V:(LQ N w).length=N.length:=by unfold LQ;split<;>simp
 have U:=H.r;have row:(om N w i x).1[N.length+2]? =some (.cells true 4 (L++(vL x.1++[.str (aq x.2)]))):=by unfold om;simp only;rw[V1 (by omega),V,Nat.add_sub_cancel_left,U];rfl
 refine⟨?_,.inr ⟨N.length+2,rfl,row,?_,rfl⟩,?_,?_,.inr (by omega)⟩
 .obtain⟨Y,Z⟩:=H.e
  rcases H.g with⟨X,_,_⟩ | ⟨c,X,S,_⟩
  .exact⟨Y++[.cells true 0 (vL x.1),.cells true 4 (vL x.1++[.str (aq x.2)]),.cells true 4 (yj N w++(vL x.1++[.str (aq x.2)]))],by unfold om;simp only;rw[X];show N++_=_;rw[Z,QQQ]⟩
  .have R:=H.b c _ X
   obtain⟨k,rfl⟩:∃k,c=M.length+k:=⟨c-M.length,by omega⟩
   exact⟨Y.set k .qK++[.cells true 0 (vL x.1),.cells true 4 (vL x.1++[.str (aq x.2)]),.cells true 4 (yj N w++(vL x.1++[.str (aq x.2)]))],by unfold om;simp only;rw[X];show N.set (M.length+k) .qK++_=_;rw[Z,G8,QQQ]⟩
 .rw[Qs,I];simp[vL];omega
 .show yj (om N w i x).1 (.slice (N.length+2) 0 _ none)=_
  simp only[yj,row]
 .intro b n h
  obtain⟨Y,Z⟩:=H.e;unfold om at h;simp only[AV.slice.injEq] at h;obtain⟨rfl,_⟩:=h;rw[Z,Qs];omega
theorem PA:∀(l:List (V3×Rat)) (i:Nat) (N:Mem) (w:AV) (L:List AV),L.length=i*4->PdI M N w i L->PdI M (Hd l i N w).1 (Hd l i N w).2 (i+l.length) (L++pnC l)
 | [],i,N,w,L,_,H=>by show PdI M N w i (L++[]);rw[List.append_nil];exact H
 |x::l,i,N,w,L,hL,H=>by rw[Hd,pnC,<-QQQ];have:=PA l (i+1) _ _ _ (by rw[Qs,hL];simp[vL];omega) (H.next hL x);rw[List.length_cons,show i+(l.length+1)=i+1+l.length by omega];exact this
end
structure ahF (O:y9)(M:Mem)(nF dF:Go.Eng.Callee)(bm fr pb tb j:Nat)(P:List P2)(T:List Tr)(t:Tr)(A:P2)(F:List AV)(X:List (V3×Rat)):Prop where
 m:M[bm]? =some (.cells true 0 [.slice pb 0 P.length none,.slice tb 0 T.length none])
 r:∃o,M[fr]? =some (.cells o 1 F)
 l:F.length=X.length/\X.length<=3
 pp:∃o,M[pb]? =some (.cells o 2 (pC P))
 tt:∃o,M[tb]? =some (.cells o 3 (tC T))
 hi:T[j]? =some t
 hA:P[t.1]? =some A
 f:∀(i:Nat) x,X[i]? =some x->∃fb o Q f,F[i]? =some (.slice fb 0 (Q:List Rat).length none)/\M[fb]? =some (.cells o 1 (qC Q))/\Q[t.1]? =some f/\
  (∀Y,O nF [.agg [.slice pb 0 P.length none,.slice tb 0 T.length none],.slice fb 0 Q.length none,.int .i64 (j:Int)] (M++Y)=some ⟨.tuple [vA x.1,.int .i64 0],none,[]⟩)/\∀Y,O dF [vA x.1,.agg [.str (aq A.1),.str (aq A.2),.str (aq f)]] (M++Y)=some ⟨.str (aq x.2),none,[]⟩
section
variable {O:y9}{M N:Mem}{w:AV}{bm fr pb tb j:Nat}{P:List P2}{T:List Tr}{t:Tr}{A:P2}{F:List AV}{X:List (V3×Rat)}
theorem yV{b:Code}(I:ag f158=[b])(H env:Env):ad (an [23,23,23,8] (aa b) H env) 23=ad env 23/\ad (an [23,23,23,8] (aa b) H env) 8=ad env 8/\ad (an [23,23,23,8] (aa b) H env) 2=ad H 2/\ad (an [23,23,23,8] (aa b) H env) 3=ad H 3/\ad (an [23,23,23,8] (aa b) H env) 21=ad H 21/\ad (an [23,23,23,8] (aa b) H env) 22=ad H 22:=by simp[ag,aE,f158] at I;subst I;simp[an]
theorem NN{b:Code}(J:ag f158=[b]){n:Nat}{env:Env}(H:ad env 22=.int .i64 (n:Int))(I:ad env 23=.int .i64 (n:Int))(m0:Nat)(d:Bool):
  ∃Z,aL (aX prog) (fun _=>[23,23,23,8]) O 6 69 m0 true b ⟨env,N,d⟩=some (.exit 0,⟨Z,N,d⟩)/\ad Z 8=ad env 8:=by
 simp[ag,aE,f158] at J;subst J;simp[H,I]
theorem yU{b:Code}(hb:ag f158=[b])(J:ahF O M (.fn 236) (.fn 113) bm fr pb tb j P T t A F X)
  {I:Env}(l2:ad I 2=.int .i64 (j:Int)) (l3:ad I 3=.ptr bm 0) (l21:ad I 21=.slice fr 0 X.length none) (l22:ad I 22=.int .i64 (X.length:Int)) (m1 m0:Nat):
  ∀(k i:Nat) (N:Mem) (w:AV) (L:List AV) (env:Env) (d:Bool) (K:Nat),i+k=X.length->k<K->L.length=i*4->(∀f,AV.afs f L=true)->PdI M N w i L->ad env 23=.int .i64 (i:Int)->ad env 8=w->
   ∃r:Env×Bool,fj [23,23,23,8] (aa b) I m1 (aL (aX prog) (fun _=>[23,23,23,8]) O 6 69 m0 true b) K ⟨an [23,23,23,8] (aa b) I env,N,d⟩=some (.exit 0,⟨r.1,(Hd (X.drop i) i N w).1,r.2⟩)/\ad r.1 8=(Hd (X.drop i) i N w).2
 |0,i,N,w,L,env,d,K,hk,hK,hL,hRL,H,h23,h8=>by
  obtain⟨K,rfl⟩:∃k,K=k+1:=⟨K-1,by omega⟩
  obtain rfl:i=X.length:=by omega
  obtain⟨R,G,o,q4,q5,C⟩:=yV hb I env;obtain⟨D',h1,h2⟩:=NN (O:=O) (N:=N) hb (env:=an [23,23,23,8] (aa b) I env) (by rw[C];exact l22) (by rw[R];exact h23) m0 d;rw[List.drop_length];exact⟨(D',d),by rw[fj,h1];rfl,by rw[h2,G];exact h8⟩
 |k+1,i,N,w,L,env,d,K,hk,hK,hL,hRL,H,h23,h8=>by
  obtain⟨K,rfl⟩:∃k,K=k+1:=⟨K-1,by omega⟩
  obtain⟨R,G,o,q4,q5,C⟩:=yV hb I env;obtain⟨x,hx⟩:∃t,X[i]? =some t:=⟨_,G2 (by omega)⟩
  obtain⟨fb,o3,Q,f,f1,f2,f3,f4,f5⟩:=J.f i x hx;obtain⟨Y,B⟩:=H.e;have ed:X.drop i=x::X.drop (i+1):=by obtain⟨FS,e⟩:=O2.1 hx;rw[N0 FS,e]
  have U:∀{b:Nat}{S:afq},M[b]? =some S->N[b]? =some S:=fun {b S} hb=>by rw[B,GT (gL hb)];exact hb
  obtain⟨oF,hF⟩:=J.r;obtain⟨o1,hP⟩:=J.pp;obtain⟨o2,hT⟩:=J.tt;obtain⟨hl,u⟩:=J.l;obtain⟨V,t1,t2,t3,t4⟩:=Kw (O:=O) (n:=X.length) (i:=i) (nv:=x.1) (off:=x.2) hb (U J.m) (U hF) hl f1 u (U hP) (U hT) (U f2) J.hi J.hA f3 H.g hRL (by rw[B];exact f4 Y) (fun Z=>by rw[B,QQQ];exact f5 (Y++Z))
   (env:=an [23,23,23,8] (aa b) I env) (by rw[o];exact l2) (by rw[q4];exact l3) (by rw[G];exact h8) (by rw[q5];exact l21) (by rw[C];exact l22) (by rw[R];exact h23) m0 d
  rw[ed,Hd];rw[fj,t1];simp only;have hs:jP [23,23,23,8] (aa b) I m1 V =⟨an [23,23,23,8] (aa b) I V.env,V.mem,V.afH⟩:=by simp[jP,mY]
  rw[hs];have hr:=H.r;have e1:V.mem=(om N w i x).1:=by rw[t4];unfold om;rw[hr]
  have e2:ad V.env 8=(om N w i x).2:=by rw[t3];rfl
  rw[e1];exact yU hb J l2 l3 l21 l22 m1 m0 k (i+1) _ _ _ V.env V.afH K (by omega) (by omega) (by rw[Qs,hL];simp[vL];omega) (fun f=>by rw[kA,hRL];rfl) (H.next hL x) t2 e2
end
theorem PdI.own{M N:Mem}{w:AV}{i:Nat}{L:List AV}(H:PdI M N w i L)(I:0<i):∃k,w=.slice (M.length+k) 0 i none/\N[M.length+k]? =some (.cells true 4 L):=by
 rcases H.g with⟨_,_,h3,_⟩ | ⟨b,Z,X,_⟩
 .omega
 .have:=H.b b i Z
  exact⟨b-M.length,by rw[show M.length+(b-M.length)=b by omega];exact Z,by rw[show M.length+(b-M.length)=b by omega];exact X⟩
section
variable {O:y9}{M:Mem}{pb tb fr j:Nat}{P:List P2}{T:List Tr}{t:Tr}{A:P2}{F:List AV}{X:List (V3×Rat)}
theorem yW{H:Mem}{bm:Nat}(I:ahF O H (.fn 236) (.fn 113) bm fr pb tb j P T t A F X)(J:0<X.length){b:Code}(hb:ag f158=[b])(m0:Nat):
  ∃w Z,(∃k,w=.slice (H.length+k) 0 X.length none/\Z[H.length+k]? =some (.cells true 4 (pnC X)))/\(∃Y,Z =H++Y)/\∃G:Env->Bool->Env×Bool,∀env d,(ad env 2=.int .i64 (j:Int)/\ad env 3=.ptr bm 0/\ad env 21=.slice fr 0 X.length none/\ad env 22=.int .i64 (X.length:Int)/\ad env 23=.int .i64 0/\ad env 8=.qF)->
   aL (aX prog) (fun _=>[23,23,23,8]) O 6 69 m0 true (.loop b) ⟨env,H,d⟩=some (.exit 0,⟨(G env d).1,Z,(G env d).2⟩)/\ad (G env d).1 8=w:=by
 have U:PdI H H .qF 0 []:=⟨⟨[],by simp⟩,.inl ⟨rfl,rfl,rfl,rfl⟩,rfl,fun b n h=>(by cases h),.inl rfl⟩;have V:=PA X 0 H .qF [] rfl U;rw[List.nil_append,QQb] at V;obtain⟨G,S⟩:=sG (β:=Env×Bool) (p:=fun env _=>ad env 2=.int .i64 (j:Int)/\ad env 3=.ptr bm 0/\ad env 21=.slice fr 0 X.length none/\ad env 22=.int .i64 (X.length:Int)/\ad env 23=.int .i64 0/\ad env 8=.qF)
  (q:=fun env d r=>aL (aX prog) (fun _=>[23,23,23,8]) O 6 69 m0 true (.loop b) ⟨env,H,d⟩=some (.exit 0,⟨r.1,(Hd X 0 H .qF).1,r.2⟩)/\ad r.1 8=(Hd X 0 H .qF).2) (fun env d ⟨a2,a3,a21,a22,a23,a8⟩=>by
  have R:=I.l.2;have:=yU (O:=O) (M:=H) hb I a2 a3 a21 a22 H.length m0 X.length 0 H .qF [] env d 6 (by omega) (by omega) rfl (fun _=>rfl) U a23 a8;rw[List.drop_zero] at this;exact this)
 exact⟨_,_,V.own J,V.e,G,S⟩
variable {fb n0 cb m:Nat}{u kn:AV}{c:Evc}{vs:List AV}
theorem Ku(I:qS prog O)(hu:u.afp=true)(hn:kn.afp=true)(H:ahF O (M++[.cells true 0 [.slice pb 0 P.length none,.slice tb 0 T.length none],.cells true 0 (c.cells (.slice fb 0 n0 none) u .qF kn),.qK,.cells true 1 [.slice fb 0 n0 none]]) (.fn 236) (.fn 113) M.length (M.length+3) pb tb j P T t A [.slice fb 0 n0 none] X):
  ∃w Z,kO prog 158 [.agg [.slice pb 0 P.length none,.slice tb 0 T.length none],.agg (c.cells (.slice fb 0 n0 none) u .qF kn),.int .i64 (j:Int)] M (.tuple [w,.int .i64 0]) (M++Z)/\∃k,w=.slice (M.length+k) 0 X.length none/\(M++Z)[M.length+k]? =some (.cells true 4 (pnC X)):=by
 have N:aZ prog 158=some f158:=by kernel_rfl
 obtain⟨b,U⟩:∃b,ag f158=[b]:=⟨_,rfl⟩
 have L:X.length=1:=by have:=H.l.1;simpa using this.symm
 obtain⟨w,K,⟨k,S,h3⟩,⟨Y,R⟩,G,V⟩:=yW H (by omega) U M.length;rw[L] at V;have C:=fun env d h=>(V env d h).1
 have B:=fun env d h=>(V env d h).2
 clear V;have J:∀s,(AV.str s).afp=true:=fun _=>rfl
 have hci:∀k n,(AV.int k n).afp=true:=fun _ _=>rfl
 have hcl:∀b o n c,(AV.slice b o n c).afp=true:=fun _ _ _ _=>rfl
 have hcn:AV.qF.afp=true:=rfl;have Zr:cI (aX prog) (fun _=>[23,23,23,8]) (aZ prog) O 6 158 [.agg [.slice pb 0 P.length none,.slice tb 0 T.length none],.agg (c.cells (.slice fb 0 n0 none) u .qF kn),.int .i64 (j:Int)] M=some (.tuple [w,.int .i64 0],K):=by simp[ag,aE,f158] at U;subst U;unfold Evc.cells at*;simp[-getElem?_pos,-AV.afp,-AV.known,-AV.cells,-cN,-List.all_eq_true,vS,mS,cI,N,f158,C,B]
 refine⟨w,[.cells true 0 [.slice pb 0 P.length none,.slice tb 0 T.length none],.cells true 0 (c.cells (.slice fb 0 n0 none) u .qF kn),.qK,.cells true 1 [.slice fb 0 n0 none]]++Y,?_,?_⟩
 .rw[<-QQQ,<-R];exact cf aj (aI _) I (aQ _) Zr
 .rw[<-QQQ,<-R]
  rw[Qs,QXb] at S h3;exact⟨_,S,h3⟩
theorem Kv{o:Bool}(hO:qS prog O)(hu:u.afp=true)(hn:kn.afp=true)(hc:M[cb]? =some (.cells o 1 vs))(hv:0<vs.length)(H:vs.length<=2)(I:vs.all AV.afp=true)(J:ahF O (M++[.cells true 0 [.slice pb 0 P.length none,.slice tb 0 T.length none],.cells true 0 (c.cells (.slice fb 0 n0 none) u (.slice cb 0 vs.length none) kn),.qK,.cells true 1 (.slice fb 0 n0 none::vs)]) (.fn 236) (.fn 113) M.length (M.length+3) pb tb j P T t A (.slice fb 0 n0 none::vs) X):
  ∃w U,kO prog 158 [.agg [.slice pb 0 P.length none,.slice tb 0 T.length none],.agg (c.cells (.slice fb 0 n0 none) u (.slice cb 0 vs.length none) kn),.int .i64 (j:Int)] M (.tuple [w,.int .i64 0]) (M++U)/\∃k,w=.slice (M.length+k) 0 X.length none/\(M++U)[M.length+k]? =some (.cells true 4 (pnC X)):=by
 have hG:aZ prog 158=some f158:=by kernel_rfl
 obtain⟨b,R⟩:∃b,ag f158=[b]:=⟨_,rfl⟩
 have hx:X.length=vs.length+1:=by have:=J.l.1;simpa using this.symm
 obtain⟨w,N',⟨k,L,h3⟩,⟨Y,K⟩,G,S⟩:=yW J (by omega) R M.length;rw[hx] at S;have C:=fun env d h=>(S env d h).1
 have B:=fun env d h=>(S env d h).2
 clear S;have hcs:∀s,(AV.str s).afp=true:=fun _=>rfl
 have hci:∀k n,(AV.int k n).afp=true:=fun _ _=>rfl
 have hcl:∀b o n c,(AV.slice b o n c).afp=true:=fun _ _ _ _=>rfl
 have lc:=gL hc;have N:∀Z:Mem,(M++Z)[cb]? =some (.cells o 1 vs):=fun Z=>gU hc _
 obtain⟨n,V⟩:=xE vs.length;have tk:List.take n vs=vs:=B5 (by omega);rw[<-V] at hv H;have w1:IntKind.i64.wrap ((n:Int)+1)=((n+1:Nat):Int):=by rw[af];omega
 have q1:(n+1)*24<=140737488355328/\(1+n)*24<=140737488355328:=by omega
 have q2:1+n<=140737488355328/\n<=140737488355327:=by omega
 have q3:1+n=n+1:=by omega
 have n0' :¬n=0:=by omega
 have Zr:cI (aX prog) (fun _=>[23,23,23,8]) (aZ prog) O 6 158 [.agg [.slice pb 0 P.length none,.slice tb 0 T.length none],.agg (c.cells (.slice fb 0 n0 none) u (.slice cb 0 vs.length none) kn),.int .i64 (j:Int)] M=some (.tuple [w,.int .i64 0],N'):=by simp[ag,aE,f158] at R;subst R;unfold Evc.cells at*;rw[<-V] at C B |-;simp[-getElem?_pos,-AV.afp,-AV.known,-AV.cells,-cN,-List.all_eq_true,vS,mS,cI,hG,f158,N,tk,<-V,q1,q2,q3,I,C,B]
 refine⟨w,[.cells true 0 [.slice pb 0 P.length none,.slice tb 0 T.length none],.cells true 0 (c.cells (.slice fb 0 n0 none) u (.slice cb 0 vs.length none) kn),.qK,.cells true 1 (.slice fb 0 n0 none::vs)]++Y,?_,?_⟩
 .rw[<-QQQ,<-K];exact cf aj (aI _) hO (aQ _) Zr
 .rw[<-QQQ,<-K]
  rw[Qs,QXb] at L h3;exact⟨_,L,h3⟩
end
end Go.Proofs
namespace Go.Eng
variable{P:Program}{args:List AV}
theorem kO.thin{f:FuncId}{m H m2:Mem}{v:AV}(h:kO P f args m v H)(I:m2.length=H.length)(hc:∀(b:Nat) s,m2[b]? =some s->H[b]? =some s\/s=.qK):kO P f args m v m2:=by
 refine⟨h.1,fun base μ w Vs hG hH hV=>(h.2 base μ w Vs hG hH hV).mono ?_⟩;rintro e w' ⟨V,v',m',μ',rfl,q1,q2,q3,rfl,rfl⟩;have X:∀{b:Nat},eG m2 b->eG m' b:=fun {b} ⟨s,h1,h2⟩=>by
  rcases hc b s h1 with h | rfl
  .exact⟨s,h,h2⟩
  .cases h2
 refine⟨V,v',m2,μ',rfl,by rw[I];exact q1,⟨q2.afx,fun b s Z=>?_,fun b U S Z O R N=>?_⟩,⟨by rw[I];exact q3.len,q3.agree,q3.os,q3.tape,q3.output,q3.size,q3.frame,fun b Z=>q3.owner b (X Z),q3.drawn⟩,rfl,rfl⟩
 .rcases hc b s Z with h | rfl
  .rw[I];exact q2.slot b s h
  .trivial
 .rcases hc U S O with h | rfl
  .exact q2.sep b U S (X Z) h R N
  .exact absurd rfl R
def agr(n k:Nat)(s:afq):Mem:=(List.replicate n .qK).set k s
theorem CQ(n k:Nat)(s:afq):(agr n k s).length=n:=by simp[agr]
variable{k n:Nat}{s:afq}
theorem V4{x:afq}(h:x∈agr n k s):x=.qK\/x=s:=by
 unfold agr at h;rcases List.mem_or_eq_of_mem_set h with h | h
 .exact .inl (List.eq_of_mem_replicate h)
 .exact .inr h
theorem TX(H:k<n)(M:Mem):(M++agr n k s)[M.length+k]? =some s:=by rw[V1 (by omega),Nat.add_sub_cancel_left];unfold agr;rw[QQc (by simpa using H)]
theorem kO.agr{f:FuncId}{M new:Mem}{v:AV}(h:kO P f args M v (M++new))(hs:(M++new)[M.length+k]? =some s):k<new.length/\kO P f args M v (M++Go.Eng.agr new.length k s):=by
 have X:k<new.length:=by have:=gL hs;rw[Qs] at this;omega
 refine⟨X,h.thin (by rw[Qs,Qs,CQ]) fun b x Z=>?_⟩;by_cases V:b<M.length
 .rw[GT V] at Z |-;exact .inl Z
 .by_cases U:b=M.length+k
  .subst U
   rw[TX X] at Z;obtain rfl:=QQX Z;exact .inl hs
  .right
   rw[V1 (by omega)] at Z;unfold Go.Eng.agr at Z;rw[QQe (by omega)] at Z;exact List.eq_of_mem_replicate (J1 Z)
end Go.Eng
namespace Go.Proofs
open Go.Eng
theorem V2{n k:Nat}{s:afq}(f:Nat->Bool)(h:s.own=true)(hr:s.afm f=true):((agr n k s).all fun s=>ma s&&s.afm f)=true:=by
 rw[List.all_eq_true];intro x Z;rcases V4 Z with rfl | rfl
 .rfl
 .rw[hr,Bool.and_true];cases x<;>simp_all[ma,afq.own]
end Go.Proofs
