/- See E54. -/
import Derived.Test.YthpgbelancmpjaaGreatDoorE36
import Derived.Test.YthpgbelancmpjaaGreatDoorE39
set_option linter.all false
set_option maxRecDepth 100000
set_option maxHeartbeats 40000000
namespace Go.Proofs
open Go.Eng
open Tryz
def pz(P:List P2)(q:P2):List Tr→Nat→List Int
 | [],_=>[]
 |t::l,i=>if inQ (Qv P q t) then (i:Int)::pz P q l (i+1) else pz P q l (i+1)
theorem DJ{P:List P2}{q:P2}:∀{T:List Tr} {k:Nat},match Tj P q T k with
  |none=>pz P q T k=[]
  |some (j,_)=>∃l,pz P q T k=(j:Int)::l
 | [],k=>by simp[Tj,pz]
 |t::r,k=>by
  rw[Tj,pz];by_cases h:inQ (Qv P q t)
  ·rw[if_pos h,if_pos h];exact⟨_,rfl⟩
  ·rw[if_neg h,if_neg h];exact DJ (T:=r)
def Xv(N:Mem)(pv:AV)(L:List AV)(H:Mem):Prop:=(pv=.qF∧L=[]∧H=N)∨∃b,pv=.slice b 0 L.length none∧N[b]? =some (.cells true 1 L)∧H=N.set b .qK
section
variable {O:y9}{N N1:Mem}{pv tv w:AV}{n i bm bp:Nat}{q A B C:P2}{L:List AV}
theorem Jg:(aJ f12).map (fun o=>dT o.toList)=[[0,0,3,0,15]]:=by kernel_rfl
theorem Jh{b:Code}(J:ah f12=[b])(cp:pv.aei=true∧tv.aei=true)(kn:pv.known=true∧tv.known=true)(rf:pv.aef (fun b=>decide (b<N.length))=true∧tv.aef (fun b=>decide (b<N.length))=true)(hi:i<n)(hn:n≤1000)(hL:L.length≤1000)(W:N[bm]? =some (.cells true 0 [pv,tv]))(hp:N[bp]? =some (.cells true 0 [.str (aj q.1),.str (aj q.2)]))(hg:Xv N w L N1)(eC:O (.fn 49) [.agg [pv,tv],.int .i64 (i:Int)] N=some ⟨Ef A B C,none,[]⟩){g:Bool}(eI:O (.fn 48) [Ef A B C,pA q] N=some ⟨.bool g,none,[]⟩){env:Env}(l2:ad env 2=.ptr bm 0)(l3:ad env 3=.ptr bp 0)(l7:ad env 7=w)(H:ad env 19=.int .i64 (n:Int))(I:ad env 20=.int .i64 (i:Int))(m0:Nat)(d:Bool):
  ∃Z,aS (aV prog) (fun _=>[20,20,20,7]) O 1100 34 m0 true b ⟨env,N,d⟩=some (.normal,Z)∧ad Z.env 20=.int .i64 ((i+1:Nat):Int)∧ad Z.env 7=(if g then .slice (N.length+1) 0 (L.length+1) none else w)∧Z.mem=(if g then N1++[.cells true 1 [.int .i64 (i:Int)],.cells true 1 (L++[.int .i64 (i:Int)])] else N):=by
 obtain⟨S,U⟩:∃S,aJ f12=S :=⟨_,rfl⟩
 have X :=cc U Jg;simp only[aJ,bR,f12,List.nil_append,List.append_nil] at U;subst U;simp only[lB] at X;simp[ah,aG,f12] at J;subst J;have u:=gL W;have o:=gL hp;obtain⟨m,j⟩:=cp;obtain⟨k1,k2⟩:=kn;obtain⟨r1,r2⟩:=rf;have V:IntKind.i64.wrap ((i:Int)+1)=((i+1:Nat):Int):=by rw[af];omega
 obtain⟨m1,R⟩:=xE (i+1);rw[←R] at V ⊢;have M:(L.length+1)*8≤140737488355328:=by omega
 have K:L.length+1≤140737488355328:=by omega
 unfold Ef pA at*;cases g
 ·simp[-getElem?_pos,-AV.aei,-AV.known,-AV.cells,-ee,-List.all_eq_true,rS,mS,l2,l3,l7,H,I,hi,W,hp,eC,eI,V,r1,r2,-bG,-bn,-aK,-AV.aef,-aek.aef,bd X,bZ,du,ef,cw,cM,gQ,bef,Nat.testBit]
 ·rcases hg with⟨rfl,rfl,rfl⟩ | ⟨b,rfl,J,rfl⟩
  ·simp[-getElem?_pos,-AV.aei,-AV.known,-AV.cells,-ee,-List.all_eq_true,vS,rS,mS,l2,l3,l7,H,I,hi,W,hp,eC,eI,V,r1,r2,-bG,-bn,-aK,-AV.aef,-aek.aef,bd X,bZ,du,ef,cw,cM,gQ,bef,Nat.testBit]
  ·have G:=gL J
   have F:∀Y:Mem,(N++Y)[b]? =some (.cells true 1 L):=fun Y=>gU J _
   have D:∀Y:Mem,(N++Y).set b .qK=N.set b .qK++Y:=fun Y=>List.set_append_left _ _ G
   have z3:∀Y:Mem,(N.set b .qK++Y)[N.length]? =Y[0]? :=fun Y=>by have:=xJ (N.set b .qK) Y;rwa [List.length_set] at this
   simp[-getElem?_pos,-AV.aei,-AV.known,-AV.cells,-ee,-List.all_eq_true,vS,rS,mS,l2,l3,l7,H,I,hi,W,hp,eC,eI,V,r1,r2,M,K,F,D,-bG,-bn,-aK,-AV.aef,-aek.aef,bd X,bZ,du,ef,cw,cM,gQ,bef,Nat.testBit]
end
def xB(N:Mem):AV→List AV
 |.slice b _ _ _=>match N[b]? with
  |some (.cells _ _ cs)=>cs
  |_=>[]
 |_=>[]
def Kc(N:Mem):AV→Mem
 |.slice b _ _ _=>N.set b .qK
 |_=>N
def jK(N:Mem)(w:AV)(i:Nat):Mem×AV:=(Kc N w++[.cells true 1 [.int .i64 (i:Int)],.cells true 1 (xB N w++[.int .i64 (i:Int)])],.slice (N.length+1) 0 ((xB N w).length+1) none)
def FV(P:List P2)(q:P2):List Tr→Nat→Mem→AV→Mem×AV
 | [],_,N,w=>(N,w)
 |t::l,i,N,w=>if inQ (Qv P q t) then FV P q l (i+1) (jK N w i).1 (jK N w i).2 else FV P q l (i+1) N w
structure LmI (P:List P2)(T:List Tr)(q:P2)(M N:Mem)(pb tb bm bp:Nat)(w:AV)(L:List AV):Prop where
 p:∃o,N[pb]? =some (.cells o 2 (pC P))
 t:∃o,N[tb]? =some (.cells o 3 (tC T))
 m:N[bm]? =some (.cells true 0 [.slice pb 0 P.length none,.slice tb 0 T.length none])
 v:N[bp]? =some (.cells true 0 [.str (aj q.1),.str (aj q.2)])
 e:∃Y,N=M++Y
 g:Xv N w L (Kc N w)
 r:xB N w=L
 b:∀b n,w=.slice b 0 n none→M.length≤b
 z:w=.qF∨L≠[]
section
variable {P:List P2}{T:List Tr}{q:P2}{M N:Mem}{pb tb bm bp i:Nat}{w:AV}{L:List AV}
theorem LmI.next(H:LmI P T q M N pb tb bm bp w L)(i:Nat):LmI P T q M (jK N w i).1 pb tb bm bp (jK N w i).2 (L++[.int .i64 (i:Int)]):=by
 have R:(Kc N w).length=N.length:=by unfold Kc;split<;>simp
 have ae1:∀(b:Nat) o es C,es≠1→N[b]? =some (.cells o es C)→(jK N w i).1[b]? =some (.cells o es C):=fun b o es C O X=>by
  have K:=gL X;unfold jK;simp only;rw[List.getElem?_append_left (by omega)];rcases H.g with⟨Z,_,_⟩ | ⟨c,Z,U,_⟩
  ·rw[Z];exact X
  ·rw[Z]
   show(N.set c .qK)[b]? =_
   rw[List.getElem?_set_ne (fun e=>by subst e;rw[U] at X;cases X;exact O rfl)];exact X
 have S:=H.r;have row:(jK N w i).1[N.length+1]? =some (.cells true 1 (L++[.int .i64 (i:Int)])):=by unfold jK;simp only;rw[List.getElem?_append_right (by omega),R,Nat.add_sub_cancel_left,S];rfl
 refine⟨?_,?_,ae1 _ _ _ _ (by decide) H.m,ae1 _ _ _ _ (by decide) H.v,?_,.inr ⟨N.length+1,?_,row,rfl⟩,?_,?_,.inr (by simp)⟩
 ·obtain⟨o,h⟩:=H.p;exact⟨o,ae1 _ _ _ _ (by decide) h⟩
 ·obtain⟨o,h⟩:=H.t;exact⟨o,ae1 _ _ _ _ (by decide) h⟩
 ·obtain⟨Y,V⟩:=H.e
  rcases H.g with⟨Z,_,_⟩ | ⟨c,Z,U,_⟩
  ·exact⟨Y++[.cells true 1 [.int .i64 (i:Int)],.cells true 1 (xB N w++[.int .i64 (i:Int)])],by unfold jK;simp only;rw[Z];show N++_=_;rw[V,List.append_assoc]⟩
  ·have X:=H.b c _ Z
   obtain⟨k,rfl⟩:∃k,c=M.length+k:=⟨c-M.length,by omega⟩
   exact⟨Y.set k .qK++[.cells true 1 [.int .i64 (i:Int)],.cells true 1 (xB N w++[.int .i64 (i:Int)])],by unfold jK;simp only;rw[Z];show N.set (M.length+k) .qK++_=_;rw[V,FY,List.append_assoc]⟩
 ·unfold jK;simp[S]
 ·show xB (jK N w i).1 (.slice (N.length+1) 0 _ none)=_
  simp only[xB,row]
 ·intro b n h
  obtain⟨Y,V⟩:=H.e;unfold jK at h;simp only[AV.slice.injEq] at h;obtain⟨rfl,_⟩:=h;rw[V,List.length_append];omega
theorem FW:∀(l:List Tr) (i:Nat) (N:Mem) (w:AV) (L:List AV),LmI P T q M N pb tb bm bp w L→LmI P T q M (FV P q l i N w).1 pb tb bm bp (FV P q l i N w).2 (L++(pz P q l i).map fun n=>.int .i64 n)
 | [],i,N,w,L,H=>by show LmI P T q M N pb tb bm bp w (L++[]);rw[List.append_nil];exact H
 |t::l,i,N,w,L,H=>by
  rw[FV,pz];by_cases h:inQ (Qv P q t)
  ·rw[if_pos h,if_pos h]
   have:=FW l (i+1) _ _ _ (H.next i);simpa using this
  ·rw[if_neg h,if_neg h]
   exact FW l (i+1) N w L H
variable {O:y9}
theorem ym{b:Code}(I:ah f12=[b])(H env:Env):ad (aw [20,20,20,7] (ae b) H env) 20=ad env 20∧ad (aw [20,20,20,7] (ae b) H env) 7=ad env 7∧ad (aw [20,20,20,7] (ae b) H env) 2=ad H 2∧ad (aw [20,20,20,7] (ae b) H env) 3=ad H 3∧ad (aw [20,20,20,7] (ae b) H env) 19=ad H 19:=by simp[ah,aG,f12] at I;subst I;simp[aw]
theorem Mk{b:Code}(J:ah f12=[b]){n:Nat}{env:Env}(H:ad env 19=.int .i64 (n:Int))(I:ad env 20=.int .i64 (n:Int))(m0:Nat)(d:Bool):
  ∃Z,aS (aV prog) (fun _=>[20,20,20,7]) O 1100 34 m0 true b ⟨env,N,d⟩=some (.exit 0,⟨Z,N,d⟩)∧ad Z 7=ad env 7:=by
 simp[ah,aG,f12] at J;subst J;simp[H,I]
theorem qO{b:Code}(W:ah f12=[b])(Y:agO P T q)
  (hC:∀(N:Mem) (i:Nat) t A B C,T[i]? =some t→P[t.1]? =some A→P[t.2.1]? =some B→P[t.2.2]? =some C→(∃o,N[pb]? =some (.cells o 2 (pC P)))→(∃o,N[tb]? =some (.cells o 3 (tC T)))→O (.fn 49) [.agg [.slice pb 0 P.length none,.slice tb 0 T.length none],.int .i64 (i:Int)] N=some ⟨Ef A B C,none,[]⟩)
  (hI:∀(N:Mem) A B C,Ta A B C q→O (.fn 48) [Ef A B C,pA q] N=some ⟨.bool (decide (inQ (Cp A B C q))),none,[]⟩)
  {I:Env}(l2:ad I 2=.ptr bm 0) (l3:ad I 3=.ptr bp 0) (J:ad I 19=.int .i64 (T.length:Int)) (m1 m0:Nat):
  ∀(k i:Nat) (N:Mem) (w:AV) (L:List AV) (env:Env) (d:Bool) (K:Nat),i+k=T.length→k<K→LmI P T q M N pb tb bm bp w L→L.length≤i→ad env 20=.int .i64 (i:Int)→ad env 7=w→
   ∃r:Env×Bool,fy [20,20,20,7] (ae b) I m1 (aS (aV prog) (fun _=>[20,20,20,7]) O 1100 34 m0 true b) K ⟨aw [20,20,20,7] (ae b) I env,N,d⟩=some (.exit 0,⟨r.1,(FV P q (T.drop i) i N w).1,r.2⟩)∧ad r.1 7=(FV P q (T.drop i) i N w).2
 |0,i,N,w,L,env,d,K,hk,hK,H,hL,Zm,h7=>by
  obtain⟨K,rfl⟩:∃k,K=k+1:=⟨K-1,by omega⟩
  obtain rfl:i=T.length:=by omega
  obtain⟨S,R,u,j,G⟩:=ym W I env;obtain⟨AC,h1,h2⟩:=Mk (O:=O) (N:=N) W (env:=aw [20,20,20,7] (ae b) I env) (by rw[G];exact J) (by rw[S];exact Zm) m0 d;rw[List.drop_length];exact⟨(AC,d),by rw[fy,h1];rfl,by rw[h2,R];exact h7⟩
 |k+1,i,N,w,L,env,d,K,hk,hK,H,hL,Zm,h7=>by
  obtain⟨K,rfl⟩:∃k,K=k+1:=⟨K-1,by omega⟩
  obtain⟨S,R,u,j,G⟩:=ym W I env;obtain⟨t,F⟩:∃t,T[i]? =some t:=⟨_,List.getElem?_eq_getElem (by omega)⟩
  obtain⟨A,B,C,hA,hB,X,XT⟩:=Y.tri i t F;have D:=Y.hl.2;have ed:T.drop i=t::T.drop (i+1):=by obtain⟨FS,e⟩:=List.getElem?_eq_some_iff.1 F;rw[List.drop_eq_getElem_cons FS,e]
  have et:Qv P q t=Cp A B C q:=by unfold Qv;simp[List.getD,hA,hB,X]
  have hp:=H.p;have V:=H.t;have lp:pb<N.length:=by obtain⟨o,h⟩:=hp;exact(gL h)
  have lt:tb<N.length:=by obtain⟨o,h⟩:=V;exact(gL h)
  obtain⟨Z,t1,t2,t3,t4⟩:=Jh (O:=O) (n:=T.length) (i:=i) W ⟨rfl,rfl⟩ ⟨rfl,rfl⟩ ⟨by simp only[AV.aef,decide_eq_true_eq];exact lp,by simp only[AV.aef,decide_eq_true_eq];exact lt⟩ (by omega) D (by omega) H.m H.v H.g (hC N i t A B C F hA hB X hp V) (hI N A B C XT)
   (env:=aw [20,20,20,7] (ae b) I env) (by rw[u];exact l2) (by rw[j];exact l3) (by rw[R];exact h7) (by rw[G];exact J) (by rw[S];exact Zm) m0 d
  rw[ed,FV,et];rw[fy,t1];simp only;have hs:mD [20,20,20,7] (ae b) I m1 Z =⟨aw [20,20,20,7] (ae b) I Z.env,Z.mem,Z.aeC⟩:=by simp[mD,wB]
  rw[hs];by_cases U:inQ (Cp A B C q)
  ·rw[if_pos U]
   rw[decide_eq_true U,if_pos rfl] at t3 t4;have hr:=H.r;have e1:Z.mem=(jK N w i).1:=by rw[t4];unfold jK;rw[hr]
   have e2:ad Z.env 7=(jK N w i).2:=by rw[t3];unfold jK;rw[hr]
   rw[e1];exact qO W Y hC hI l2 l3 J m1 m0 k (i+1) _ _ _ Z.env Z.aeC K (by omega) (by omega) (H.next i) (by simp;omega) t2 e2
  ·rw[if_neg U]
   rw[decide_eq_false U,if_neg (by decide)] at t3 t4;rw[t4];exact qO W Y hC hI l2 l3 J m1 m0 k (i+1) N w L Z.env Z.aeC K (by omega) (by omega) H (by omega) t2 t3
end
def rY(P:List P2)(T:List Tr)(q:P2)(pb tb:Nat)(c:Go.Eng.Callee)(a:List AV)(N:Mem)(r:aee):Prop:=
 (c=.fn 46∧a=[.agg [.slice pb 0 P.length none,.slice tb 0 T.length none]]∧(∃o,N[pb]? =some (.cells o 2 (pC P)))∧(∃o,N[tb]? =some (.cells o 3 (tC T)))∧r=⟨.int .i64 0,none,[]⟩)∨
 (c=.fn 47∧a=[pA q]∧r=⟨.int .i64 0,none,[]⟩)∨
 (∃(i:Nat) (t:Tr) (A B C:P2),c=.fn 49∧a=[.agg [.slice pb 0 P.length none,.slice tb 0 T.length none],.int .i64 (i:Int)]∧T[i]? =some t∧(P[t.1]? =some A∧P[t.2.1]? =some B∧P[t.2.2]? =some C)∧(∃o,N[pb]? =some (.cells o 2 (pC P)))∧(∃o,N[tb]? =some (.cells o 3 (tC T)))∧r=⟨Ef A B C,none,[]⟩)∨
 (∃A B C:P2,c=.fn 48∧a=[Ef A B C,pA q]∧Ta A B C q∧r=⟨.bool (decide (inQ (Cp A B C q))),none,[]⟩)
variable{M N:Mem}
section
variable {P:List P2}{T:List Tr}{q:P2}{pb tb:Nat}
theorem lL{c:Go.Eng.Callee}{a:List AV}{r r' :aee}(h:rY P T q pb tb c a N r)(h' :rY P T q pb tb c a N r'):r' =r:=by
 rcases h with⟨rfl,rfl,_,_,rfl⟩ | ⟨rfl,rfl,rfl⟩ | ⟨i,t,A,B,C,rfl,rfl,L,⟨K,G,F⟩,_,_,rfl⟩ | ⟨A,B,C,rfl,rfl,_,rfl⟩
 ·rcases h' with⟨_,_,_,_,rfl⟩ | ⟨e,_⟩ | ⟨_,_,_,_,_,e,_⟩ | ⟨_,_,_,e,_⟩<;>first | rfl | cases e
 ·rcases h' with⟨e,_⟩ | ⟨_,_,rfl⟩ | ⟨_,_,_,_,_,e,_⟩ | ⟨_,_,_,e,_⟩<;>first | rfl | cases e
 ·rcases h' with⟨e,_⟩ | ⟨e,_⟩ | ⟨D,J,U,S,R,_,e,Z,⟨X,V,O⟩,_,_,rfl⟩ | ⟨_,_,_,e,_⟩
  ·cases e
  ·cases e
  ·simp only[List.cons.injEq,AV.int.injEq,true_and,and_true] at e
   obtain rfl:i=D :=by omega
   rw[L] at Z;cases Z;rw[K] at X;rw[G] at V;rw[F] at O;obtain rfl:=Option.some.inj X;obtain rfl:=Option.some.inj V;obtain rfl:=Option.some.inj O;rfl
  ·cases e
 ·rcases h' with⟨e,_⟩ | ⟨e,_⟩ | ⟨_,_,_,_,_,e,_⟩ | ⟨U,S,R,_,e,_,rfl⟩
  ·cases e
  ·cases e
  ·cases e
  ·unfold Ef at e
   simp only[List.cons.injEq,AV.agg.injEq,AV.str.injEq,and_true] at e;obtain⟨u,o,m,j,Y,W⟩:=e;obtain rfl:A=U :=Prod.ext (gJ u) (gJ o);obtain rfl:B=S :=Prod.ext (gJ m) (gJ j);obtain rfl:C=R :=Prod.ext (gJ Y) (gJ W);rfl
theorem Mj(H:∀N:Mem,(∃o,N[pb]? =some (.cells o 2 (pC P)))→(∃o,N[tb]? =some (.cells o 3 (tC T)))→kO prog 46 [.agg [.slice pb 0 P.length none,.slice tb 0 T.length none]] N (.int .i64 0) N)(hq:sP [aj q.1,aj q.2]=0∧(aj q.1).length≤Kw∧(aj q.2).length≤Kw):qS prog (wo (rY P T q pb tb)):=wq fun c a N r h=>by
 rcases h with⟨rfl,rfl,Z,X,rfl⟩ | ⟨rfl,rfl,rfl⟩ | ⟨i,t,A,B,C,rfl,rfl,V,⟨U,S,R⟩,⟨L,Z⟩,⟨K,X⟩,rfl⟩ | ⟨A,B,C,rfl,rfl,O,rfl⟩
 ·exact aC (by simpa [aee.mem] using H N Z X)
 ·have:=gA (aj q.1) (aj q.2) hq.2.1 hq.2.2 N
  rw[hq.1] at this;exact aC (by simpa [aee.mem,pA] using this)
 ·exact aC (by simpa [aee.mem] using Ap V U S R Z X)
 ·exact aC (by simpa [aee.mem] using Ev A B C q O N)
theorem LmI.row{bm I:Nat}{w:AV}{L:List AV}(H:LmI P T q M N pb tb bm I w L):aev N w 1 L.length L:=by
 rcases H.g with⟨Z,X,_⟩ | ⟨b,Z,X,_⟩
 ·exact .inl ⟨Z,by rw[X];rfl,X⟩
 ·refine .inr ⟨b,true,Z,?_,X⟩
  rcases H.z with h | h
  ·rw[h] at Z;cases Z
  ·exact List.length_pos_iff.2 h
theorem Ew(H:agO P T q)(YU:∀N:Mem,(∃o,N[pb]? =some (.cells o 2 (pC P)))→(∃o,N[tb]? =some (.cells o 3 (tC T)))→kO prog 46 [.agg [.slice pb 0 P.length none,.slice tb 0 T.length none]] N (.int .i64 0) N)(hq:sP [aj q.1,aj q.2]=0∧(aj q.1).length≤Kw∧(aj q.2).length≤Kw){o1 o2:Bool}(I:M[pb]? =some (.cells o1 2 (pC P)))(m2:M[tb]? =some (.cells o2 3 (tC T))):
  ∃w S,kO prog 12 [.agg [.slice pb 0 P.length none,.slice tb 0 T.length none],pA q] M (.tuple [w,.int .i64 0]) (M++S)∧aev (M++S) w 1 (pz P q T 0).length ((pz P q T 0).map fun n=>.int .i64 n):=by
 have hG:aT prog 12=some f12:=by kernel_rfl
 have m:=Mj YU hq;obtain⟨V,Z⟩:=xE (α:=Mem) (M++[.cells true 0 [.slice pb 0 P.length none,.slice tb 0 T.length none],.cells true 0 [.str (aj q.1),.str (aj q.2)]]);have l1:=gL I;have l2:=gL m2;have r1:V[pb]? =some (.cells o1 2 (pC P)):=by rw[Z,List.getElem?_append_left l1];exact I
 have r2:V[tb]? =some (.cells o2 3 (tC T)):=by rw[Z,List.getElem?_append_left l2];exact m2
 obtain⟨O,X⟩:=xE (wo (rY P T q pb tb));have e1:O (.fn 46) [.agg [.slice pb 0 P.length none,.slice tb 0 T.length none]] V=some ⟨.int .i64 0,none,[]⟩:=by rw[X];exact fQ (.inl ⟨rfl,rfl,⟨_,r1⟩,⟨_,r2⟩,rfl⟩) fun G U =>lL (.inl ⟨rfl,rfl,⟨_,r1⟩,⟨_,r2⟩,rfl⟩) U
 have e2:O (.fn 47) [pA q] V=some ⟨.int .i64 0,none,[]⟩:=by rw[X];exact fQ (.inr (.inl ⟨rfl,rfl,rfl⟩)) fun G U =>lL (.inr (.inl ⟨rfl,rfl,rfl⟩)) U
 have L:∀(N:Mem) (i:Nat) t A B C,T[i]? =some t→P[t.1]? =some A→P[t.2.1]? =some B→P[t.2.2]? =some C→(∃o,N[pb]? =some (.cells o 2 (pC P)))→(∃o,N[tb]? =some (.cells o 3 (tC T)))→O (.fn 49) [.agg [.slice pb 0 P.length none,.slice tb 0 T.length none],.int .i64 (i:Int)] N=some ⟨Ef A B C,none,[]⟩:=fun N i t A B C hi hA hB L h1 h2=>by have x:rY P T q pb tb (.fn 49) [.agg [.slice pb 0 P.length none,.slice tb 0 T.length none],.int .i64 (i:Int)] N ⟨Ef A B C,none,[]⟩:=.inr (.inr (.inl ⟨i,t,A,B,C,rfl,rfl,hi,⟨hA,hB,L⟩,h1,h2,rfl⟩));rw[X];exact fQ x fun G U =>lL x U
 have j:∀(N:Mem) A B C,Ta A B C q→O (.fn 48) [Ef A B C,pA q] N=some ⟨.bool (decide (inQ (Cp A B C q))),none,[]⟩:=fun N A B C ht=>by have x:rY P T q pb tb (.fn 48) [Ef A B C,pA q] N ⟨.bool (decide (inQ (Cp A B C q))),none,[]⟩:=.inr (.inr (.inr ⟨A,B,C,rfl,rfl,ht,rfl⟩));rw[X];exact fQ x fun G U =>lL x U
 rw[←X] at m;clear X;have W:LmI P T q M V pb tb M.length (M.length+1) .qF []:=by
  refine⟨⟨_,r1⟩,⟨_,r2⟩,?_,?_,⟨_,Z⟩,.inl ⟨rfl,rfl,rfl⟩,rfl,fun b n h=>(by cases h),.inl rfl⟩
  ·rw[Z,xJ];rfl
  ·rw[Z,BO];rfl
 have K:=FW T 0 V .qF [] W;rw[List.nil_append] at K;obtain⟨R,J⟩:=xE (FV P q T 0 V .qF);rw[←J] at K;obtain⟨b,D⟩:∃b,ah f12=[b]:=⟨_,rfl⟩
 obtain⟨F,u⟩:=Ck (β:=Env×Bool) (p:=fun env _=>ad env 2=.ptr M.length 0∧ad env 3=.ptr (M.length+1) 0∧ad env 19=.int .i64 (T.length:Int)∧ad env 20=.int .i64 0∧ad env 7=.qF)
  (q:=fun env d r=>aS (aV prog) (fun _=>[20,20,20,7]) O 1100 34 M.length true (.loop b) ⟨env,V,d⟩=some (.exit 0,⟨r.1,R.1,r.2⟩)∧ad r.1 7=R.2) (fun env d ⟨a2,a3,a19,a20,a7⟩=>by
  have hTl:=H.hl.2;have:=qO (O:=O) (M:=M) D H L j a2 a3 a19 V.length M.length T.length 0 V .qF [] env d 1100 (by omega) (by omega) W (by simp) a20 a7;rw[List.drop_zero,←J] at this;exact this)
 have XV:=fun env d h=>(u env d h).1
 have XZ:=fun env d h=>(u env d h).2
 clear u L j;have XP:cJ (aV prog) (fun _=>[20,20,20,7]) (aT prog) O 1100 12 [.agg [.slice pb 0 P.length none,.slice tb 0 T.length none],pA q] M=some (.tuple [R.2,.int .i64 0],R.1):=by subst Z;simp[ah,aG,f12] at D;subst D;unfold pA at*;simp[-getElem?_pos,-AV.known,-AV.cells,-ee,-List.all_eq_true,vS,mS,cJ,hG,f12,e1,e2,XV,XZ]
 obtain⟨Y,hY⟩:=K.e;refine⟨R.2,Y,?_,?_⟩
 ·rw[←hY];exact bY ai (aO _) m (aR _) XP
 ·rw[←hY]
  have:=K.row;simpa using this
end
end Go.Proofs
namespace Go.Proofs
open Go.Eng
open Tryz
def GrN(es:Nat)(N:Mem)(pv:AV)(k:Nat)(L:List AV)(H:Mem):Prop:=(pv=.qF∧L=[]∧k=0∧H=N)∨∃b,pv=.slice b 0 k none∧N[b]? =some (.cells true es L)∧L.length=k*es∧H=N.set b .qK
theorem Jn:(aJ f158).map (fun o=>dT o.toList)=[[0,0,0,0,8,0,56,120,248,0,512,0,3584,7680,15872,0,0,98304,229376,524280,1048572,2097150,4194302,8388607,16777215]]:=by kernel_rfl
section
variable {O:y9}{N N1:Mem}{w:AV}{n i j bm fr pb tb fb:Nat}{oF o1 o2 o3:Bool}{F L:List AV}{P:List P2}{T:List Tr}{Q:List Rat}{t:Tr}{A:P2}{f off:Rat}{nv:V3}
theorem Jq{b:Code}(H:ah f158=[b])(hm:N[bm]? =some (.cells true 0 [.slice pb 0 P.length none,.slice tb 0 T.length none]))(hF:N[fr]? =some (.cells oF 1 F))(hFl:F.length=n)(hi:F[i]? =some (.slice fb 0 Q.length none))(hn:n≤3)(hP:N[pb]? =some (.cells o1 2 (pC P)))(hT:N[tb]? =some (.cells o2 3 (tC T)))(hQ:N[fb]? =some (.cells o3 1 (qC Q)))(ht:T[j]? =some t)(hA:P[t.1]? =some A)(hf:Q[t.1]? =some f)(hg:GrN 4 N w i L N1)(rL:∀f,AV.ael f L=true)(eN:O (.fn 236) [.agg [.slice pb 0 P.length none,.slice tb 0 T.length none],.slice fb 0 Q.length none,.int .i64 (j:Int)] N=some ⟨.tuple [vA nv,.int .i64 0],none,[]⟩)(eD:∀X,O (.fn 113) [vA nv,.agg [.str (aj A.1),.str (aj A.2),.str (aj f)]] (N++X)=some ⟨.str (aj off),none,[]⟩){env:Env}(l2:ad env 2=.int .i64 (j:Int))(l3:ad env 3=.ptr bm 0)(l8:ad env 8=w)(I:ad env 21=.slice fr 0 n none)(J:ad env 22=.int .i64 (n:Int))(W:ad env 23=.int .i64 (i:Int))(m0:Nat)(d:Bool):
  ∃V,aS (aV prog) (fun _=>[23,23,23,8]) O 6 69 m0 true b ⟨env,N,d⟩=some (.normal,V)∧ad V.env 23=.int .i64 ((i+1:Nat):Int)∧ad V.env 8=.slice (N.length+2) 0 (i+1) none∧V.mem=N1++[.cells true 0 (vL nv),.cells true 4 (vL nv++[.str (aj off)]),.cells true 4 (L++(vL nv++[.str (aj off)]))]:=by
 obtain⟨D,S⟩:∃D,aJ f158=D :=⟨_,rfl⟩
 have R :=cc S Jn;simp only[aJ,bR,f158,List.nil_append,List.append_nil] at S;subst S;simp only[lB] at R;simp[ah,aG,f158] at H;subst H;have g1:=gL hm;have g2:=gL hF;have g3:=gL hP;have g4:=gL hT;have g5:=gL hQ;have C:∀Y:Mem,(N++Y)[bm]? =some (.cells true 0 [.slice pb 0 P.length none,.slice tb 0 T.length none]):=fun Y=>gU hm _
 have B:∀Y:Mem,(N++Y)[pb]? =some (.cells o1 2 (pC P)):=fun Y=>gU hP _
 have u:∀Y:Mem,(N++Y)[tb]? =some (.cells o2 3 (tC T)):=fun Y=>gU hT _
 have o:∀Y:Mem,(N++Y)[fb]? =some (.cells o3 1 (qC Q)):=fun Y=>gU hQ _
 have m:∀x,bm<N.length+x:=fun x=>by omega
 have y3:∀x,pb<N.length+x:=fun x=>by omega
 have y4:∀x,tb<N.length+x:=fun x=>by omega
 have y5:∀x,fb<N.length+x:=fun x=>by omega
 have Zg:i<n:=by have:=gL hi;omega
 obtain⟨k1,k2⟩:=SZ ht;have Z:=gL ht;obtain⟨p1,p2,p3,p4⟩:=zI hA;have a1:=gL hA;have f1:=Nf hf;have b1:=gL hf;obtain⟨t1,t2,t3⟩:=t;simp only at*;have kk:(tC T)[j*3]? =some (.int .i64 (t1:Int)):=by have:=congrArg (fun l=>l[0]?) k1;simpa [List.getElem?_take,List.getElem?_drop] using this
 have M:IntKind.i64.wrap ((i:Int)+1)=((i+1:Nat):Int):=by rw[af];omega
 obtain⟨m1,U⟩:=xE (i+1);have q0:(i+1)*64≤140737488355328:=by omega
 have q2:i≤140737488355327:=by omega
 unfold vA vL at*;rcases hg with⟨rfl,rfl,rfl,rfl⟩ | ⟨b,rfl,H,K,rfl⟩
 ·rw[←U] at M ⊢
  simp[-getElem?_pos,-AV.aei,-AV.known,-AV.cells,-ee,-List.all_eq_true,vS,rS,mS,l2,l3,l8,I,J,W,Zg,hF,hi,hm,eN,eD,C,B,u,o,m,y3,y5,kk,Z,p2,p3,a1,f1,b1,bJ,aD,-bG,-bn,-aK,-AV.aef,-aek.aef,bd R,bZ,du,ef,cw,cM,gQ,bef,Nat.testBit];subst U;exact⟨rfl,rfl⟩
 ·have G:=gL H
  rw[←U] at M ⊢;have z0:∀x,b<N.length+x:=fun x=>by omega
  have tk:List.take (i*4) L=L:=List.take_of_length_le (by omega);have z1:∀Y:Mem,(N++Y)[b]? =some (.cells true 4 L):=fun Y=>gU H _
  have z2:∀Y:Mem,(N++Y).set b .qK=N.set b .qK++Y:=fun Y=>List.set_append_left _ _ G
  have z3:∀Y:Mem,(N.set b .qK++Y)[N.length]? =Y[0]? :=fun Y=>by have:=xJ (N.set b .qK) Y;rwa [List.length_set] at this
  have z4:∀Y:Mem,(N.set b .qK++Y)[b]? =some .qK:=fun Y=>by rw[List.getElem?_append_left (by rw[List.length_set];exact G),List.getElem?_set_self G]
  have z5:∀(Y:Mem) k,List.drop (N.length+k) (N.set b .qK++Y)=Y.drop k:=fun Y k=>by have:(N.set b .qK).length=N.length:=List.length_set;rw[←this,←List.drop_drop,List.drop_left]
  simp[-getElem?_pos,-AV.aei,-AV.known,-AV.cells,-ee,-List.all_eq_true,vS,rS,mS,l2,l3,l8,I,J,W,Zg,hF,hi,hm,eN,eD,M,C,B,u,o,m,y3,y5,z4,z5,jy,rL,z0,z1,z2,K,q0,q2,tk,kk,Z,p2,p3,a1,f1,b1,bJ,aD,-bG,-bn,-aK,-AV.aef,-aek.aef,bd R,bZ,du,ef,cw,cM,gQ,bef,Nat.testBit];exact U.symm
end
def pnC:List (V3×Rat)→List AV
 | []=>[]
 |x::l=>(vL x.1++[.str (aj x.2)])++pnC l
def nd(N:Mem)(w:AV)(i:Nat)(x:V3×Rat):Mem×AV:=(Kc N w++[.cells true 0 (vL x.1),.cells true 4 (vL x.1++[.str (aj x.2)]),.cells true 4 (xB N w++(vL x.1++[.str (aj x.2)]))],.slice (N.length+2) 0 (i+1) none)
def F7:List (V3×Rat)→Nat→Mem→AV→Mem×AV
 | [],_,N,w=>(N,w)
 |x::l,i,N,w=>F7 l (i+1) (nd N w i x).1 (nd N w i x).2
structure PdI (M N:Mem)(w:AV)(i:Nat)(L:List AV):Prop where
 e:∃Y,N=M++Y
 g:GrN 4 N w i L (Kc N w)
 r:xB N w=L
 b:∀b n,w=.slice b 0 n none→M.length≤b
 z:w=.qF∨0<i
section
variable {M N:Mem}{w:AV}{L:List AV}{i:Nat}
theorem PdI.next(H:PdI M N w i L)(I:L.length=i*4)(x:V3×Rat):PdI M (nd N w i x).1 (nd N w i x).2 (i+1) (L++(vL x.1++[.str (aj x.2)])):=by
 have V:(Kc N w).length=N.length:=by unfold Kc;split<;>simp
 have U:=H.r;have row:(nd N w i x).1[N.length+2]? =some (.cells true 4 (L++(vL x.1++[.str (aj x.2)]))):=by unfold nd;simp only;rw[List.getElem?_append_right (by omega),V,Nat.add_sub_cancel_left,U];rfl
 refine⟨?_,.inr ⟨N.length+2,rfl,row,?_,rfl⟩,?_,?_,.inr (by omega)⟩
 ·obtain⟨Y,Z⟩:=H.e
  rcases H.g with⟨X,_,_⟩ | ⟨c,X,S,_⟩
  ·exact⟨Y++[.cells true 0 (vL x.1),.cells true 4 (vL x.1++[.str (aj x.2)]),.cells true 4 (xB N w++(vL x.1++[.str (aj x.2)]))],by unfold nd;simp only;rw[X];show N++_=_;rw[Z,List.append_assoc]⟩
  ·have R:=H.b c _ X
   obtain⟨k,rfl⟩:∃k,c=M.length+k:=⟨c-M.length,by omega⟩
   exact⟨Y.set k .qK++[.cells true 0 (vL x.1),.cells true 4 (vL x.1++[.str (aj x.2)]),.cells true 4 (xB N w++(vL x.1++[.str (aj x.2)]))],by unfold nd;simp only;rw[X];show N.set (M.length+k) .qK++_=_;rw[Z,FY,List.append_assoc]⟩
 ·rw[List.length_append,I];simp[vL];omega
 ·show xB (nd N w i x).1 (.slice (N.length+2) 0 _ none)=_
  simp only[xB,row]
 ·intro b n h
  obtain⟨Y,Z⟩:=H.e;unfold nd at h;simp only[AV.slice.injEq] at h;obtain⟨rfl,_⟩:=h;rw[Z,List.length_append];omega
theorem Oc:∀(l:List (V3×Rat)) (i:Nat) (N:Mem) (w:AV) (L:List AV),L.length=i*4→PdI M N w i L→PdI M (F7 l i N w).1 (F7 l i N w).2 (i+l.length) (L++pnC l)
 | [],i,N,w,L,_,H=>by show PdI M N w i (L++[]);rw[List.append_nil];exact H
 |x::l,i,N,w,L,hL,H=>by rw[F7,pnC,←List.append_assoc];have:=Oc l (i+1) _ _ _ (by rw[List.length_append,hL];simp[vL];omega) (H.next hL x);rw[List.length_cons,show i+(l.length+1)=i+1+l.length by omega];exact this
end
structure agz (O:y9)(M:Mem)(nF dF:Go.Eng.Callee)(bm fr pb tb j:Nat)(P:List P2)(T:List Tr)(t:Tr)(A:P2)(F:List AV)(X:List (V3×Rat)):Prop where
 m:M[bm]? =some (.cells true 0 [.slice pb 0 P.length none,.slice tb 0 T.length none])
 r:∃o,M[fr]? =some (.cells o 1 F)
 l:F.length=X.length∧X.length≤3
 pp:∃o,M[pb]? =some (.cells o 2 (pC P))
 tt:∃o,M[tb]? =some (.cells o 3 (tC T))
 hi:T[j]? =some t
 hA:P[t.1]? =some A
 f:∀(i:Nat) x,X[i]? =some x→∃fb o Q f,F[i]? =some (.slice fb 0 (Q:List Rat).length none)∧M[fb]? =some (.cells o 1 (qC Q))∧Q[t.1]? =some f∧
  (∀Y,O nF [.agg [.slice pb 0 P.length none,.slice tb 0 T.length none],.slice fb 0 Q.length none,.int .i64 (j:Int)] (M++Y)=some ⟨.tuple [vA x.1,.int .i64 0],none,[]⟩)∧∀Y,O dF [vA x.1,.agg [.str (aj A.1),.str (aj A.2),.str (aj f)]] (M++Y)=some ⟨.str (aj x.2),none,[]⟩
section
variable {O:y9}{M N:Mem}{w:AV}{bm fr pb tb j:Nat}{P:List P2}{T:List Tr}{t:Tr}{A:P2}{F:List AV}{X:List (V3×Rat)}
theorem yr{b:Code}(I:ah f158=[b])(H env:Env):ad (aw [23,23,23,8] (ae b) H env) 23=ad env 23∧ad (aw [23,23,23,8] (ae b) H env) 8=ad env 8∧ad (aw [23,23,23,8] (ae b) H env) 2=ad H 2∧ad (aw [23,23,23,8] (ae b) H env) 3=ad H 3∧ad (aw [23,23,23,8] (ae b) H env) 21=ad H 21∧ad (aw [23,23,23,8] (ae b) H env) 22=ad H 22:=by simp[ah,aG,f158] at I;subst I;simp[aw]
theorem Ms{b:Code}(J:ah f158=[b]){n:Nat}{env:Env}(H:ad env 22=.int .i64 (n:Int))(I:ad env 23=.int .i64 (n:Int))(m0:Nat)(d:Bool):
  ∃Z,aS (aV prog) (fun _=>[23,23,23,8]) O 6 69 m0 true b ⟨env,N,d⟩=some (.exit 0,⟨Z,N,d⟩)∧ad Z 8=ad env 8:=by
 simp[ah,aG,f158] at J;subst J;simp[H,I]
theorem yq{b:Code}(W:ah f158=[b])(J:agz O M (.fn 236) (.fn 113) bm fr pb tb j P T t A F X)
  {I:Env}(l2:ad I 2=.int .i64 (j:Int)) (l3:ad I 3=.ptr bm 0) (l21:ad I 21=.slice fr 0 X.length none) (l22:ad I 22=.int .i64 (X.length:Int)) (m1 m0:Nat):
  ∀(k i:Nat) (N:Mem) (w:AV) (L:List AV) (env:Env) (d:Bool) (K:Nat),i+k=X.length→k<K→L.length=i*4→(∀f,AV.ael f L=true)→PdI M N w i L→ad env 23=.int .i64 (i:Int)→ad env 8=w→
   ∃r:Env×Bool,fy [23,23,23,8] (ae b) I m1 (aS (aV prog) (fun _=>[23,23,23,8]) O 6 69 m0 true b) K ⟨aw [23,23,23,8] (ae b) I env,N,d⟩=some (.exit 0,⟨r.1,(F7 (X.drop i) i N w).1,r.2⟩)∧ad r.1 8=(F7 (X.drop i) i N w).2
 |0,i,N,w,L,env,d,K,hk,hK,hL,hRL,H,h23,h8=>by
  obtain⟨K,rfl⟩:∃k,K=k+1:=⟨K-1,by omega⟩
  obtain rfl:i=X.length:=by omega
  obtain⟨R,G,u,o,q5,D⟩:=yr W I env;obtain⟨AC,h1,h2⟩:=Ms (O:=O) (N:=N) W (env:=aw [23,23,23,8] (ae b) I env) (by rw[D];exact l22) (by rw[R];exact h23) m0 d;rw[List.drop_length];exact⟨(AC,d),by rw[fy,h1];rfl,by rw[h2,G];exact h8⟩
 |k+1,i,N,w,L,env,d,K,hk,hK,hL,hRL,H,h23,h8=>by
  obtain⟨K,rfl⟩:∃k,K=k+1:=⟨K-1,by omega⟩
  obtain⟨R,G,u,o,q5,D⟩:=yr W I env;obtain⟨x,hx⟩:∃t,X[i]? =some t:=⟨_,List.getElem?_eq_getElem (by omega)⟩
  obtain⟨fb,o3,Q,f,f1,f2,f3,f4,f5⟩:=J.f i x hx;obtain⟨Y,C⟩:=H.e;have ed:X.drop i=x::X.drop (i+1):=by obtain⟨FS,e⟩:=List.getElem?_eq_some_iff.1 hx;rw[List.drop_eq_getElem_cons FS,e]
  have U:∀{b:Nat}{S:aek},M[b]? =some S→N[b]? =some S:=fun {b S} W=>by rw[C,List.getElem?_append_left (gL W)];exact W
  obtain⟨oF,hF⟩:=J.r;obtain⟨o1,hP⟩:=J.pp;obtain⟨o2,hT⟩:=J.tt;obtain⟨hl,B⟩:=J.l;obtain⟨V,t1,t2,t3,t4⟩:=Jq (O:=O) (n:=X.length) (i:=i) (nv:=x.1) (off:=x.2) W (U J.m) (U hF) hl f1 B (U hP) (U hT) (U f2) J.hi J.hA f3 H.g hRL (by rw[C];exact f4 Y) (fun Z=>by rw[C,List.append_assoc];exact f5 (Y++Z))
   (env:=aw [23,23,23,8] (ae b) I env) (by rw[u];exact l2) (by rw[o];exact l3) (by rw[G];exact h8) (by rw[q5];exact l21) (by rw[D];exact l22) (by rw[R];exact h23) m0 d
  rw[ed,F7];rw[fy,t1];simp only;have hs:mD [23,23,23,8] (ae b) I m1 V =⟨aw [23,23,23,8] (ae b) I V.env,V.mem,V.aeC⟩:=by simp[mD,wB]
  rw[hs];have hr:=H.r;have e1:V.mem=(nd N w i x).1:=by rw[t4];unfold nd;rw[hr]
  have e2:ad V.env 8=(nd N w i x).2:=by rw[t3];rfl
  rw[e1];exact yq W J l2 l3 l21 l22 m1 m0 k (i+1) _ _ _ V.env V.aeC K (by omega) (by omega) (by rw[List.length_append,hL];simp[vL];omega) (fun f=>by rw[jy,hRL];rfl) (H.next hL x) t2 e2
end
theorem PdI.own{M N:Mem}{w:AV}{i:Nat}{L:List AV}(H:PdI M N w i L)(I:0<i):∃k,w=.slice (M.length+k) 0 i none∧N[M.length+k]? =some (.cells true 4 L):=by
 rcases H.g with⟨_,_,h3,_⟩ | ⟨b,Z,X,_⟩
 ·omega
 ·have:=H.b b i Z
  exact⟨b-M.length,by rw[show M.length+(b-M.length)=b by omega];exact Z,by rw[show M.length+(b-M.length)=b by omega];exact X⟩
section
variable {O:y9}{M:Mem}{pb tb fr j:Nat}{P:List P2}{T:List Tr}{t:Tr}{A:P2}{F:List AV}{X:List (V3×Rat)}
theorem yu{H:Mem}{bm:Nat}(I:agz O H (.fn 236) (.fn 113) bm fr pb tb j P T t A F X)(J:0<X.length){b:Code}(W:ah f158=[b])(m0:Nat):
  ∃w Z,(∃k,w=.slice (H.length+k) 0 X.length none∧Z[H.length+k]? =some (.cells true 4 (pnC X)))∧(∃Y,Z =H++Y)∧∃G:Env→Bool→Env×Bool,∀env d,(ad env 2=.int .i64 (j:Int)∧ad env 3=.ptr bm 0∧ad env 21=.slice fr 0 X.length none∧ad env 22=.int .i64 (X.length:Int)∧ad env 23=.int .i64 0∧ad env 8=.qF)→
   aS (aV prog) (fun _=>[23,23,23,8]) O 6 69 m0 true (.loop b) ⟨env,H,d⟩=some (.exit 0,⟨(G env d).1,Z,(G env d).2⟩)∧ad (G env d).1 8=w:=by
 have U:PdI H H .qF 0 []:=⟨⟨[],by simp⟩,.inl ⟨rfl,rfl,rfl,rfl⟩,rfl,fun b n h=>(by cases h),.inl rfl⟩;have V:=Oc X 0 H .qF [] rfl U;rw[List.nil_append,Nat.zero_add] at V;obtain⟨G,S⟩:=Ck (β:=Env×Bool) (p:=fun env _=>ad env 2=.int .i64 (j:Int)∧ad env 3=.ptr bm 0∧ad env 21=.slice fr 0 X.length none∧ad env 22=.int .i64 (X.length:Int)∧ad env 23=.int .i64 0∧ad env 8=.qF)
  (q:=fun env d r=>aS (aV prog) (fun _=>[23,23,23,8]) O 6 69 m0 true (.loop b) ⟨env,H,d⟩=some (.exit 0,⟨r.1,(F7 X 0 H .qF).1,r.2⟩)∧ad r.1 8=(F7 X 0 H .qF).2) (fun env d ⟨a2,a3,a21,a22,a23,a8⟩=>by
  have R:=I.l.2;have:=yq (O:=O) (M:=H) W I a2 a3 a21 a22 H.length m0 X.length 0 H .qF [] env d 6 (by omega) (by omega) rfl (fun _=>rfl) U a23 a8;rw[List.drop_zero] at this;exact this)
 exact⟨_,_,V.own J,V.e,G,S⟩
variable {fb n0 cb m:Nat}{u kn:AV}{c:Evc}{vs:List AV}
theorem Jo(I:qS prog O)(hu:u.aei=true)(hn:kn.aei=true)(H:agz O (M++[.cells true 0 [.slice pb 0 P.length none,.slice tb 0 T.length none],.cells true 0 (c.cells (.slice fb 0 n0 none) u .qF kn),.qK,.cells true 1 [.slice fb 0 n0 none]]) (.fn 236) (.fn 113) M.length (M.length+3) pb tb j P T t A [.slice fb 0 n0 none] X):
  ∃w Z,kO prog 158 [.agg [.slice pb 0 P.length none,.slice tb 0 T.length none],.agg (c.cells (.slice fb 0 n0 none) u .qF kn),.int .i64 (j:Int)] M (.tuple [w,.int .i64 0]) (M++Z)∧∃k,w=.slice (M.length+k) 0 X.length none∧(M++Z)[M.length+k]? =some (.cells true 4 (pnC X)):=by
 have N:aT prog 158=some f158:=by kernel_rfl
 obtain⟨b,U⟩:∃b,ah f158=[b]:=⟨_,rfl⟩
 have L:X.length=1:=by have:=H.l.1;simpa using this.symm
 obtain⟨w,K,⟨k,S,h3⟩,⟨Y,R⟩,G,V⟩:=yu H (by omega) U M.length;rw[L] at V;have D:=fun env d h=>(V env d h).1
 have C:=fun env d h=>(V env d h).2
 clear V;have Zw:∀s,(AV.str s).aei=true:=fun _=>rfl
 have B:∀k n,(AV.int k n).aei=true:=fun _ _=>rfl
 have ZI:∀b o n c,(AV.slice b o n c).aei=true:=fun _ _ _ _=>rfl
 have W:AV.qF.aei=true:=rfl;have J:cJ (aV prog) (fun _=>[23,23,23,8]) (aT prog) O 6 158 [.agg [.slice pb 0 P.length none,.slice tb 0 T.length none],.agg (c.cells (.slice fb 0 n0 none) u .qF kn),.int .i64 (j:Int)] M=some (.tuple [w,.int .i64 0],K):=by simp[ah,aG,f158] at U;subst U;unfold Evc.cells at*;simp[-getElem?_pos,-AV.aei,-AV.known,-AV.cells,-ee,-List.all_eq_true,vS,mS,cJ,N,f158,D,C]
 refine⟨w,[.cells true 0 [.slice pb 0 P.length none,.slice tb 0 T.length none],.cells true 0 (c.cells (.slice fb 0 n0 none) u .qF kn),.qK,.cells true 1 [.slice fb 0 n0 none]]++Y,?_,?_⟩
 ·rw[←List.append_assoc,←R];exact bY ai (aO _) I (aR _) J
 ·rw[←List.append_assoc,←R]
  rw[List.length_append,Nat.add_assoc] at S h3;exact⟨_,S,h3⟩
theorem Jp{o:Bool}(W:qS prog O)(hu:u.aei=true)(hn:kn.aei=true)(hc:M[cb]? =some (.cells o 1 vs))(hv:0<vs.length)(H:vs.length≤2)(I:vs.all AV.aei=true)(J:agz O (M++[.cells true 0 [.slice pb 0 P.length none,.slice tb 0 T.length none],.cells true 0 (c.cells (.slice fb 0 n0 none) u (.slice cb 0 vs.length none) kn),.qK,.cells true 1 (.slice fb 0 n0 none::vs)]) (.fn 236) (.fn 113) M.length (M.length+3) pb tb j P T t A (.slice fb 0 n0 none::vs) X):
  ∃w U,kO prog 158 [.agg [.slice pb 0 P.length none,.slice tb 0 T.length none],.agg (c.cells (.slice fb 0 n0 none) u (.slice cb 0 vs.length none) kn),.int .i64 (j:Int)] M (.tuple [w,.int .i64 0]) (M++U)∧∃k,w=.slice (M.length+k) 0 X.length none∧(M++U)[M.length+k]? =some (.cells true 4 (pnC X)):=by
 have C:aT prog 158=some f158:=by kernel_rfl
 obtain⟨b,R⟩:∃b,ah f158=[b]:=⟨_,rfl⟩
 have B:X.length=vs.length+1:=by have:=J.l.1;simpa using this.symm
 obtain⟨w,N',⟨k,N,h3⟩,⟨Y,L⟩,G,S⟩:=yu J (by omega) R M.length;rw[B] at S;have K:=fun env d h=>(S env d h).1
 have D:=fun env d h=>(S env d h).2
 clear S;have Zw:∀s,(AV.str s).aei=true:=fun _=>rfl
 have hci:∀k n,(AV.int k n).aei=true:=fun _ _=>rfl
 have ZI:∀b o n c,(AV.slice b o n c).aei=true:=fun _ _ _ _=>rfl
 have lc:=gL hc;have Z0:∀Z:Mem,(M++Z)[cb]? =some (.cells o 1 vs):=fun Z=>gU hc _
 obtain⟨n,V⟩:=xE vs.length;have tk:List.take n vs=vs:=List.take_of_length_le (by omega);rw[←V] at hv H;have w1:IntKind.i64.wrap ((n:Int)+1)=((n+1:Nat):Int):=by rw[af];omega
 have q1:(n+1)*24≤140737488355328∧(1+n)*24≤140737488355328:=by omega
 have q2:1+n≤140737488355328∧n≤140737488355327:=by omega
 have q3:1+n=n+1:=by omega
 have n0' :¬n=0:=by omega
 have XP:cJ (aV prog) (fun _=>[23,23,23,8]) (aT prog) O 6 158 [.agg [.slice pb 0 P.length none,.slice tb 0 T.length none],.agg (c.cells (.slice fb 0 n0 none) u (.slice cb 0 vs.length none) kn),.int .i64 (j:Int)] M=some (.tuple [w,.int .i64 0],N'):=by simp[ah,aG,f158] at R;subst R;unfold Evc.cells at*;rw[←V] at K D ⊢;simp[-getElem?_pos,-AV.aei,-AV.known,-AV.cells,-ee,-List.all_eq_true,vS,mS,cJ,C,f158,Z0,tk,←V,q1,q2,q3,I,K,D]
 refine⟨w,[.cells true 0 [.slice pb 0 P.length none,.slice tb 0 T.length none],.cells true 0 (c.cells (.slice fb 0 n0 none) u (.slice cb 0 vs.length none) kn),.qK,.cells true 1 (.slice fb 0 n0 none::vs)]++Y,?_,?_⟩
 ·rw[←List.append_assoc,←L];exact bY ai (aO _) W (aR _) XP
 ·rw[←List.append_assoc,←L]
  rw[List.length_append,Nat.add_assoc] at N h3;exact⟨_,N,h3⟩
end
end Go.Proofs
namespace Go.Eng
variable{P:Program}{args:List AV}
theorem kO.thin{f:FuncId}{m H m2:Mem}{v:AV}(h:kO P f args m v H)(I:m2.length=H.length)(hc:∀(b:Nat) s,m2[b]? =some s→H[b]? =some s∨s=.qK):kO P f args m v m2:=by
 refine⟨h.1,fun base μ w Vs hG hH hV=>(h.2 base μ w Vs hG hH hV).mono ?_⟩;rintro e w' ⟨V,v',m',μ',rfl,q1,q2,q3,rfl,rfl⟩;have X:∀{b:Nat},dQ m2 b→dQ m' b:=fun {b} ⟨s,h1,h2⟩=>by
  rcases hc b s h1 with h | rfl
  ·exact⟨s,h,h2⟩
  ·cases h2
 refine⟨V,v',m2,μ',rfl,by rw[I];exact q1,⟨q2.aep,fun b s Z=>?_,fun b U S Z O R N=>?_⟩,⟨by rw[I];exact q3.len,q3.agree,q3.os,q3.tape,q3.output,q3.size,q3.frame,fun b Z=>q3.owner b (X Z),q3.drawn⟩,rfl,rfl⟩
 ·rcases hc b s Z with h | rfl
  ·rw[I];exact q2.slot b s h
  ·trivial
 ·rcases hc U S O with h | rfl
  ·exact q2.sep b U S (X Z) h R N
  ·exact absurd rfl R
def afv(n k:Nat)(s:aek):Mem:=(List.replicate n .qK).set k s
theorem BW(n k:Nat)(s:aek):(afv n k s).length=n:=by simp[afv]
variable{k n:Nat}{s:aek}
theorem UM{x:aek}(h:x∈afv n k s):x=.qK∨x=s:=by
 unfold afv at h;rcases List.mem_or_eq_of_mem_set h with h | h
 ·exact .inl (List.eq_of_mem_replicate h)
 ·exact .inr h
theorem Ss(hk:k<n)(M:Mem):(M++afv n k s)[M.length+k]? =some s:=by rw[List.getElem?_append_right (by omega),Nat.add_sub_cancel_left];unfold afv;rw[List.getElem?_set_self (by simpa using hk)]
theorem kO.afv{f:FuncId}{M new:Mem}{v:AV}(h:kO P f args M v (M++new))(H:(M++new)[M.length+k]? =some s):k<new.length∧kO P f args M v (M++Go.Eng.afv new.length k s):=by
 have X:k<new.length:=by have:=gL H;rw[List.length_append] at this;omega
 refine⟨X,h.thin (by rw[List.length_append,List.length_append,BW]) fun b x Z=>?_⟩;by_cases V:b<M.length
 ·rw[List.getElem?_append_left V] at Z ⊢;exact .inl Z
 ·by_cases U:b=M.length+k
  ·subst U
   rw[Ss X] at Z;obtain rfl:=Option.some.inj Z;exact .inl H
  ·right
   rw[List.getElem?_append_right (by omega)] at Z;unfold Go.Eng.afv at Z;rw[List.getElem?_set_ne (by omega)] at Z;exact List.eq_of_mem_replicate (List.mem_of_getElem? Z)
end Go.Eng
namespace Go.Proofs
open Go.Eng
open Tryz
theorem UL{n k:Nat}{s:aek}(f:Nat→Bool)(h:s.own=true)(hr:s.aef f=true):((afv n k s).all fun s=>jW s&&s.aef f)=true:=by
 rw[List.all_eq_true];intro x Z;rcases UM Z with rfl | rfl
 ·rfl
 ·rw[hr,Bool.and_true];cases x<;>simp_all[jW,aek.own]
theorem LR(a b c:List UInt8)(M:Mem):kO prog 200 [.agg [.str a,.str b,.str c]] M (.agg [.str a,.str b,.str c]) M:=by
 have Z:aT prog 200=some f200:=by kernel_rfl
 refine ak (az _) ?_ M;simp[aa,Z,f200,bJ]
noncomputable def Fi(f:FuncId)(args:List AV):Option AV:=
 match f,args with
 |200,[.agg [.str a,.str b,.str c]]=>some (.agg [.str a,.str b,.str c])
 |f,args=>aE f args
theorem Pd:qS prog (ag Fi):=bM fun f Z v h mem=>by
 unfold Fi at h;split at h
 ·cases h;exact LR _ _ _ mem
 ·have:=bK.fn _ _ mem ⟨v,none,[]⟩ (by unfold ag;simp only;rw[h])
  simpa [aee.mem] using this
theorem LQ(a b:V3)(h:vF a∧vF b)(M:Mem):kO prog 116 [vA a,vA b,.func 82 []] M (vA (a.1*b.1,a.2.1*b.2.1,a.2.2*b.2.2)) M:=by
 have G:aT prog 116=some f116:=by kernel_rfl
 obtain⟨j,Y,W⟩:=a;obtain⟨J,I,H⟩:=b;obtain⟨⟨⟨f1,f2⟩,⟨f3,f4⟩,f5,f6⟩,⟨V,U⟩,⟨g3,S⟩,R,O⟩:=h;simp only at f1 f2 f3 f4 f5 f6 V U g3 S R O;refine cE Pd (lv:=ae) (K:=5) rfl rfl ?_ M;obtain⟨N,L,Z⟩:∃N L,aJ f116=[N,L]:=⟨_,_,rfl⟩
 obtain⟨F,X⟩:=vE Z (l:=[0,1,0,7,0,0,63,127]) (l' :=[0,0,0,4,12,0,32,96,254,511,1023]) (by kernel_rfl);have D:fc [0,0,0,4,12,0,32,96,254,511,1023] 10=true:=by decide
 have C:∀es B,jW (.cells true es B)=true:=fun _ _=>rfl
 have A:oU .qK=true:=rfl;have u:IntKind.i64.wrap 1=1:=rfl;have o:IntKind.i64.wrap 2=2:=rfl;have m:IntKind.i64.wrap 3=3:=rfl;simp[aJ,bR,f116] at Z;obtain⟨rfl,rfl⟩:=Z;simp[aa,G,f116,ag,Fi,aE,aH,ar,f1,f2,f3,f4,f5,f6,V,U,g3,S,R,O,vA,C,A,u,o,m,bh,fy,-aK,bd F,ao X,br,bk,bl,D,bZ,du,oP,ef,cw,cM,gQ,bef,Nat.testBit]
theorem LP(a b:V3)(h:kM a b)(M:Mem):kO prog 62 [vA a,vA b] M (.str (aj (dj a b))) M:=by
 have m:aT prog 62=some f62:=by kernel_rfl
 have F:=fun M=>LQ a b ⟨h.1,h.2.1⟩ M
 obtain⟨Z,X,V⟩:=a;obtain⟨U,S,R⟩:=b;have D:=h.2.2;have C:Ae [Z*U,X*S,V*R] 0=dj (Z,X,V) (U,S,R):=by simp[Ae,Rat.zero_add,dj]
 simp only at D F;obtain⟨x,j⟩:=xE (Z*U);obtain⟨y,Y⟩:=xE (X*S);obtain⟨z,N⟩:=xE (V*R);obtain⟨w,W⟩:=xE (dj (Z,X,V) (U,S,R));rw[←j,←Y,←N] at D C F;rw[←W] at C ⊢;have hS:=Du (es:=0) (r:=some 3) [x,y,z] D (by simp);rw[C] at hS;obtain⟨L,G⟩:=xE (α:=List (FuncId×List AV×(Mem→Prop)×aee)) [(116,[vA (Z,X,V),vA (U,S,R),.func 82 []],(fun _=>True),⟨vA (x,y,z),none,[]⟩),(117,[.slice 2 0 3 (some 3)],(fun M=>M[2]? =some (.cells true 0 [.str (aj x),.str (aj y),.str (aj z)])),⟨.str (aj w),none,[]⟩)];have u:qS prog (dy L):=lO fun z N M B=>by
  rw[G] at N;simp only[lM] at N;rcases N with rfl | rfl
  ·exact aW (F M)
  ·have B:M[2]? =_:=B
   exact aW (aff (rest:=[]) (Ch _) rfl rfl B rfl hS)
 have A:∀M,dy L (.fn 116) [vA (Z,X,V),vA (U,S,R),.func 82 []] M=some ⟨vA (x,y,z),none,[]⟩:=fun M=>by rw[G];exact cr trivial
 have o:∀M:Mem,M[2]? =some (.cells true 0 [.str (aj x),.str (aj y),.str (aj z)])→dy L (.fn 117) [.slice 2 0 3 (some 3)] M=some ⟨.str (aj w),none,[]⟩:=fun M J=>by rw[G,aB (.inl (by decide))];exact cr J
 obtain⟨O,K⟩:=xE (dy L);rw[←K] at u A o;clear K G;refine ak u ?_ M;unfold vA at A;simp[aa,m,f62,vA,A,o]
variable{q:Rat}
section
variable (h:(au q.num.natAbs).length≤200∧(au q.den).length≤200)
include h
theorem LS(M:Mem):kO prog 115 [.str (aj q)] M (.bool false) M:=by
 have X:aT prog 115=some f115:=by kernel_rfl
 have V:qS prog (ag (dx [(131,[.str (aj q)],.tuple [.str (bL q.num),.str (au q.den)]),(199,[.str (bL q.num)],.str (au q.num.natAbs))])):=eG fun e Z M=>by
  simp only[lM] at Z;rcases Z with rfl | rfl
  ·exact As q (jt ⟨by omega,by omega⟩) M
  ·exact QH _ M
 refine ak V ?_ M;obtain⟨R,O⟩:=h;have U:¬(200:Int)<((au q.num.natAbs).length:Int):=by omega
 have S:¬(200:Int)<((au q.den).length:Int):=by omega
 simp[aa,X,f115,dx,ag,U,S]
theorem EF(M:Mem):kO prog 61 [.str (aj q)] M (.tuple [.str (aj q),.int .i64 0]) M:=by
 have X:aT prog 61=some f61:=by kernel_rfl
 have V:qS prog (ag (dx [(115,[.str (aj q)],.bool false)])):=eG fun e Z M=>by simp only[lM] at Z;rw[Z];exact LS h M
 refine ak V ?_ M;simp[aa,X,f61,dx,ag]
end
theorem CG(a b:V3)(H:vC a)(I:vC b):kO prog 60 [.slice 0 0 2 none] [.cells false 3 [.str (aj a.1),.str (aj a.2.1),.str (aj a.2.2),.str (aj b.1),.str (aj b.2.1),.str (aj b.2.2)]] (.int .i64 0) [.cells false 3 [.str (aj a.1),.str (aj a.2.1),.str (aj a.2.2),.str (aj b.1),.str (aj b.2.1),.str (aj b.2.2)]]:=by
 have X:aT prog 60=some f60:=by kernel_rfl
 have V:qS prog (ag (dx [(70,[vA a],.int .i64 0),(70,[vA b],.int .i64 0)])):=eG fun e Z M=>by
  simp only[lM] at Z;rcases Z with rfl | rfl
  ·exact nM H M
  ·exact nM I M
 clear H I;refine ca (lv:=(fun _=>[8])) (K:=4) V ?_;have U:IntKind.i64.wrap 1=1:=rfl;have S:IntKind.i64.wrap 2=2:=rfl;obtain⟨R,O,N⟩:=a;obtain⟨L,G,F⟩:=b;simp[aa,X,f60,dx,ag,vA,U,S,bh,fy]
theorem Dv(a b:V3)(H:vC a)(I:vC b)(h:kM a b)(J:(au (dj a b).num.natAbs).length≤200∧(au (dj a b).den).length≤200)(M:Mem):kO prog 22 [vA a,vA b] M (.tuple [.str (aj (dj a b)),.int .i64 0]) M:=by
 have j:aT prog 22=some f22:=by kernel_rfl
 have hV:=CG a b H I;have G:=fun M=>LP a b h M
 have F:=fun M=>EF J M
 clear H I h J;obtain⟨w,Y⟩:=xE (dj a b);rw[←Y] at G F ⊢;obtain⟨Z,X,V⟩:=a;obtain⟨U,S,R⟩:=b;obtain⟨L,N⟩:=xE (α:=List (FuncId×List AV×(Mem→Prop)×aee)) [(60,[.slice 2 0 2 none],(fun M=>∃o,M[2]? =some (.cells o 3 [.str (aj Z),.str (aj X),.str (aj V),.str (aj U),.str (aj S),.str (aj R)])),⟨.int .i64 0,none,[]⟩),(62,[vA (Z,X,V),vA (U,S,R)],(fun _=>True),⟨.str (aj w),none,[]⟩),(61,[.str (aj w)],(fun _=>True),⟨.tuple [.str (aj w),.int .i64 0],none,[]⟩)];have A:qS prog (dy L):=lO fun z D M C=>by
  rw[N] at D;simp only[lM] at D;rcases D with rfl | rfl | rfl
  ·obtain⟨o,C⟩:=C
   exact aW (aff (rest:=[]) (cs:=[.str (aj Z),.str (aj X),.str (aj V),.str (aj U),.str (aj S),.str (aj R)]) rfl rfl rfl C rfl hV)
  ·exact aW (G M)
  ·exact aW (F M)
 have u:∀(M:Mem) o,M[2]? =some (.cells o 3 [.str (aj Z),.str (aj X),.str (aj V),.str (aj U),.str (aj S),.str (aj R)])→dy L (.fn 60) [.slice 2 0 2 none] M=some ⟨.int .i64 0,none,[]⟩:=fun M o W=>by rw[N];exact cr ⟨o,W⟩
 have B:∀M,dy L (.fn 62) [vA (Z,X,V),vA (U,S,R)] M=some ⟨.str (aj w),none,[]⟩:=fun M=>by rw[N,aB (.inl (by decide))];exact cr trivial
 have m:∀M,dy L (.fn 61) [.str (aj w)] M=some ⟨.tuple [.str (aj w),.int .i64 0],none,[]⟩:=fun M=>by rw[N,aB (.inl (by decide)),aB (.inl (by decide))];exact cr trivial
 obtain⟨O,K⟩:=xE (dy L);rw[←K] at A u B m;clear K N hV G F;refine ak A ?_ M;unfold vA at B;simp[aa,j,f22,vA,u,B,m]
end Go.Proofs
