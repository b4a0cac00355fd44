/- See F54. -/
import Derived.Test.YtgafjliihahjgaaGreatDoorF44
set_option linter.all false
set_option maxRecDepth 100000
set_option maxHeartbeats 40000000
namespace Go.Proofs
open Go.Eng
open Tryz
theorem H6(a b c:P2)(h:Xk a b c)(M:Mem):kO prog 159 [pA a,pA b,pA c] M (.str (ak (bU a b c))) M:=by
 have A:aK prog 159=some f159:=by kernel_rfl
 obtain⟨u,m⟩:=a;obtain⟨b1,b2⟩:=b;obtain⟨c1,c2⟩:=c;obtain⟨⟨⟨j,Y⟩,⟨R,I⟩,r1,r2⟩,⟨K,J,F,D⟩,t1,t2⟩:=h;unfold bU;simp only at j Y R I r1 r2 K J F D t1 t2 ⊢;obtain⟨x1,W⟩:=xE (b1-u);obtain⟨x2,V⟩:=xE (c2-m);obtain⟨x3,S⟩:=xE (b2-m);obtain⟨x4,O⟩:=xE (c1-u);simp only[←W,←V,←S,←O] at K J F D t1 t2 ⊢;obtain⟨y1,Z⟩:=xE (x1*x2);obtain⟨y2,X⟩:=xE (x3*x4);rw[←Z] at t1;rw[←X] at t2;rw[←Z,←X];unfold aeZ at*;refine aA bj ?_ M;obtain⟨H,G,C⟩:∃H G,aC f159=[H,G]:=⟨_,_,rfl⟩
 obtain⟨B,z⟩:=BW C (l:=[0,1,0,4,15,0,32,0,128,511,1023,2047]) (l' :=[0,0,2,0,8,30,0,64,0,256,1022,2046,4095,8191]) (by kernel_rfl);have k1:ba [0,1,0,4,15,0,32,0,128,511,1023,2047] 11=true:=by decide
 have k2:ba [0,0,2,0,8,30,0,64,0,256,1022,2046,4095,8191] 13=true:=by decide
 simp[aC,bn,f159] at C;obtain⟨rfl,rfl⟩:=C;simp[aa,A,f159,-aB,ag B,ag z,aS,aO,aP,k1,k2,pA,ao,af,aj,az,j,Y,R,I,r1,r2,K,J,F,D,t1,t2,←W,←V,←S,←O,←Z,←X,Nat.testBit]
theorem H7(a b c:P2)(h:Xk a b c)(M:Mem):kO prog 106 [pA a,pA b,pA c] M (.int .i64 (jV (bU a b c))) M:=by
 have X:aK prog 106=some f106:=by kernel_rfl
 have Z:HS prog (aeT.or (bT 159 [pA a,pA b,pA c] (.str (ak (bU a b c))) (fun _=>True)) (af aj)):=HS.or (cf fun N _=>H6 a b c h N) bj;obtain⟨y,W⟩:=xE (bU a b c);rw[←W] at Z ⊢;refine aA Z ?_ M;simp[aa,X,f106,aeT.or,bT,pA,ao,af,aj,az,bB,aX]
open Classical in
noncomputable def vB(f:FuncId)(args:List AV):Option AV:=
 match f,args with
 |106,[.agg [.str a,.str b],.agg [.str c,.str d],.agg [.str e,.str g]]=>match dC a,dC b,dC c,dC d,dC e,dC g with
  |some x,some y,some z,some w,some u,some v=>if Xk (x,y) (z,w) (u,v) then some (.int .i64 (jV (bU (x,y) (z,w) (u,v)))) else none
  |_,_,_,_,_,_=>none
 |_,_=>none
theorem Rl:HS prog (af vB):=bH fun f Z v h mem=>by
 unfold vB at h;split at h
 ·split at h
  ·rename_i x y z w u v X W h3 V S O
   split at h
   ·rename_i hc
    cases h;rw[aw X,aw W,aw h3,aw V,aw S,aw O];exact H7 (x,y) (z,w) (u,v) hc mem
   ·cases h
  ·cases h
 ·cases h
def EX(A B C:P2):AV:=.agg [.str (ak A.1),.str (ak A.2),.str (ak B.1),.str (ak B.2),.str (ak C.1),.str (ak C.2)]
theorem Fh(A B C q:P2)(h:MF A B C q)(M:Mem):kO prog 282 [EX A B C,pA q] M (.bool (decide (inQ (nV A B C q)))) M:=by
 have V:aK prog 282=some f282:=by kernel_rfl
 obtain⟨O,F,h3⟩:=h;obtain⟨a,b⟩:=A;obtain⟨c,d⟩:=B;obtain⟨e,f⟩:=C;obtain⟨u,v⟩:=q;have K:decide (inQ (nV (a,b) (c,d) (e,f) (u,v)))=decide (0≤jV (bU (c,d) (e,f) (u,v))∧0≤jV (bU (e,f) (a,b) (u,v))∧0≤jV (bU (a,b) (c,d) (u,v))):=decide_eq_decide.2 Iff.rfl;rw[K];clear K;obtain⟨D,X⟩:=xE (jV (bU (c,d) (e,f) (u,v)));obtain⟨z,W⟩:=xE (jV (bU (e,f) (a,b) (u,v)));obtain⟨m,Z⟩:=xE (jV (bU (a,b) (c,d) (u,v)));rw[←X,←W,←Z];refine aA Rl ?_ M;by_cases S:0≤m
 ·by_cases J:0≤D
  ·by_cases j:0≤z<;>simp[aa,V,f282,af,vB,EX,pA,ao,O,F,h3,←X,←W,←Z,J,j,S]
  ·simp[aa,V,f282,af,vB,EX,pA,ao,O,h3,←X,←Z,J,S]
 ·simp[aa,V,f282,af,vB,EX,pA,ao,h3,←Z,S]
section
variable {P:List P2}{T:List Tr}{t:Tr}{A B C:P2}{i:Nat}
theorem AR(R:T[i]? =some t)(G:P[t.1]? =some A)(H:P[t.2.1]? =some B)(I:P[t.2.2]? =some C){M:Mem}{pb tb:Nat}{o1 o2:Bool}(m1:M[pb]? =some (.cells o1 2 (pC P)))(Y:M[tb]? =some (.cells o2 3 (tC T))):
  kO prog 163 [.agg [.slice pb 0 P.length none,.slice tb 0 T.length none],.int .i64 (i:Int)] M (EX A B C) M:=by
 have K:aK prog 163=some f163:=by kernel_rfl
 obtain⟨O,J⟩:=Ph R;have W:=gL R;obtain⟨i1,i2,i3⟩:=t;simp only at G H I O;obtain⟨F,-,-,D⟩:=wm G;obtain⟨z,-,-,u⟩:=wm H;obtain⟨r1,-,-,r4⟩:=wm I;have a1:=gL G;have a2:=gL H;have a3:=gL I;obtain⟨Z,V⟩:∃Z,aC f163=[Z]:=⟨_,rfl⟩
 obtain⟨I',S⟩:=dj V (l:=[0,1,0,4,15,31,0,64,0,256,960,1984,0,4096,0,16384,61440,126976,262143,524287]) (j:=19) (by kernel_rfl) (by decide);simp[aC,bn,f163] at V;subst V;have h:aa (aN prog) (fun _=>[]) (aK prog) bM 1 163 [.agg [.slice 0 0 P.length none,.slice 1 0 T.length none],.int .i64 (i:Int)] [.cells false 2 (pC P),.cells false 3 (tC T)]=some ⟨EX A B C,none,[]⟩:=by simp[aa,K,f163,W,O,J,a1,a2,a3,F,z,r1,D,u,r4,EX,-aB,ag I',aS,aO,aP,S,bW]
 have h2:=(ah ae (ar _) (al _) (au _) h).1;have l1:=gL m1;have l2:=gL Y;have:=kO.frame (M:=M) (new:=[]) (args:=[.agg [.slice 0 0 P.length none,.slice 1 0 T.length none],.int .i64 (i:Int)]) [pb,tb] (m:=[.cells false 2 (pC P),.cells false 3 (tC T)]) rfl (by simp[l1,l2]) (by rfl) (fun j s X=>by
  match j with
  |0=>simp at X;subst X;exact bu (dA P) m1 List.take_length
  |1=>simp at X;subst X;exact bu (dV T) Y List.take_length
  |j+2=>simp at X) rfl (by simpa [aeQ.mem] using h2)
 simpa [AV.ae3,AV.ren,dL,EX] using this
end
def pj(P:List P2)(q:P2):List Tr→Nat→List Int
 | [],_=>[]
 |t::l,i=>if inQ (uT P q t) then (i:Int)::pj P q l (i+1) else pj P q l (i+1)
theorem Ev{P:List P2}{q:P2}:∀{T:List Tr} {k:Nat},match MO P q T k with
  |none=>pj P q T k=[]
  |some (j,_)=>∃l,pj P q T k=(j:Int)::l
 | [],k=>by simp[MO,pj]
 |t::r,k=>by
  rw[MO,pj];by_cases h:inQ (uT P q t)
  ·rw[if_pos h,if_pos h];exact⟨_,rfl⟩
  ·rw[if_neg h,if_neg h];exact Ev (T:=r)
def ZS(N:Mem)(pv:AV)(L:List AV)(A:Mem):Prop:=(pv=.y9∧L=[]∧A=N)∨∃b,pv=.slice b 0 L.length none∧N[b]? =some (.cells true 1 L)∧A=N.set b .aeP
section
variable {O:aeT}{N N1:Mem}{pv tv w:AV}{n i bm bp:Nat}{q A B C:P2}{L:List AV}
theorem KL:(aC f252).map (fun o=>dB o.toList)=[[0,0,3,0,15]]:=by kernel_rfl
theorem KM{b:Code}(I:ai f252=[b])(cp:pv.aeS=true∧tv.aeS=true)(kn:pv.known=true∧tv.known=true)(rf:pv.aeR (fun b=>decide (b<N.length))=true∧tv.aeR (fun b=>decide (b<N.length))=true)(hi:i<n)(hn:n≤1000)(hL:L.length≤1000)(R:N[bm]? =some (.cells true 0 [pv,tv]))(hp:N[bp]? =some (.cells true 0 [.str (ak q.1),.str (ak q.2)]))(hg:ZS N w L N1)(eC:O (.fn 163) [.agg [pv,tv],.int .i64 (i:Int)] N=some ⟨EX A B C,none,[]⟩){g:Bool}(eI:O (.fn 282) [EX A B C,pA q] N=some ⟨.bool g,none,[]⟩){env:Env}(l2:ad env 2=.ptr bm 0)(l3:ad env 3=.ptr bp 0)(l7:ad env 7=w)(G:ad env 19=.int .i64 (n:Int))(H:ad env 20=.int .i64 (i:Int))(m0:Nat)(d:Bool):
  ∃X,aM (aN prog) (fun _=>[20,20,20,7]) O 1100 34 m0 true b ⟨env,N,d⟩=some (.normal,X)∧ad X.env 20=.int .i64 ((i+1:Nat):Int)∧ad X.env 7=(if g then .slice (N.length+1) 0 (L.length+1) none else w)∧X.mem=(if g then N1++[.cells true 1 [.int .i64 (i:Int)],.cells true 1 (L++[.int .i64 (i:Int)])] else N):=by
 obtain⟨Z,S⟩:∃Z,aC f252=Z :=⟨_,rfl⟩
 have W :=be S KL;simp only[aC,bn,f252,List.nil_append,List.append_nil] at S;subst S;simp only[lB] at W;simp[ai,aG,f252] at I;subst I;have u:=gL R;have m:=gL hp;obtain⟨j,c2⟩:=cp;obtain⟨k1,k2⟩:=kn;obtain⟨r1,r2⟩:=rf;have V:IntKind.i64.wrap ((i:Int)+1)=((i+1:Nat):Int):=by rw[aq];omega
 obtain⟨m1,M⟩:=xE (i+1);rw[←M] at V ⊢;have K:(L.length+1)*8≤140737488355328:=by omega
 have J:L.length+1≤140737488355328:=by omega
 unfold EX pA at*;cases g
 ·simp[-getElem?_pos,-AV.aeS,-AV.known,-AV.cells,-bL,-List.all_eq_true,rS,mS,l2,l3,l7,G,H,hi,R,hp,eC,eI,V,r1,r2,-bl,-aW,-aB,-AV.aeR,-aeY.aeR,aF W,bX,bK,dH,cj,bR,gd,bef,Nat.testBit]
 ·rcases hg with⟨rfl,rfl,rfl⟩ | ⟨b,rfl,I,rfl⟩
  ·simp[-getElem?_pos,-AV.aeS,-AV.known,-AV.cells,-bL,-List.all_eq_true,vS,rS,mS,l2,l3,l7,G,H,hi,R,hp,eC,eI,V,r1,r2,-bl,-aW,-aB,-AV.aeR,-aeY.aeR,aF W,bX,bK,dH,cj,bR,gd,bef,Nat.testBit]
  ·have F:=gL I
   have D:∀Y:Mem,(N++Y)[b]? =some (.cells true 1 L):=fun Y=>gU I _
   have z:∀Y:Mem,(N++Y).set b .aeP=N.set b .aeP++Y:=fun Y=>List.set_append_left _ _ F
   have z3:∀Y:Mem,(N.set b .aeP++Y)[N.length]? =Y[0]? :=fun Y=>by have:=jU (N.set b .aeP) Y;rwa [List.length_set] at this
   simp[-getElem?_pos,-AV.aeS,-AV.known,-AV.cells,-bL,-List.all_eq_true,vS,rS,mS,l2,l3,l7,G,H,hi,R,hp,eC,eI,V,r1,r2,K,J,D,z,-bl,-aW,-aB,-AV.aeR,-aeY.aeR,aF W,bX,bK,dH,cj,bR,gd,bef,Nat.testBit]
end
def xz(N:Mem):AV→List AV
 |.slice b _ _ _=>match N[b]? with
  |some (.cells _ _ cs)=>cs
  |_=>[]
 |_=>[]
def LV(N:Mem):AV→Mem
 |.slice b _ _ _=>N.set b .aeP
 |_=>N
def jM(N:Mem)(w:AV)(i:Nat):Mem×AV:=(LV N w++[.cells true 1 [.int .i64 (i:Int)],.cells true 1 (xz N w++[.int .i64 (i:Int)])],.slice (N.length+1) 0 ((xz N w).length+1) none)
def GX(P:List P2)(q:P2):List Tr→Nat→Mem→AV→Mem×AV
 | [],_,N,w=>(N,w)
 |t::l,i,N,w=>if inQ (uT P q t) then GX P q l (i+1) (jM N w i).1 (jM N w i).2 else GX P q l (i+1) N w
structure LmI (P:List P2)(T:List Tr)(q:P2)(M N:Mem)(pb tb bm bp:Nat)(w:AV)(L:List AV):Prop where
 p:∃o,N[pb]? =some (.cells o 2 (pC P))
 t:∃o,N[tb]? =some (.cells o 3 (tC T))
 m:N[bm]? =some (.cells true 0 [.slice pb 0 P.length none,.slice tb 0 T.length none])
 v:N[bp]? =some (.cells true 0 [.str (ak q.1),.str (ak q.2)])
 e:∃Y,N=M++Y
 g:ZS N w L (LV N w)
 r:xz N w=L
 b:∀b n,w=.slice b 0 n none→M.length≤b
 z:w=.y9∨L≠[]
section
variable {P:List P2}{T:List Tr}{q:P2}{M N:Mem}{pb tb bm bp i:Nat}{w:AV}{L:List AV}
theorem LmI.next(H:LmI P T q M N pb tb bm bp w L)(i:Nat):LmI P T q M (jM N w i).1 pb tb bm bp (jM N w i).2 (L++[.int .i64 (i:Int)]):=by
 have O:(LV N w).length=N.length:=by unfold LV;split<;>simp
 have afI:∀(b:Nat) o es C,es≠1→N[b]? =some (.cells o es C)→(jM N w i).1[b]? =some (.cells o es C):=fun b o es C he X=>by
  have K:=gL X;unfold jM;simp only;rw[List.getElem?_append_left (by omega)];rcases H.g with⟨Z,_,_⟩ | ⟨c,Z,V,_⟩
  ·rw[Z];exact X
  ·rw[Z]
   show(N.set c .aeP)[b]? =_
   rw[List.getElem?_set_ne (fun e=>by subst e;rw[V] at X;cases X;exact he rfl)];exact X
 have S:=H.r;have row:(jM N w i).1[N.length+1]? =some (.cells true 1 (L++[.int .i64 (i:Int)])):=by unfold jM;simp only;rw[List.getElem?_append_right (by omega),O,Nat.add_sub_cancel_left,S];rfl
 refine⟨?_,?_,afI _ _ _ _ (by decide) H.m,afI _ _ _ _ (by decide) H.v,?_,.inr ⟨N.length+1,?_,row,rfl⟩,?_,?_,.inr (by simp)⟩
 ·obtain⟨o,h⟩:=H.p;exact⟨o,afI _ _ _ _ (by decide) h⟩
 ·obtain⟨o,h⟩:=H.t;exact⟨o,afI _ _ _ _ (by decide) h⟩
 ·obtain⟨Y,W⟩:=H.e
  rcases H.g with⟨Z,_,_⟩ | ⟨c,Z,V,_⟩
  ·exact⟨Y++[.cells true 1 [.int .i64 (i:Int)],.cells true 1 (xz N w++[.int .i64 (i:Int)])],by unfold jM;simp only;rw[Z];show N++_=_;rw[W,List.append_assoc]⟩
  ·have X:=H.b c _ Z
   obtain⟨k,rfl⟩:∃k,c=M.length+k:=⟨c-M.length,by omega⟩
   exact⟨Y.set k .aeP++[.cells true 1 [.int .i64 (i:Int)],.cells true 1 (xz N w++[.int .i64 (i:Int)])],by unfold jM;simp only;rw[Z];show N.set (M.length+k) .aeP++_=_;rw[W,G4,List.append_assoc]⟩
 ·unfold jM;simp[S]
 ·show xz (jM N w i).1 (.slice (N.length+1) 0 _ none)=_
  simp only[xz,row]
 ·intro b n h
  obtain⟨Y,W⟩:=H.e;unfold jM at h;simp only[AV.slice.injEq] at h;obtain⟨rfl,_⟩:=h;rw[W,List.length_append];omega
theorem GY:∀(l:List Tr) (i:Nat) (N:Mem) (w:AV) (L:List AV),LmI P T q M N pb tb bm bp w L→LmI P T q M (GX P q l i N w).1 pb tb bm bp (GX P q l i N w).2 (L++(pj P q l i).map fun n=>.int .i64 n)
 | [],i,N,w,L,H=>by show LmI P T q M N pb tb bm bp w (L++[]);rw[List.append_nil];exact H
 |t::l,i,N,w,L,H=>by
  rw[GX,pj];by_cases h:inQ (uT P q t)
  ·rw[if_pos h,if_pos h]
   have:=GY l (i+1) _ _ _ (H.next i);simpa using this
  ·rw[if_neg h,if_neg h]
   exact GY l (i+1) N w L H
variable {O:aeT}
theorem yf{b:Code}(G:ai f252=[b])(A env:Env):ad (aD [20,20,20,7] (ab b) A env) 20=ad env 20∧ad (aD [20,20,20,7] (ab b) A env) 7=ad env 7∧ad (aD [20,20,20,7] (ab b) A env) 2=ad A 2∧ad (aD [20,20,20,7] (ab b) A env) 3=ad A 3∧ad (aD [20,20,20,7] (ab b) A env) 19=ad A 19:=by simp[ai,aG,f252] at G;subst G;simp[aD]
theorem N6{b:Code}(H:ai f252=[b]){n:Nat}{env:Env}(A:ad env 19=.int .i64 (n:Int))(G:ad env 20=.int .i64 (n:Int))(m0:Nat)(d:Bool):
  ∃Z,aM (aN prog) (fun _=>[20,20,20,7]) O 1100 34 m0 true b ⟨env,N,d⟩=some (.exit 0,⟨Z,N,d⟩)∧ad Z 7=ad env 7:=by
 simp[ai,aG,f252] at H;subst H;simp[A,G]
theorem qI{b:Code}(R:ai f252=[b])(Y:ahd P T q)
  (hC:∀(N:Mem) (i:Nat) t A B C,T[i]? =some t→P[t.1]? =some A→P[t.2.1]? =some B→P[t.2.2]? =some C→(∃o,N[pb]? =some (.cells o 2 (pC P)))→(∃o,N[tb]? =some (.cells o 3 (tC T)))→O (.fn 163) [.agg [.slice pb 0 P.length none,.slice tb 0 T.length none],.int .i64 (i:Int)] N=some ⟨EX A B C,none,[]⟩)
  (hI:∀(N:Mem) A B C,MF A B C q→O (.fn 282) [EX A B C,pA q] N=some ⟨.bool (decide (inQ (nV A B C q))),none,[]⟩)
  {G:Env}(l2:ad G 2=.ptr bm 0) (l3:ad G 3=.ptr bp 0) (I:ad G 19=.int .i64 (T.length:Int)) (m1 m0:Nat):
  ∀(k i:Nat) (N:Mem) (w:AV) (L:List AV) (env:Env) (d:Bool) (K:Nat),i+k=T.length→k<K→LmI P T q M N pb tb bm bp w L→L.length≤i→ad env 20=.int .i64 (i:Int)→ad env 7=w→
   ∃r:Env×Bool,er [20,20,20,7] (ab b) G m1 (aM (aN prog) (fun _=>[20,20,20,7]) O 1100 34 m0 true b) K ⟨aD [20,20,20,7] (ab b) G env,N,d⟩=some (.exit 0,⟨r.1,(GX P q (T.drop i) i N w).1,r.2⟩)∧ad r.1 7=(GX P q (T.drop i) i N w).2
 |0,i,N,w,L,env,d,K,hk,hK,H,hL,h20,h7=>by
  obtain⟨K,rfl⟩:∃k,K=k+1:=⟨K-1,by omega⟩
  obtain rfl:i=T.length:=by omega
  obtain⟨S,J,j,q4,F⟩:=yf R G env;obtain⟨AC,h1,h2⟩:=N6 (O:=O) (N:=N) R (env:=aD [20,20,20,7] (ab b) G env) (by rw[F];exact I) (by rw[S];exact h20) m0 d;rw[List.drop_length];exact⟨(AC,d),by rw[er,h1];rfl,by rw[h2,J];exact h7⟩
 |k+1,i,N,w,L,env,d,K,hk,hK,H,hL,h20,h7=>by
  obtain⟨K,rfl⟩:∃k,K=k+1:=⟨K-1,by omega⟩
  obtain⟨S,J,j,q4,F⟩:=yf R G env;obtain⟨t,D⟩:∃t,T[i]? =some t:=⟨_,List.getElem?_eq_getElem (by omega)⟩
  obtain⟨A,B,C,hA,hB,W,z⟩:=Y.tri i t D;have u:=Y.hl.2;have ed:T.drop i=t::T.drop (i+1):=by obtain⟨FS,e⟩:=List.getElem?_eq_some_iff.1 D;rw[List.drop_eq_getElem_cons FS,e]
  have et:uT P q t=nV A B C q:=by unfold uT;simp[List.getD,hA,hB,W]
  have hp:=H.p;have V:=H.t;have lp:pb<N.length:=by obtain⟨o,h⟩:=hp;exact(gL h)
  have lt:tb<N.length:=by obtain⟨o,h⟩:=V;exact(gL h)
  obtain⟨Z,t1,t2,t3,t4⟩:=KM (O:=O) (n:=T.length) (i:=i) R ⟨rfl,rfl⟩ ⟨rfl,rfl⟩ ⟨by simp only[AV.aeR,decide_eq_true_eq];exact lp,by simp only[AV.aeR,decide_eq_true_eq];exact lt⟩ (by omega) u (by omega) H.m H.v H.g (hC N i t A B C D hA hB W hp V) (hI N A B C z)
   (env:=aD [20,20,20,7] (ab b) G env) (by rw[j];exact l2) (by rw[q4];exact l3) (by rw[J];exact h7) (by rw[F];exact I) (by rw[S];exact h20) m0 d
  rw[ed,GX,et];rw[er,t1];simp only;have hs:ic [20,20,20,7] (ab b) G m1 Z =⟨aD [20,20,20,7] (ab b) G Z.env,Z.mem,Z.ae9⟩:=by simp[ic,jE]
  rw[hs];by_cases X:inQ (nV A B C q)
  ·rw[if_pos X]
   rw[decide_eq_true X,if_pos rfl] at t3 t4;have hr:=H.r;have e1:Z.mem=(jM N w i).1:=by rw[t4];unfold jM;rw[hr]
   have e2:ad Z.env 7=(jM N w i).2:=by rw[t3];unfold jM;rw[hr]
   rw[e1];exact qI R Y hC hI l2 l3 I m1 m0 k (i+1) _ _ _ Z.env Z.ae9 K (by omega) (by omega) (H.next i) (by simp;omega) t2 e2
  ·rw[if_neg X]
   rw[decide_eq_false X,if_neg (by decide)] at t3 t4;rw[t4];exact qI R Y hC hI l2 l3 I m1 m0 k (i+1) N w L Z.env Z.ae9 K (by omega) (by omega) H (by omega) t2 t3
end
def rW(P:List P2)(T:List Tr)(q:P2)(pb tb:Nat)(c:Go.Eng.Callee)(a:List AV)(N:Mem)(r:aeQ):Prop:=
 (c=.fn 59∧a=[.agg [.slice pb 0 P.length none,.slice tb 0 T.length none]]∧(∃o,N[pb]? =some (.cells o 2 (pC P)))∧(∃o,N[tb]? =some (.cells o 3 (tC T)))∧r=⟨.int .i64 0,none,[]⟩)∨
 (c=.fn 105∧a=[pA q]∧r=⟨.int .i64 0,none,[]⟩)∨
 (∃(i:Nat) (t:Tr) (A B C:P2),c=.fn 163∧a=[.agg [.slice pb 0 P.length none,.slice tb 0 T.length none],.int .i64 (i:Int)]∧T[i]? =some t∧(P[t.1]? =some A∧P[t.2.1]? =some B∧P[t.2.2]? =some C)∧(∃o,N[pb]? =some (.cells o 2 (pC P)))∧(∃o,N[tb]? =some (.cells o 3 (tC T)))∧r=⟨EX A B C,none,[]⟩)∨
 (∃A B C:P2,c=.fn 282∧a=[EX A B C,pA q]∧MF A B C q∧r=⟨.bool (decide (inQ (nV A B C q))),none,[]⟩)
variable{M N:Mem}
section
variable {P:List P2}{T:List Tr}{q:P2}{pb tb:Nat}
theorem mA{c:Go.Eng.Callee}{a:List AV}{r r' :aeQ}(h:rW P T q pb tb c a N r)(G :rW P T q pb tb c a N r'):r' =r:=by
 rcases h with⟨rfl,rfl,_,_,rfl⟩ | ⟨rfl,rfl,rfl⟩ | ⟨i,t,A,B,C,rfl,rfl,J,⟨F,D,z⟩,_,_,rfl⟩ | ⟨A,B,C,rfl,rfl,_,rfl⟩
 ·rcases G with⟨_,_,_,_,rfl⟩ | ⟨e,_⟩ | ⟨_,_,_,_,_,e,_⟩ | ⟨_,_,_,e,_⟩<;>first | rfl | cases e
 ·rcases G with⟨e,_⟩ | ⟨_,_,rfl⟩ | ⟨_,_,_,_,_,e,_⟩ | ⟨_,_,_,e,_⟩<;>first | rfl | cases e
 ·rcases G with⟨e,_⟩ | ⟨e,_⟩ | ⟨u,t',S,O,K,_,e,Z,⟨X,W,V⟩,_,_,rfl⟩ | ⟨_,_,_,e,_⟩
  ·cases e
  ·cases e
  ·simp only[List.cons.injEq,AV.int.injEq,true_and,and_true] at e
   obtain rfl:i=u :=by omega
   rw[J] at Z;cases Z;rw[F] at X;rw[D] at W;rw[z] at V;obtain rfl:=Option.some.inj X;obtain rfl:=Option.some.inj W;obtain rfl:=Option.some.inj V;rfl
  ·cases e
 ·rcases G with⟨e,_⟩ | ⟨e,_⟩ | ⟨_,_,_,_,_,e,_⟩ | ⟨S,O,K,_,e,_,rfl⟩
  ·cases e
  ·cases e
  ·cases e
  ·unfold EX at e
   simp only[List.cons.injEq,AV.agg.injEq,AV.str.injEq,and_true] at e;obtain⟨m,j,Y,R,I,H⟩:=e;obtain rfl:A=S :=Prod.ext (eO m) (eO j);obtain rfl:B=O :=Prod.ext (eO Y) (eO R);obtain rfl:C=K :=Prod.ext (eO I) (eO H);rfl
theorem N5(G:∀N:Mem,(∃o,N[pb]? =some (.cells o 2 (pC P)))→(∃o,N[tb]? =some (.cells o 3 (tC T)))→kO prog 59 [.agg [.slice pb 0 P.length none,.slice tb 0 T.length none]] N (.int .i64 0) N)(hq:sw [ak q.1,ak q.2]=0∧(ak q.1).length≤18∧(ak q.2).length≤18):HS prog (nb (rW P T q pb tb)):=Aq fun c a N r h=>by
 rcases h with⟨rfl,rfl,Z,X,rfl⟩ | ⟨rfl,rfl,rfl⟩ | ⟨i,t,A,B,C,rfl,rfl,W,⟨V,S,O⟩,⟨J,Z⟩,⟨F,X⟩,rfl⟩ | ⟨A,B,C,rfl,rfl,K,rfl⟩
 ·exact aU (G N Z X)
 ·have:=gM (ak q.1) (ak q.2) hq.2.1 hq.2.2 N
  rw[hq.1] at this;exact aI (by simpa [aeQ.mem,pA] using this)
 ·exact aU (AR W V S O Z X)
 ·exact aU (Fh A B C q K N)
theorem LmI.row{bm A:Nat}{w:AV}{L:List AV}(H:LmI P T q M N pb tb bm A w L):afb N w 1 L.length L:=by
 rcases H.g with⟨Z,X,_⟩ | ⟨b,Z,X,_⟩
 ·exact .inl ⟨Z,by rw[X];rfl,X⟩
 ·refine .inr ⟨b,true,Z,?_,X⟩
  rcases H.z with h | h
  ·rw[h] at Z;cases Z
  ·exact List.length_pos_iff.2 h
theorem Fi(H:ahd P T q)(G:∀N:Mem,(∃o,N[pb]? =some (.cells o 2 (pC P)))→(∃o,N[tb]? =some (.cells o 3 (tC T)))→kO prog 59 [.agg [.slice pb 0 P.length none,.slice tb 0 T.length none]] N (.int .i64 0) N)(hq:sw [ak q.1,ak q.2]=0∧(ak q.1).length≤18∧(ak q.2).length≤18){o1 o2:Bool}(m1:M[pb]? =some (.cells o1 2 (pC P)))(I:M[tb]? =some (.cells o2 3 (tC T))):
  ∃w S,kO prog 252 [.agg [.slice pb 0 P.length none,.slice tb 0 T.length none],pA q] M (.tuple [w,.int .i64 0]) (M++S)∧afb (M++S) w 1 (pj P q T 0).length ((pj P q T 0).map fun n=>.int .i64 n):=by
 have hG:aK prog 252=some f252:=by kernel_rfl
 have m:=N5 G hq;obtain⟨W,Z⟩:=xE (α:=Mem) (M++[.cells true 0 [.slice pb 0 P.length none,.slice tb 0 T.length none],.cells true 0 [.str (ak q.1),.str (ak q.2)]]);have l1:=gL m1;have l2:=gL I;have r1:W[pb]? =some (.cells o1 2 (pC P)):=by rw[Z,List.getElem?_append_left l1];exact m1
 have r2:W[tb]? =some (.cells o2 3 (tC T)):=by rw[Z,List.getElem?_append_left l2];exact I
 obtain⟨O,X⟩:=xE (nb (rW P T q pb tb));have e1:O (.fn 59) [.agg [.slice pb 0 P.length none,.slice tb 0 T.length none]] W=some ⟨.int .i64 0,none,[]⟩:=by rw[X];exact fm (.inl ⟨rfl,rfl,⟨_,r1⟩,⟨_,r2⟩,rfl⟩) fun D V =>mA (.inl ⟨rfl,rfl,⟨_,r1⟩,⟨_,r2⟩,rfl⟩) V
 have e2:O (.fn 105) [pA q] W=some ⟨.int .i64 0,none,[]⟩:=by rw[X];exact fm (.inr (.inl ⟨rfl,rfl,rfl⟩)) fun D V =>mA (.inr (.inl ⟨rfl,rfl,rfl⟩)) V
 have K:∀(N:Mem) (i:Nat) t A B C,T[i]? =some t→P[t.1]? =some A→P[t.2.1]? =some B→P[t.2.2]? =some C→(∃o,N[pb]? =some (.cells o 2 (pC P)))→(∃o,N[tb]? =some (.cells o 3 (tC T)))→O (.fn 163) [.agg [.slice pb 0 P.length none,.slice tb 0 T.length none],.int .i64 (i:Int)] N=some ⟨EX A B C,none,[]⟩:=fun N i t A B C hi hA hB K h1 h2=>by have x:rW P T q pb tb (.fn 163) [.agg [.slice pb 0 P.length none,.slice tb 0 T.length none],.int .i64 (i:Int)] N ⟨EX A B C,none,[]⟩:=.inr (.inr (.inl ⟨i,t,A,B,C,rfl,rfl,hi,⟨hA,hB,K⟩,h1,h2,rfl⟩));rw[X];exact fm x fun D V =>mA x V
 have j:∀(N:Mem) A B C,MF A B C q→O (.fn 282) [EX A B C,pA q] N=some ⟨.bool (decide (inQ (nV A B C q))),none,[]⟩:=fun N A B C ht=>by have x:rW P T q pb tb (.fn 282) [EX A B C,pA q] N ⟨.bool (decide (inQ (nV A B C q))),none,[]⟩:=.inr (.inr (.inr ⟨A,B,C,rfl,rfl,ht,rfl⟩));rw[X];exact fm x fun D V =>mA x V
 rw[←X] at m;clear X;have H1:LmI P T q M W pb tb M.length (M.length+1) .y9 []:=by
  refine⟨⟨_,r1⟩,⟨_,r2⟩,?_,?_,⟨_,Z⟩,.inl ⟨rfl,rfl,rfl⟩,rfl,fun b n h=>(by cases h),.inl rfl⟩
  ·rw[Z,jU];rfl
  ·rw[Z,fV];rfl
 have J:=GY T 0 W .y9 [] H1;rw[List.nil_append] at J;obtain⟨R,hR⟩:=xE (GX P q T 0 W .y9);rw[←hR] at J;obtain⟨b,z⟩:∃b,ai f252=[b]:=⟨_,rfl⟩
 obtain⟨F,u⟩:=jW (β:=Env×Bool) (p:=fun env _=>ad env 2=.ptr M.length 0∧ad env 3=.ptr (M.length+1) 0∧ad env 19=.int .i64 (T.length:Int)∧ad env 20=.int .i64 0∧ad env 7=.y9)
  (q:=fun env d r=>aM (aN prog) (fun _=>[20,20,20,7]) O 1100 34 M.length true (.loop b) ⟨env,W,d⟩=some (.exit 0,⟨r.1,R.1,r.2⟩)∧ad r.1 7=R.2) (fun env d ⟨a2,a3,a19,a20,a7⟩=>by
  have hTl:=H.hl.2;have:=qI (O:=O) (M:=M) z H K j a2 a3 a19 W.length M.length T.length 0 W .y9 [] env d 1100 (by omega) (by omega) H1 (by simp) a20 a7;rw[List.drop_zero,←hR] at this;exact this)
 have J':=fun env d h=>(u env d h).1
 have Z5:=fun env d h=>(u env d h).2
 clear u K j;have X':cB (aN prog) (fun _=>[20,20,20,7]) (aK prog) O 1100 252 [.agg [.slice pb 0 P.length none,.slice tb 0 T.length none],pA q] M=some (.tuple [R.2,.int .i64 0],R.1):=by subst Z;simp[ai,aG,f252] at z;subst z;unfold pA at*;simp[-getElem?_pos,-AV.known,-AV.cells,-bL,-List.all_eq_true,vS,mS,cB,hG,f252,e1,e2,J',Z5]
 obtain⟨Y,hY⟩:=J.e;refine⟨R.2,Y,?_,?_⟩
 ·rw[←hY];exact bZ ae (ar _) m (au _) X'
 ·rw[←hY]
  have:=J.row;simpa using this
end
end Go.Proofs
