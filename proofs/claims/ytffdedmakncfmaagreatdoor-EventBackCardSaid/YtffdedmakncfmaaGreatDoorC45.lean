/- See C54. -/
import Derived.Test.YtffdedmakncfmaaGreatDoorC44
set_option linter.all false
namespace Go.Proofs
open Go.Eng
open Tryz
variable{k:Nat}
theorem LW{n:Int}(h:n.natAbs<10 ^ k)(h0:0<k):dg k k ((n:Int):Rat):=⟨h,by show(1:Nat)<10 ^ k;have:10 ^ 1≤10 ^ k:=Nat.pow_le_pow_right (by omega) h0;omega⟩
theorem ER{z:Int}(h:z.natAbs<10 ^ k)(h0:0<k):dg k k (hQ z):=mZ (by decide) h (by have:10 ^ 1≤10 ^ k:=Nat.pow_le_pow_right (by omega) h0;omega)
variable{n:Nat}{v:Z3}
theorem PI(h:QH n v)(y:n<10 ^ k)(h0:0<k):vDg k (zQ v):=⟨LW (by have:=h.1;omega) h0,LW (by have:=h.2.1;omega) h0,LW (by have:=h.2.2;omega) h0⟩
theorem YU(h:QH n v)(y:n<10 ^ k)(h0:0<k):vDg k (hV v):=⟨ER (by have:=h.1;omega) h0,ER (by have:=h.2.1;omega) h0,ER (by have:=h.2.2;omega) h0⟩
theorem ZQ(h:Xg v=false):¬FZ (zQ v):=by
 rintro ⟨Z,X,h3⟩;have V:v.1=0:=by have:((v.1:Int):Rat)=0:=Z;exact_mod_cast this
 have U:v.2.1=0:=by have:((v.2.1:Int):Rat)=0:=X;exact_mod_cast this
 have S:v.2.2=0:=by have:((v.2.2:Int):Rat)=0:=h3;exact_mod_cast this
 simp[Xg,V,U,S] at h
theorem T2(n v:Z3):(sE n v).1*n.1+(sE n v).2.1*n.2.1+(sE n v).2.2*n.2.2=0:=by
 unfold sE
 grind
variable{b:Z3}
theorem Vq{a:Z3}(h:a.1*b.1+a.2.1*b.2.1+a.2.2*b.2.2=0):fI (zQ a) (zQ b)=0:=by
 unfold fI zQ;have:(((a.1*b.1+a.2.1*b.2.1+a.2.2*b.2.2:Int)):Rat)=0:=by rw[h];rfl
 simpa [Rat.intCast_add,Rat.intCast_mul] using this
theorem YV{a:Z3}(h:a.1*b.1+a.2.1*b.2.1+a.2.2*b.2.2=0):fI (hV a) (zQ b)=0:=by
 have k:=Vq h;unfold fI zQ hV at*;simp only[nf] at*
 grind
theorem ue(s:af1):0<s.P.length∧s.P.length≤1000:=by
 have h:∀k<8,0<(dT k).length∧(dT k).length≤1000:=by decide
 have:=h (s.kind%8) (Nat.mod_lt _ (by decide));unfold af1.P
 rwa [List.length_map]
def ctM(x:afO):Nat:=(ct3 (x.n 7)).toNat
theorem T3{x:afO}:ct3 (x.n 7)=(ctM x:Int):=by have:=PW (x.n 7);unfold ctM;omega
theorem xn(x:afO):ctM x=1∨ctM x=2∨ctM x=3:=by have:=PW (x.n 7);unfold ctM;omega
def cSk(x:afO)(n:Nat):Evc:=match x.kind%5 with
 |0=>vO x n (ctN x)
 |1=>dO [110] (zQ (dx x)) (hQ (fX (x.n 6))) (hV (uz x))
 |2=>dR [110] (zQ (dx x)) (x.aga (ctM x)) (zQ (uz x))
 |3=>mX [110] (zQ (dx x)) (hQ (fX (x.n 6))) (hQ (ps9 (x.n 7))) [110,95,114,111,99,107]
 |_=>gu [110] (wC x) (zQ (dx x))
variable{c:Nat}
theorem Mg{x:afO}(hc:c≤3){q:Rat×Rat}(h:q∈x.aga c):big 2 q.1∧big 2 q.2:=by unfold afO.aga at h;obtain⟨i,Z,rfl⟩:=List.mem_map.1 h;have Z:=List.mem_range.1 Z;have X:=x.ah3 i;have V:=dr (x.n ((i+7)%8));exact⟨LW (k:=2) (by omega) (by decide),ER (k:=2) (by show(fX _).natAbs<_;omega) (by decide)⟩
variable{a:Rat×Rat}{i:Nat}
theorem Qd{x:afO}(h:(x.aga c)[i]? =some a):a=x.aiq i:=by
 unfold afO.aga at h;rw[List.getElem?_map] at h;by_cases Z:i<c
 ·rw[List.getElem?_range Z] at h
  exact(Option.some.inj h).symm
 ·rw[List.getElem?_eq_none (by simp;omega)] at h
  cases h
theorem Hz{x:afO}{b:Rat×Rat}(y:(x.aga c)[i]? =some a)(H:(x.aga c)[i+1]? =some b):a.1<b.1:=by
 rw[Qd y,Qd H];have:=x.aim i;show((x.at i:Int):Rat)<((x.at (i+1):Int):Rat)
 exact_mod_cast this
theorem rG(s:af1)(x:afO):mJ s (cSk x s.P.length):=by
 obtain⟨S,R⟩:=ue s;have Z:=(PI (qA x) (k:=1) (by decide) (by decide));have X:=ZQ (WV x);have V:=ER (z:=fX (x.n 6)) (k:=1) (by have:=dr (x.n 6);omega) (by decide);have U:=T2 (dx x) (fX (x.n 3),fX (x.n 4),fX (x.n 5));unfold cSk;split
 ·exact Jb s x _ _ rfl S R (jz x)
 ·exact Ek s [110] _ _ _ (by decide) (Z.mono (by omega)) X (V.mono (by omega) (by omega)) ((YU (CD x) (k:=3) (by decide) (by decide)).mono (by omega)) (YV U)
 ·have L:=xn x
  refine Gy s [110] _ _ _ (by decide) (Z.mono (by omega)) X (by rw[afO.agp];omega) (by rw[afO.agp];omega) (fun q Q=>?_) (fun i a b O N=>Hz O N) ((PI (CD x) (k:=3) (by decide) (by decide)).mono (by omega)) (Vq U);have:=Mg (c:=ctM x) (by omega) Q;exact⟨this.1.mono (by omega),this.2.mono (by omega)⟩
 ·have K:=nn (x.n 7)
  exact Gx s [110] _ _ _ _ (by decide) (Z.mono (by omega)) X (V.mono (by omega) (by omega)) ((ER (z:=ps9 (x.n 7)) (k:=1) (by omega) (by decide)).mono (by omega) (by omega)) (YR (by omega)) (by decide)
 ·exact Gz s [110] _ _ (by decide) (fun M=>wP (By x) (xP x) M) (Z.mono (by omega))
def XT(m:Nat)(x:afO)(n:Nat):List AV:=(cSk x n).cells (if x.kind%5=0 then .slice m 0 n none else .qF) (if x.kind%5=0 then .slice (m+1) 0 (ctN x) none else .qF) (if x.kind%5=0 then dqS m n (ctN x) else .qF) (if x.kind%5=2 then .slice m 0 (ctM x) none else .qF)
def Sz(m:Nat)(x:afO)(n:Nat):Mem:=if x.kind%5=0 then dqN m x n (ctN x) else if x.kind%5=2 then [.cells true 2 (kC (kT (x.aga (ctM x))))] else []
theorem tT(k:Nat):k%5=0∨k%5=1∨k%5=2∨k%5=3∨k%5=4:=by omega
section
variable{x:afO}
include x
theorem Zt(h:x.kind%5=0):cSk x n=vO x n (ctN x):=by unfold cSk;rw[h];rfl
theorem Zu(h:x.kind%5=1):cSk x n=dO [110] (zQ (dx x)) (hQ (fX (x.n 6))) (hV (uz x)):=by unfold cSk;rw[h];rfl
theorem Zv(h:x.kind%5=2):cSk x n=dR [110] (zQ (dx x)) (x.aga (ctM x)) (zQ (uz x)):=by unfold cSk;rw[h];rfl
theorem Zw(h:x.kind%5=3):cSk x n=mX [110] (zQ (dx x)) (hQ (fX (x.n 6))) (hQ (ps9 (x.n 7))) [110,95,114,111,99,107]:=by unfold cSk;rw[h];rfl
theorem Zx(h:x.kind%5=4):cSk x n=gu [110] (wC x) (zQ (dx x)):=by unfold cSk;rw[h];rfl
end
theorem IT(x:afO)(y:x.Ok)(n k:Nat)(H:0<n)(I:n≤1000):kO prog 8 [.agg [.slice 0 0 n none,.slice 1 0 k none],.agg x.cells,.str [110]] [.qK,.qK] (.agg (XT 2 x n)) ([.qK,.qK]++Sz 2 x n):=by
 unfold XT Sz;rcases tT x.kind with h | h | h | h | h
 ·rw[Zt h,h];exact Gn x y n k H I h
 ·rw[Zu h,h];exact Gp x y n k h
 ·rw[Zv h,h]
  rcases xn x with h3 | h3 | h3
  ·rw[h3];exact Ef x y n k h (by rw[T3,h3];rfl)
  ·rw[h3];exact Eg x y n k h (by rw[T3,h3];rfl)
  ·rw[h3];exact Eh x y n k h (by rw[T3,h3];rfl)
 ·rw[Zw h,h];exact Gq x y n k h
 ·rw[Zx h,h];exact Gr x y n k h
theorem IU(x:afO)(y:x.Ok)(n k:Nat)(H:0<n)(I:n≤1000)(M:Mem)(p t:Nat)(J:p<M.length)(W:t<M.length):
  kO prog 8 [.agg [.slice p 0 n none,.slice t 0 k none],.agg x.cells,.str [110]] M (.agg (XT M.length x n)) (M++Sz M.length x n):=by
 have Z:=fun f=>aO (ρ:=f) x.closed
 have h3:=jz x;have U:=IT x y n k H I;have:=kO.frame (M:=M) (new:=Sz 2 x n) [p,t] (m:=[.qK,.qK]) rfl (by
  intro k V;simp only[lM] at V;rcases V with rfl | rfl
  ·exact J
  ·exact W) (by simp[AV.afX,AV.under,bl x.closed]) (fun i s X=>by
  match i with
  |0=>simp at X;subst X;trivial
  |1=>simp at X;subst X;trivial
  |i+2=>simp at X) (by
   unfold Sz;rcases tT x.kind with h | h | h | h | h<;>rw[h]<;>try rfl
   rcases h3 with h3 | h3 | h3<;>rw[h3]<;>rfl) U
 unfold XT Sz at this ⊢;obtain⟨C,S⟩:=xE (cSk x n);rw[←S] at this ⊢;have R:∀f,AV.af9 f (kC (kT (x.aga (ctM x))))=kC (kT (x.aga (ctM x))):=fun f=>aO (iI _)
 rcases tT x.kind with h | h | h | h | h
 ·obtain⟨c,Q⟩:=xE (ctN x)
  rw[←Q] at this h3 ⊢;rcases h3 with rfl | rfl | rfl<;>simpa [h,AV.af9,AV.ren,fj,afU.ren,dqS,dqN,kN,uNm,nmE,stC,Z,Evc.cells] using this
 ·simpa [h,AV.af9,AV.ren,fj,afU.ren,Z,Evc.cells] using this
 ·simpa [h,AV.af9,AV.ren,fj,afU.ren,Z,Evc.cells,R] using this
 ·simpa [h,AV.af9,AV.ren,fj,afU.ren,Z,Evc.cells] using this
 ·simpa [h,AV.af9,AV.ren,fj,afU.ren,Z,Evc.cells] using this
theorem CI(M N:Mem)(k:Nat):(M++N)[M.length+k]? =N[k]? :=by rw[List.getElem?_append_right (by omega)];congr 1;omega
theorem TN(M N:Mem):(M++N)[M.length]? =N[0]? :=CI M N 0
variable{C:List AV}{N:Mem}{es:Nat}
theorem nt{b:Nat}{o:Bool}(h0:0<n)(h:N[b]? =some (.cells o es C)):af0 N (.slice b 0 n none) es n C:=.inr ⟨b,o,rfl,h0,h⟩
theorem ke:af0 N .qF es 0 []:=.inl ⟨rfl,rfl,rfl⟩
theorem MQ:ahb N .qF []:=⟨[],rfl,ke,fun i x L h=>by simp at h⟩
theorem Vg(h:c=1∨c=2∨c=3):(uNm c).length=c:=by rcases h with rfl | rfl | rfl<;>rfl
theorem T8(x:afO)(n:Nat)(y:0<n)(M:Mem):agL (M++Sz M.length x n) (XT M.length x n) (cSk x n):=by
 unfold XT Sz;have h3:=jz x;rcases tT x.kind with h | h | h | h | h
 ·rw[Zt h,h]
  refine⟨_,_,_,_,rfl,?_,?_,?_,ke⟩
  ·simp only[if_true]
   have V:(vO x n (ctN x)).B.length=n:=by show(hS _).length=n;rw[mc,Hts.agj]
   rw[V];refine nt (o:=true) y ?_;rw[TN];show _=some (afU.cells true 1 (stC (hS _)))
   rw[Tb];rcases h3 with h3 | h3 | h3<;>rw[h3]<;>rfl
  ·simp only[if_true]
   have V:(vO x n (ctN x)).U.length=ctN x:=Vg h3;rw[V];refine nt (o:=true) (by omega) ?_;rw[CI];show _=some (afU.cells true 1 (stC (uNm (ctN x))))
   rcases h3 with h3 | h3 | h3<;>rw[h3]<;>rfl
  ·simp only[if_true]
   show ahb _ _ ((xL x n (ctN x)).map hS)
   rcases h3 with h3 | h3 | h3<;>rw[h3]
   ·exact MQ
   ·refine⟨[.slice (M.length+3) 0 n none],rfl,nt (o:=true) (by show 0<1;omega) (by rw[CI];rfl),fun i x L Z X=>?_⟩
    match i,Z,X with
    |0,Z,X=>
     cases Z;cases X;rw[mc,gF];refine nt (o:=true) y ?_;rw[CI,Tb];rfl
    |i+1,Z,_=>simp at Z
   ·refine⟨[.slice (M.length+3) 0 n none,.slice (M.length+4) 0 n none],rfl,nt (o:=true) (by show 0<2;omega) (by rw[CI];rfl),fun i x L Z X=>?_⟩
    match i,Z,X with
    |0,Z,X=>
     cases Z;cases X;rw[mc,gF];refine nt (o:=true) y ?_;rw[CI,Tb];rfl
    |1,Z,X=>
     cases Z;cases X;rw[mc,gF];refine nt (o:=true) y ?_;rw[CI,Tb];rfl
    |i+2,Z,_=>simp at Z
 ·rw[Zu h,h];exact⟨_,_,_,_,rfl,ke,ke,MQ,ke⟩
 ·rw[Zv h,h]
  refine⟨_,_,_,_,rfl,ke,ke,MQ,?_⟩;have V:(dR [110] (zQ (dx x)) (x.aga (ctM x)) (zQ (uz x))).K.length=ctM x:=by show(kT _).length=_;rw[kL,afO.agp]
  rw[V];have:=xn x;exact nt (o:=true) (by omega) (by rw[TN];rfl)
 ·rw[Zw h,h];exact⟨_,_,_,_,rfl,ke,ke,MQ,ke⟩
 ·rw[Zx h,h];exact⟨_,_,_,_,rfl,ke,ke,MQ,ke⟩
section
variable{M:Mem}{p:Nat}{s:afU}(h:M[p]? =some s)
include M p s h
theorem fl(Z:Mem):(M++Z)[p]? =some s:=by rw[List.getElem?_append_left (gL h)];exact h
theorem Fw:p<M.length:=gL h
end
theorem af0.refs{v:AV}(h:af0 N v es n C)(x:Nat):v.afP (fun b=>decide (b<N.length+x))=true:=by
 rcases h with⟨rfl,_⟩ | ⟨b,o,rfl,_,h⟩
 ·rfl
 ·have:=Fw h
  simp only[AV.afP,decide_eq_true_eq];omega
theorem agL.refs{e:List AV}{c:Evc}(h:agL N e c)(x:Nat):AV.afV (fun b=>decide (b<N.length+x)) e=true:=by obtain⟨b,u,O,M,rfl,Z,X,⟨_,_,h3,_⟩,V⟩:=h;have U:=Z.refs x;have S:=X.refs x;have R:=h3.refs x;have Q:=V.refs x;simp only[Evc.cells,AV.afV,U,S,R,Q,AV.afP,Bool.and_self]
def A6(s:af1)(p t:Nat):AV:=.agg [.slice p 0 s.P.length none,.slice t 0 s.T.length none]
theorem kA{K:Int}{g g1 J g3 g4:FuncId}{W:Evc→Evc}{x y:Bool}(kp:agW K g g1 J g3 g4 W x y){s:af1}{c:Evc}(hk:c.k=K)(Y:mJ s c){M:Mem}{p t:Nat}{o o' :Bool}{H:List AV}(hp:M[p]? =some (.cells o 2 (pC s.P)))(ht:M[t]? =some (.cells o' 3 (tC s.T)))(I:agL M H c){mo:Int}(hN:∀Z,kO prog J [.agg H] (M++Z) (.int .i64 mo) (M++Z))(n1:83≠J)(n2:63≠J)(n:Int)(Z:Mem):
  kO prog 42 [A6 s p t,.agg H,.int .i64 n] (M++Z) (.int .i64 (if loK K≤n∧n≤mo then 0 else 10)) (M++Z):=by
 have V:=I.more Z;have O:=Fw (fl hp Z);have L:=Fw (fl ht Z);have G:loK K=if K=1 then -2 else 0:=rfl
 have U:∀(q k x:Nat),q<(M++Z).length→(AV.slice q 0 k none).afP (fun b=>decide (b<(M++Z).length+x))=true:=fun q k x h=>by simp only[AV.afP,decide_eq_true_eq];omega
 have F:H[0]? =some (.int .i64 K):=by
  obtain⟨b,u,S,Q,rfl,_⟩:=id I;show some (AV.int .i64 c.k)=_
  rw[hk]
 refine BO (kd:=K) (k0:=g) (k1:=g1) (k3:=g3) (k4:=g4) ⟨rfl,rfl⟩ I.l32 (List.all_eq_true.2 I.cok) (fun x=>U _ _ x O) (fun x=>U _ _ x L) (fun x=>V.refs x) F G (fun X =>Y _ p t o o' H (fl (fl hp Z) X) (fl (fl ht Z) X) (V.more X)) (fun X =>?_) (fun X =>by rw[List.append_assoc];exact hN (Z++X)) n1 n2;obtain⟨b,u,S,Q,rfl,D,B,⟨_,_,h3,_⟩,m⟩:=I;have:=PN kp (N:=(M++Z)++X) (nm:=c.nm) (R:=((c.cells b u S Q).drop 2)) rfl (by simp[Evc.cells,D.ck,B.ck,h3.ck,m.ck,vS,-AV.afR]);rw[←hk] at this;exact this
theorem RE{Q:List (Rat×Rat)}(y:n≤Q.length)(hQ:Xi 40 Q)(H:Q.length≤1000000000)(hd:∀i a b,Q[i]? =some a→Q[i+1]? =some b→b.1-a.1≠0){M:Mem}{b:Nat}{o:Bool}(I:M[b]? =some (.cells o 2 (kC (kT Q)))):
  kO prog 45 [.slice b 0 Q.length none,.int .i64 n] M (.tuple [.str (ax (nZ Q n).1),.str (ax (nZ Q n).2)]) M:=
 kO.ag6 (rest:=[.int .i64 n]) (iI _) rfl rfl (Nd Q n y hQ H hd) ⟨b,o,_,rfl,I,List.take_length⟩
theorem WN{x:afO}{b:Rat×Rat}(y:(x.aga c)[i]? =some a)(H:(x.aga c)[i+1]? =some b):b.1-a.1≠0:=by
 have:=Hz y H
 grind
section
variable {x:afO}{s:af1}{M:Mem}{p t:Nat}{o o' :Bool}{ev:List AV}
end
end Go.Proofs
