/- See B54. -/
import Derived.Test.YtffdedmakncfmaaGreatDoorB46
set_option linter.all false
namespace Go.Proofs
open Go.Eng
open Tryz
variable{k:Nat}
theorem KM{n:Int}(h:n.natAbs<10 ^ k)(h0:0<k):dg k k ((n:Int):Rat):=⟨h,by show(1:Nat)<10 ^ k;have:10 ^ 1≤10 ^ k:=Nat.pow_le_pow_right (by omega) h0;omega⟩
theorem NO{z:Int}(h:z.natAbs<10 ^ k)(h0:0<k):dg k k (hQ z):=sw (by decide) h (by have:10 ^ 1≤10 ^ k:=Nat.pow_le_pow_right (by omega) h0;omega)
variable{n:Nat}{v:Z3}
theorem Rs(h:Pk n v)(y:n<10 ^ k)(h0:0<k):vDg k (zQ v):=⟨KM (by have:=h.1;omega) h0,KM (by have:=h.2.1;omega) h0,KM (by have:=h.2.2;omega) h0⟩
theorem WZ(h:Pk n v)(y:n<10 ^ k)(h0:0<k):vDg k (hV v):=⟨NO (by have:=h.1;omega) h0,NO (by have:=h.2.1;omega) h0,NO (by have:=h.2.2;omega) h0⟩
theorem XN(h:VD v=false):¬E9 (zQ v):=by
 rintro ⟨Z,X,h3⟩;have V:v.1=0:=by have:((v.1:Int):Rat)=0:=Z;exact_mod_cast this
 have U:v.2.1=0:=by have:((v.2.1:Int):Rat)=0:=X;exact_mod_cast this
 have S:v.2.2=0:=by have:((v.2.2:Int):Rat)=0:=h3;exact_mod_cast this
 simp[VD,V,U,S] at h
theorem Wc(n v:Z3):(rn n v).1*n.1+(rn n v).2.1*n.2.1+(rn n v).2.2*n.2.2=0:=by
 unfold rn
 grind
variable{b:Z3}
theorem VT{a:Z3}(h:a.1*b.1+a.2.1*b.2.1+a.2.2*b.2.2=0):gG (zQ a) (zQ b)=0:=by
 unfold gG zQ;have:(((a.1*b.1+a.2.1*b.2.1+a.2.2*b.2.2:Int)):Rat)=0:=by rw[h];rfl
 simpa [Rat.intCast_add,Rat.intCast_mul] using this
theorem W0{a:Z3}(h:a.1*b.1+a.2.1*b.2.1+a.2.2*b.2.2=0):gG (hV a) (zQ b)=0:=by
 have k:=VT h;unfold gG zQ hV at*;simp only[mq] at*
 grind
theorem yn(s:afh):0<s.P.length∧s.P.length≤1000:=by
 have h:∀k<8,0<(dU k).length∧(dU k).length≤1000:=by decide
 have:=h (s.kind%8) (Nat.mod_lt _ (by decide));unfold afh.P
 rwa [List.length_map]
def ctM(x:ae4):Nat:=(ct3 (x.n 7)).toNat
theorem Sm{x:ae4}:ct3 (x.n 7)=(ctM x:Int):=by have:=OH (x.n 7);unfold ctM;omega
theorem wh(x:ae4):ctM x=1∨ctM x=2∨ctM x=3:=by have:=OH (x.n 7);unfold ctM;omega
def cSk(x:ae4)(n:Nat):Evc:=match x.kind%5 with
 |0=>KD x n (ctN x)
 |1=>cB [110] (zQ (fz x)) (hQ (gZ (x.n 6))) (hV (Ae x))
 |2=>dX [110] (zQ (fz x)) (x.afu (ctM x)) (zQ (Ae x))
 |3=>v8 [110] (zQ (fz x)) (hQ (gZ (x.n 6))) (hQ (ps9 (x.n 7))) [110,95,114,111,99,107]
 |_=>gf [110] (sX x) (zQ (fz x))
variable{c:Nat}
theorem Lf{x:ae4}(hc:c≤3){q:Rat×Rat}(h:q∈x.afu c):big 2 q.1∧big 2 q.2:=by unfold ae4.afu at h;obtain⟨i,Z,rfl⟩:=List.mem_map.1 h;have Z:=List.mem_range.1 Z;have X:=x.ahn i;have V:=dq (x.n ((i+7)%8));exact⟨KM (k:=2) (by omega) (by decide),NO (k:=2) (by show(gZ _).natAbs<_;omega) (by decide)⟩
variable{a:Rat×Rat}{i:Nat}
theorem OV{x:ae4}(h:(x.afu c)[i]? =some a):a=x.ahH i:=by
 unfold ae4.afu at h;rw[List.getElem?_map] at h;by_cases Z:i<c
 ·rw[List.getElem?_range Z] at h
  exact(Option.some.inj h).symm
 ·rw[List.getElem?_eq_none (by simp;omega)] at h
  cases h
theorem GI{x:ae4}{b:Rat×Rat}(y:(x.afu c)[i]? =some a)(H:(x.afu c)[i+1]? =some b):a.1<b.1:=by
 rw[OV y,OV H];have:=x.ahF i;show((x.at i:Int):Rat)<((x.at (i+1):Int):Rat)
 exact_mod_cast this
theorem vt(s:afh)(x:ae4):kv s (cSk x s.P.length):=by
 obtain⟨S,R⟩:=yn s;have Z:=(Rs (sM x) (k:=1) (by decide) (by decide));have X:=XN (Vi x);have V:=NO (z:=gZ (x.n 6)) (k:=1) (by have:=dq (x.n 6);omega) (by decide);have U:=Wc (fz x) (gZ (x.n 3),gZ (x.n 4),gZ (x.n 5));unfold cSk;split
 ·exact H5 s x _ _ rfl S R (kW x)
 ·exact Dy s [110] _ _ _ (by decide) (Z.mono (by omega)) X (V.mono (by omega) (by omega)) ((WZ (BQ x) (k:=3) (by decide) (by decide)).mono (by omega)) (W0 U)
 ·have L:=wh x
  refine FH s [110] _ _ _ (by decide) (Z.mono (by omega)) X (by rw[ae4.afG];omega) (by rw[ae4.afG];omega) (fun q Q=>?_) (fun i a b O N=>GI O N) ((Rs (BQ x) (k:=3) (by decide) (by decide)).mono (by omega)) (VT U);have:=Lf (c:=ctM x) (by omega) Q;exact⟨this.1.mono (by omega),this.2.mono (by omega)⟩
 ·have K:=nM (x.n 7)
  exact FG s [110] _ _ _ _ (by decide) (Z.mono (by omega)) X (V.mono (by omega) (by omega)) ((NO (z:=ps9 (x.n 7)) (k:=1) (by omega) (by decide)).mono (by omega) (by omega)) (WW (by omega)) (by decide)
 ·exact FI s [110] _ _ (by decide) (fun M=>vn (AN x) (AO x) M) (Z.mono (by omega))
def We(m:Nat)(x:ae4)(n:Nat):List AV:=(cSk x n).cells (if x.kind%5=0 then .slice m 0 n none else .qF) (if x.kind%5=0 then .slice (m+1) 0 (ctN x) none else .qF) (if x.kind%5=0 then dqS m n (ctN x) else .qF) (if x.kind%5=2 then .slice m 0 (ctM x) none else .qF)
def Ru(m:Nat)(x:ae4)(n:Nat):Mem:=if x.kind%5=0 then dqN m x n (ctN x) else if x.kind%5=2 then [.cells true 2 (kC (kT (x.afu (ctM x))))] else []
theorem sH(k:Nat):k%5=0∨k%5=1∨k%5=2∨k%5=3∨k%5=4:=by omega
section
variable{x:ae4}
include x
theorem Xt(h:x.kind%5=0):cSk x n=KD x n (ctN x):=by unfold cSk;rw[h];rfl
theorem Xu(h:x.kind%5=1):cSk x n=cB [110] (zQ (fz x)) (hQ (gZ (x.n 6))) (hV (Ae x)):=by unfold cSk;rw[h];rfl
theorem Xv(h:x.kind%5=2):cSk x n=dX [110] (zQ (fz x)) (x.afu (ctM x)) (zQ (Ae x)):=by unfold cSk;rw[h];rfl
theorem Xw(h:x.kind%5=3):cSk x n=v8 [110] (zQ (fz x)) (hQ (gZ (x.n 6))) (hQ (ps9 (x.n 7))) [110,95,114,111,99,107]:=by unfold cSk;rw[h];rfl
theorem Xx(h:x.kind%5=4):cSk x n=gf [110] (sX x) (zQ (fz x)):=by unfold cSk;rw[h];rfl
end
theorem HW(x:ae4)(y:x.Ok)(n k:Nat)(H:0<n)(I:n≤1000):kO prog 8 [.agg [.slice 0 0 n none,.slice 1 0 k none],.agg x.cells,.str [110]] [.qK,.qK] (.agg (We 2 x n)) ([.qK,.qK]++Ru 2 x n):=by
 unfold We Ru;rcases sH x.kind with h | h | h | h | h
 ·rw[Xt h,h];exact Fz x y n k H I h
 ·rw[Xu h,h];exact FA x y n k h
 ·rw[Xv h,h]
  rcases wh x with h3 | h3 | h3
  ·rw[h3];exact Dt x y n k h (by rw[Sm,h3];rfl)
  ·rw[h3];exact Du x y n k h (by rw[Sm,h3];rfl)
  ·rw[h3];exact Dv x y n k h (by rw[Sm,h3];rfl)
 ·rw[Xw h,h];exact FB x y n k h
 ·rw[Xx h,h];exact FC x y n k h
theorem HX(x:ae4)(y:x.Ok)(n k:Nat)(H:0<n)(I:n≤1000)(M:Mem)(p t:Nat)(J:p<M.length)(W:t<M.length):
  kO prog 8 [.agg [.slice p 0 n none,.slice t 0 k none],.agg x.cells,.str [110]] M (.agg (We M.length x n)) (M++Ru M.length x n):=by
 have Z:=fun f=>aM (ρ:=f) x.closed
 have h3:=kW x;have U:=HW x y n k H I;have:=kO.frame (M:=M) (new:=Ru 2 x n) [p,t] (m:=[.qK,.qK]) rfl (by
  intro k V;simp only[lM] at V;rcases V with rfl | rfl
  ·exact J
  ·exact W) (by simp[AV.afd,AV.under,aX x.closed]) (fun i s X=>by
  match i with
  |0=>simp at X;subst X;trivial
  |1=>simp at X;subst X;trivial
  |i+2=>simp at X) (by
   unfold Ru;rcases sH x.kind with h | h | h | h | h<;>rw[h]<;>try rfl
   rcases h3 with h3 | h3 | h3<;>rw[h3]<;>rfl) U
 unfold We Ru at this ⊢;obtain⟨C,S⟩:=xE (cSk x n);rw[←S] at this ⊢;have R:∀f,AV.afp f (kC (kT (x.afu (ctM x))))=kC (kT (x.afu (ctM x))):=fun f=>aM (jZ _)
 rcases sH x.kind with h | h | h | h | h
 ·obtain⟨c,Q⟩:=xE (ctN x)
  rw[←Q] at this h3 ⊢;rcases h3 with rfl | rfl | rfl<;>simpa [h,AV.afp,AV.ren,eL,afb.ren,dqS,dqN,j9,uNm,nmE,stC,Z,Evc.cells] using this
 ·simpa [h,AV.afp,AV.ren,eL,afb.ren,Z,Evc.cells] using this
 ·simpa [h,AV.afp,AV.ren,eL,afb.ren,Z,Evc.cells,R] using this
 ·simpa [h,AV.afp,AV.ren,eL,afb.ren,Z,Evc.cells] using this
 ·simpa [h,AV.afp,AV.ren,eL,afb.ren,Z,Evc.cells] using this
theorem BU(M N:Mem)(k:Nat):(M++N)[M.length+k]? =N[k]? :=by rw[List.getElem?_append_right (by omega)];congr 1;omega
theorem R7(M N:Mem):(M++N)[M.length]? =N[0]? :=BU M N 0
variable{C:List AV}{N:Mem}{es:Nat}
theorem mD{b:Nat}{o:Bool}(h0:0<n)(h:N[b]? =some (.cells o es C)):afi N (.slice b 0 n none) es n C:=.inr ⟨b,o,rfl,h0,h⟩
theorem jD:afi N .qF es 0 []:=.inl ⟨rfl,rfl,rfl⟩
theorem LS:agr N .qF []:=⟨[],rfl,jD,fun i x L h=>by simp at h⟩
theorem WD(h:c=1∨c=2∨c=3):(uNm c).length=c:=by rcases h with rfl | rfl | rfl<;>rfl
theorem Sv(x:ae4)(n:Nat)(y:0<n)(M:Mem):af7 (M++Ru M.length x n) (We M.length x n) (cSk x n):=by
 unfold We Ru;have h3:=kW x;rcases sH x.kind with h | h | h | h | h
 ·rw[Xt h,h]
  refine⟨_,_,_,_,rfl,?_,?_,?_,jD⟩
  ·simp only[if_true]
   have V:(KD x n (ctN x)).B.length=n:=by show(hS _).length=n;rw[rq,Hts.afB]
   rw[V];refine mD (o:=true) y ?_;rw[R7];show _=some (afb.cells true 1 (stC (hS _)))
   rw[VK];rcases h3 with h3 | h3 | h3<;>rw[h3]<;>rfl
  ·simp only[if_true]
   have V:(KD x n (ctN x)).U.length=ctN x:=WD h3;rw[V];refine mD (o:=true) (by omega) ?_;rw[BU];show _=some (afb.cells true 1 (stC (uNm (ctN x))))
   rcases h3 with h3 | h3 | h3<;>rw[h3]<;>rfl
  ·simp only[if_true]
   show agr _ _ ((E7 x n (ctN x)).map hS)
   rcases h3 with h3 | h3 | h3<;>rw[h3]
   ·exact LS
   ·refine⟨[.slice (M.length+3) 0 n none],rfl,mD (o:=true) (by show 0<1;omega) (by rw[BU];rfl),fun i x L Z X=>?_⟩
    match i,Z,X with
    |0,Z,X=>
     cases Z;cases X;rw[rq,iJ];refine mD (o:=true) y ?_;rw[BU,VK];rfl
    |i+1,Z,_=>simp at Z
   ·refine⟨[.slice (M.length+3) 0 n none,.slice (M.length+4) 0 n none],rfl,mD (o:=true) (by show 0<2;omega) (by rw[BU];rfl),fun i x L Z X=>?_⟩
    match i,Z,X with
    |0,Z,X=>
     cases Z;cases X;rw[rq,iJ];refine mD (o:=true) y ?_;rw[BU,VK];rfl
    |1,Z,X=>
     cases Z;cases X;rw[rq,iJ];refine mD (o:=true) y ?_;rw[BU,VK];rfl
    |i+2,Z,_=>simp at Z
 ·rw[Xu h,h];exact⟨_,_,_,_,rfl,jD,jD,LS,jD⟩
 ·rw[Xv h,h]
  refine⟨_,_,_,_,rfl,jD,jD,LS,?_⟩;have V:(dX [110] (zQ (fz x)) (x.afu (ctM x)) (zQ (Ae x))).K.length=ctM x:=by show(kT _).length=_;rw[eh,ae4.afG]
  rw[V];have:=wh x;exact mD (o:=true) (by omega) (by rw[R7];rfl)
 ·rw[Xw h,h];exact⟨_,_,_,_,rfl,jD,jD,LS,jD⟩
 ·rw[Xx h,h];exact⟨_,_,_,_,rfl,jD,jD,LS,jD⟩
section
variable{M:Mem}{p:Nat}{s:afb}(h:M[p]? =some s)
include M p s h
theorem fj(Z:Mem):(M++Z)[p]? =some s:=by rw[List.getElem?_append_left (gL h)];exact h
theorem ON:p<M.length:=gL h
end
theorem afi.refs{v:AV}(h:afi N v es n C)(x:Nat):v.ae6 (fun b=>decide (b<N.length+x))=true:=by
 rcases h with⟨rfl,_⟩ | ⟨b,o,rfl,_,h⟩
 ·rfl
 ·have:=ON h
  simp only[AV.ae6,decide_eq_true_eq];omega
theorem af7.refs{e:List AV}{c:Evc}(h:af7 N e c)(x:Nat):AV.afa (fun b=>decide (b<N.length+x)) e=true:=by obtain⟨b,u,O,M,rfl,Z,X,⟨_,_,h3,_⟩,V⟩:=h;have U:=Z.refs x;have S:=X.refs x;have R:=h3.refs x;have Q:=V.refs x;simp only[Evc.cells,AV.afa,U,S,R,Q,AV.ae6,Bool.and_self]
def kj(s:afh)(p t:Nat):AV:=.agg [.slice p 0 s.P.length none,.slice t 0 s.T.length none]
theorem Va{x:ae4}{b:Rat×Rat}(y:(x.afu c)[i]? =some a)(H:(x.afu c)[i+1]? =some b):b.1-a.1≠0:=by
 have:=GI y H
 grind
section
variable {x:ae4}{s:afh}{M:Mem}{p t:Nat}{o o' :Bool}{ev:List AV}
end
end Go.Proofs
