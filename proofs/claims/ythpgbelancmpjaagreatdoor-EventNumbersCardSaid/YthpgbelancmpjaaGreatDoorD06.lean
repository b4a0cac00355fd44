/- See D38. -/
import Derived.Test.YthpgbelancmpjaaGreatDoorD04
import Derived.Lib.Atoi
import Derived.Lib.Strings
import Derived.Lib.Bytealg
import Derived.Lib.IndexLaws
set_option linter.all false
namespace Go.Eng
def SQ(k:Nat):UInt8:=UInt8.ofNat (48+k)
def isD(c:UInt8):Bool:=decide (48<=c.toNat)&&decide (c.toNat<=57)
def VM:Nat->Nat->List UInt8->List UInt8
 |0,_,acc=>acc
 |f+1,u,acc=>if u<10 then SQ u::acc else VM f (u / 10) (SQ (u%10)::acc)
def ai(u:Nat):List UInt8:=VM (u.log2+1) u []
theorem Pj:∀(f u:Nat) (acc:List UInt8),u<2 ^ f->0<f->VM f u acc=Lib.decDigits u++acc
 |0,u,acc,_,h=>by omega
 |f+1,u,acc,h,_=>by
  unfold VM;by_cases Z:u<10
  .rw[if_pos Z,Lib.decDigits,dif_pos Z];rfl
  .rw[if_neg Z,Lib.decDigits,dif_neg Z]
   have X:0<f:=by
    cases f with
    |zero=>simp at h;omega
    |succ f=>omega
   rw[Pj f (u / 10) _ (by rw[Nat.pow_succ] at h;omega) X];simp[SQ]
theorem ve(u:Nat):ai u=Lib.decDigits u:=by unfold ai;rw[Pj _ _ _ Nat.lt_log2_self (by omega)];simp
variable{u:Nat}
theorem gT(h:u<10):ai u=[SQ u]:=by rw[ve,Lib.decDigits,dif_pos h];rfl
theorem sW(h:¬u<10):ai u=ai (u / 10)++[SQ (u%10)]:=by
 have e:Lib.decDigits u=Lib.decDigits (u / 10)++[UInt8.ofNat (48+u%10)]:=by
  conv=>lhs;rw[Lib.decDigits]
  rw[dif_neg h]
 unfold SQ;rw[ve u,ve (u / 10),e]
def vw(a:Nat)(l:List UInt8):Nat:=l.foldl (fun a c=>10*a+(c.toNat-48)) a
theorem dM(a:Nat):vw a []=a:=by unfold vw;rw[List.foldl_nil]
theorem fm(a:Nat)(c:UInt8)(r:List UInt8):vw a (c::r)=vw (10*a+(c.toNat-48)) r:=by unfold vw;rw[List.foldl_cons]
def fl(l:List UInt8):Nat:=vw 0 l
theorem vt:∀(l r:List UInt8) (a:Nat),vw a (l++r)=vw (vw a l) r
 | [],_,a=>by rw[List.nil_append,dM]
 |c::l,r,a=>by rw[List.cons_append,fm,fm,vt l r]
theorem oH(l:List UInt8)(c:UInt8):fl (l++[c])=10*fl l+(c.toNat-48):=by unfold fl;rw[vt,fm,dM]
variable{k:Nat}
theorem sO(h:k<10):(SQ k).toNat=48+k:=by unfold SQ;simp[UInt8.toNat_ofNat'];omega
theorem O0(h:k<10):isD (SQ k)=true:=by unfold isD;rw[sO h];simp;omega
variable{c:UInt8}
theorem B7(h:isD c=true):SQ (c.toNat-48)=c:=by unfold isD at h;simp only[C0,Es] at h;unfold SQ;apply UInt8.toNat_inj.1;simp[UInt8.toNat_ofNat'];omega
theorem tS(h:isD c=true):c.toNat-48<10:=by unfold isD at h;simp only[C0,Es] at h;omega
theorem wO{p:Nat->Prop}(h0:∀u,u<10->p u)(h1:∀u,¬u<10->p (u / 10)->p u)(u:Nat):p u:=by
 induction u using Nat.strongRecOn with
 |_ u ih=>
  by_cases h:u<10
  .exact h0 u h
  .exact h1 u h (ih (u / 10) (by omega))
theorem dK(u:Nat):fl (ai u)=u:=by
 induction u using wO with
 |h0 u h=>
  rw[gT h];unfold fl;rw[fm,dM,sO h];omega
 |h1 u h ih=>rw[sW h,oH,ih,sO (by omega)];omega
theorem dH(u:Nat):(ai u).all isD=true:=by
 induction u using wO with
 |h0 u h=>rw[gT h];simp[O0 h]
 |h1 u h ih=>rw[sW h,List.all_append,ih];simp[O0 (show u%10<10 by omega)]
theorem jQ(u:Nat):ai u≠[]:=by
 induction u using wO with
 |h0 u h=>rw[gT h];simp
 |h1 u h ih=>rw[sW h];simp
theorem pN(u:Nat):0<(ai u).length:=List.length_pos_iff.2 (jQ u)
theorem wN(u:Nat)(H:0<u):(ai u).head? ≠some 48:=by
 induction u using wO with
 |h0 u h=>
  rw[gT h];simp only[List.head?_cons,ne_eq,Pi];intro e;have:=congrArg UInt8.toNat e;rw[sO h] at this;simp at this;omega
 |h1 u h ih=>
  rw[sW h,List.head?_append];have:=ih (by omega);cases hh:(ai (u / 10)).head? with
  |none=>exact absurd (List.head?_eq_none_iff.1 hh) (jQ _)
  |some x=>rw[hh] at this;simpa using this
theorem iY:ai 0=[48]:=by rw[gT (by omega)];rfl
def gK(l:List UInt8):Bool:=match l with
 | []=>false
 |c::r=>isD c&&r.all isD&&(!(c==48)||r.isEmpty)
theorem N2(u:Nat):gK (ai u)=true:=by
 have Z:=dH u;have X:=jQ u;by_cases V:u=0
 .subst V;rw[iY];rfl
 .have h3:=wN u (by omega)
  cases hl:ai u with
  |nil=>exact absurd hl X
  |cons c r=>
   rw[hl] at Z h3;simp only[QQb,C0] at Z;simp only[List.head?_cons,ne_eq,Pi] at h3;simp[gK,Z.1,Z.2,h3]
variable{l:List UInt8}
theorem NZ(H:l≠[])(h:gK (l++[c])=true):gK l=true/\isD c=true/\l≠[48]:=by
 cases l with
 |nil=>exact absurd rfl H
 |cons x r=>
  simp only[List.cons_append,gK,List.all_append,QQb,List.all_nil,Bool.and_true,C0] at h;obtain⟨⟨V,U,h3⟩,Z⟩:=h;have X:(x==48)=false:=by
   cases hx:x==48 with
   |false=>rfl
   |true=>rw[hx] at Z;simp at Z
  refine⟨by simp[gK,V,U,X],h3,?_⟩;intro e;cases e;simp at X
theorem Xi{p:List UInt8->Prop}(h0:p [])(h1:∀l c,p l->p (l++[c]))(l:List UInt8):p l:=by
 have:∀n (l:List UInt8),l.length=n->p l:=by
  intro n;induction n with
  |zero=>intro l Z;rw[Mp Z];exact h0
  |succ n ih=>
   intro l Z;have X:l≠[]:=by intro e;rw[e] at Z;simp at Z
   rw[<-List.dropLast_concat_getLast X];exact h1 _ _ (ih _ (by simp[Z]))
 exact this _ l rfl
theorem sh(h:gK l=true):ai (fl l)=l:=by
 induction l using Xi with
 |h0=>cases h
 |h1 l c ih=>
  by_cases X:l=[]
  .subst X
   simp only[List.nil_append,gK,List.all_nil,Bool.and_true,List.isEmpty_nil,Bool.or_true] at h;unfold fl;rw[List.nil_append,fm,dM,Nat.mul_zero,QQZ,gT (tS h),B7 h]
  .obtain⟨h1,V,h3⟩:=NZ X h
   have Z:=ih h1;have U:fl l≠0:=by intro e;rw[e,iY] at Z;exact h3 Z.symm
   have S:=tS V;rw[oH,sW (by omega),show(10*fl l+(c.toNat-48)) / 10=fl l by omega,show(10*fl l+(c.toNat-48))%10=c.toNat-48 by omega,Z,B7 V]
def xe(l:List UInt8):Option Nat:=if gK l then some (fl l) else none
theorem bq(u:Nat):xe (ai u)=some u:=by unfold xe;rw[if_pos (N2 u),dK]
theorem gN(h:xe l=some u):l=ai u:=by
 unfold xe at h;split at h
 next Z=>cases h;exact(sh Z).symm
 .cases h
variable{v:Nat}
theorem AI(h:ai u=ai v):u=v:=by rw[<-dK u,h,dK]
theorem CH(u:Nat)(H:0<u):10 ^ ((ai u).length-1)<=u:=by
 induction u using wO with
 |h0 u h=>rw[gT h];simp;omega
 |h1 u h ih=>
  rw[sW h];have:=ih (by omega);have Z:=pN (u / 10);simp only[SP,List.length_singleton,Nat.add_sub_cancel];have e:10 ^ (ai (u / 10)).length=10 ^ ((ai (u / 10)).length-1)*10:=by rw[<-Nat.pow_succ];congr 1;omega
  rw[e];omega
theorem cm(u:Nat):u<10 ^ (ai u).length:=by rw[ve,Lib.decDigits_length];exact Lib.lt_pow_nDigits u
theorem aN(H:0<k)(h:u<10 ^ k):(ai u).length<=k:=by
 by_cases Z:u=0
 .subst Z;rw[iY];exact H
 .have V:=CH u (by omega)
  have X:10 ^ ((ai u).length-1)<10 ^ k:=by omega
  have:=(Nat.pow_lt_pow_iff_right (by omega:1<10)).1 X;omega
def bL(n:Int):List UInt8:=match n with
 |.ofNat u=>ai u
 |.negSucc u=>45::ai (u+1)
theorem Tn(n:Int):bL n=Lib.itoa n:=by
 unfold Lib.itoa;cases n with
 |ofNat u=>rw[if_neg (by simp)];simp[bL,ve]
 |negSucc u=>rw[if_pos (Int.negSucc_lt_zero u)];simp[bL,ve]
def iH(l:List UInt8):Option Int:=match l with
 |45::r=>match xe r with
  |some (u+1)=>some (.negSucc u)
  |_=>none
 |l=>match xe l with
  |some u=>some (.ofNat u)
  |none=>none
theorem pM(u:Nat):(ai u).head? ≠some 45:=by
 cases hl:ai u with
 |nil=>simp
 |cons c r=>
  have:=dH u;rw[hl] at this;simp only[QQb,C0] at this;simp only[List.head?_cons,ne_eq,Pi];rintro rfl;exact absurd this.1 (by decide)
theorem aD(n:Int):iH (bL n)=some n:=by
 cases n with
 |ofNat u=>
  have h:=pM u;simp only[bL];unfold iH;split
  .rename_i r Z
   rw[Z] at h;simp at h
  .rw[bq]
 |negSucc u=>simp[bL,iH,bq]
theorem bK{n:Int}(h:iH l=some n):l=bL n:=by
 unfold iH at h;split at h
 .split at h
  .rename_i Z
   cases h;simp[bL,gN Z]
  .cases h
 .split at h
  .rename_i Z
   cases h;simp[bL,gN Z]
  .cases h
theorem VD{m n:Int}(h:bL m=bL n):m=n:=by have:=aD m;rw[h,aD] at this;exact(ZQ this).symm
theorem aK(n:Int):Lib.hasPrefix (bL n) [45]=decide (n<0):=by
 cases n with
 |ofNat u=>
  have h:=pM u;simp only[bL];cases hl:ai u with
  |nil=>exact absurd hl (jQ u)
  |cons c r=>
   rw[hl] at h;simp only[List.head?_cons,ne_eq,Pi] at h;rw[show decide (Int.ofNat u<0)=false by simp];have Z :¬(45:UInt8)=c:=fun e=>h e.symm
   simp[Lib.hasPrefix,List.isPrefixOf,Z]
 |negSucc u=>simp[bL,Lib.hasPrefix,List.isPrefixOf,Int.negSucc_lt_zero]
theorem aF(n:Int):Lib.trimPrefix (bL n) [45]=ai n.natAbs:=by
 unfold Lib.trimPrefix;rw[aK];cases n with
 |ofNat u=>
  rw[show decide (Int.ofNat u<0)=false by simp];rfl
 |negSucc u=>simp[bL,Int.negSucc_lt_zero,Int.natAbs]
theorem Lj(h:isD c=true):Lib.digitVal c=some (c.toNat-48):=by unfold isD at h;simp only[C0,Es] at h;unfold Lib.digitVal;rw[if_pos h]
theorem yV:∀(l:List UInt8) (a:Nat),l.all isD=true->Lib.decFrom a l=some (vw a l)
 | [],a,_=>by rw[dM];rfl
 |c::r,a,h=>by simp only[QQb,C0] at h;unfold Lib.decFrom;rw[Lj h.1,fm];simp only;rw[yV r _ h.2,Zq]
theorem B6(u:Nat):Lib.decNat (ai u)=some u:=by
 unfold Lib.decNat
 have h:(ai u).isEmpty=false:=by
  cases hl:ai u with
  |nil=>exact absurd hl (jQ u)
  |cons=>rfl
 rw[h];simp only[Bool.false_eq_true,if_false];rw[yV _ _ (dH u)];exact congrArg some (dK u)
theorem nP(n:Int):Lib.atoi (bL n)=some n:=by
 cases n with
 |ofNat u=>
  have Z:=pM u;have X:=dH u;have h3:=B6 u;simp only[bL];cases hl:ai u with
  |nil=>exact absurd hl (jQ u)
  |cons c r=>
   rw[hl] at Z X h3;simp only[List.head?_cons,ne_eq,Pi] at Z;simp only[QQb,C0] at X;have V:¬c=43:=by rintro rfl;exact absurd X.1 (by decide)
   simp[Lib.atoi,Z,V,h3]
 |negSucc u=>
  simp[bL,Lib.atoi,B6,Int.negSucc_eq]
theorem oo(h:(ai u).length<(ai v).length):u<v:=by
 have X:=cm u;have Z:0<v:=by
  by_cases Z:v=0
  .subst Z
   rw[iY] at h;have:=pN u;simp only[List.length_singleton] at h;omega
  .omega
 have V:=CH v Z;have h3:10 ^ (ai u).length<=10 ^ ((ai v).length-1):=P3 (by omega) (by omega);exact QXQ X (QQJ h3 V)
def kx(u v:Nat):Int:=if u<v then -1 else if v<u then 1 else 0
theorem vu:∀(l:List UInt8) (a:Nat),l.all isD=true->vw a l<(a+1)*10 ^ l.length
 | [],a,_=>by rw[dM];simp
 |c::r,a,h=>by simp only[QQb,C0] at h;have Z:=tS h.1;have:=vu r (10*a+(c.toNat-48)) h.2;rw[fm];refine QXQ this ?_;rw[List.length_cons,Nat.pow_succ,Zq (10 ^ r.length) 10,<-QQl];exact QQf _ (by omega)
theorem Ty:∀(l:List UInt8) (a:Nat),a*10 ^ l.length<=vw a l
 | [],a=>by rw[dM];simp
 |c::r,a=>by have:=Ty r (10*a+(c.toNat-48));rw[fm];refine QQJ ?_ this;rw[List.length_cons,Nat.pow_succ,Zq (10 ^ r.length) 10,<-QQl];exact QQf _ (by omega)
theorem nS:∀(l r:List UInt8) (a:Nat),l.length=r.length->l.all isD=true->r.all isD=true->Lib.compareBytes l r=kx (vw a l) (vw a r)
 | [],[],a,_,_,_=>by
  rw[dM];show(0:Int)=kx a a
  unfold kx;rw[if_neg (by omega),if_neg (by omega)]
 | [],_::_,_,h,_,_=>by simp at h
 |_::_,[],_,h,_,_=>by simp at h
 |c::l,d::r,a,h,h1,h2=>by
  simp only[List.length_cons,Nat.add_right_cancel_iff] at h;simp only[QQb,C0] at h1 h2;have V:∀{x y:UInt8}{l r:List UInt8},isD x=true->isD y=true->l.all isD=true->l.length=r.length->x<y->vw (10*a+(x.toNat-48)) l<vw (10*a+(y.toNat-48)) r:=by intro x y l r R O N U S;have M:=vu l (10*a+(x.toNat-48)) N;have G:=Ty r (10*a+(y.toNat-48));have L :x.toNat<y.toNat:=S;unfold isD at R O;simp only[C0,Es] at R O;rw[U] at M;have:(10*a+(x.toNat-48)+1)*10 ^ r.length<=(10*a+(y.toNat-48))*10 ^ r.length:=QQf _ (by omega);omega
  unfold Lib.compareBytes;rw[fm,fm];by_cases Z:c<d
  .rw[if_pos Z]
   have:=V h1.1 h2.1 h1.2 h Z;unfold kx;rw[if_pos this]
  .rw[if_neg Z]
   by_cases X:d<c
   .rw[if_pos X]
    have:=V h2.1 h1.1 h2.2 h.symm X;unfold kx;rw[if_neg (by omega),if_pos this]
   .rw[if_neg X]
    have F:¬c.toNat<d.toNat:=Z;have K:¬d.toNat<c.toNat:=X;have e:c.toNat=d.toNat:=by omega
    rw[e];exact nS l r _ h h1.2 h2.2
theorem xQ(h:(ai u).length=(ai v).length):Lib.compareBytes (ai u) (ai v)=kx u v:=by
 have:=nS (ai u) (ai v) 0 h (dH u) (dH v);rw[this];show kx (fl (ai u)) (fl (ai v))=_
 rw[dK,dK]
def jB(n:Int):Int:=if n<0 then -1 else if n=0 then 0 else 1
def Le(m n:Int):Int:=if m<n then -1 else if n<m then 1 else 0
theorem To(n:Int):bL n=[48]↔n=0:=by
 constructor
 .intro h;exact VD (h.trans (by rfl))
 .rintro rfl;rfl
theorem fT(n:Int):(bL n==[48])=decide (n=0):=by rw[Bool.eq_iff_iff];simp[To]
theorem rV(n:Int):0<(bL n).length:=by
 cases n with
 |ofNat u=>exact pN u
 |negSucc u=>simp[bL]
theorem kP{n:Int}(h:0<n):bL (-n)=45::bL n:=by
 cases n with
 |ofNat u=>
  cases u with
  |zero=>simp at h
  |succ u=>rfl
 |negSucc u=>exact absurd h (by have:=Int.negSucc_lt_zero u;omega)
theorem GN{n:Int}(h:n<0):(bL n).drop 1=bL (-n):=by have:=kP (n:= -n) (by omega);rw[Int.neg_neg] at this;rw[this];rfl
theorem gF{n:Int}(h:0<=n):bL n=ai n.natAbs:=by
 cases n with
 |ofNat u=>rfl
 |negSucc u=>exact absurd h (by have:=Int.negSucc_lt_zero u;omega)
theorem WN(a b:Int):Le a b=if jB a≠jB b then (if jB a<jB b then -1 else 1) else
  if (ai a.natAbs).length≠(ai b.natAbs).length then (if (ai a.natAbs).length<(ai b.natAbs).length then-jB a else jB a) else jB a*kx a.natAbs b.natAbs:=by
 by_cases Z:jB a≠jB b
 .rw[if_pos Z]
  unfold jB at Z |-;unfold Le
  repeat' split
  all_goals first | rfl | omega
 .rw[if_neg Z]
  by_cases V:(ai a.natAbs).length≠(ai b.natAbs).length
  .rw[if_pos V]
   by_cases X:(ai a.natAbs).length<(ai b.natAbs).length
   .rw[if_pos X]
    have:=oo X;unfold jB at Z |-;unfold Le
    repeat' split
    all_goals first | rfl | omega
   .rw[if_neg X]
    have:=oo (u:=b.natAbs) (v:=a.natAbs) (by omega);unfold jB at Z |-;unfold Le
    repeat' split
    all_goals first | rfl | omega
  .rw[if_neg V]
   unfold jB at Z |-;unfold Le kx
   repeat' split
   all_goals first | rfl | omega
def ao(q:Rat):List UInt8:=if q.den=1 then bL q.num else bL q.num++47::ai q.den
theorem wP(u:Nat):(47:UInt8)∉ai u:=by intro h;have:=List.all_eq_true.1 (dH u) _ h;exact absurd this (by decide)
theorem iI(n:Int):(47:UInt8)∉bL n:=by
 cases n with
 |ofNat u=>exact wP u
 |negSucc u=>
  simp only[bL,List.mem_cons,not_or];exact⟨by decide,wP _⟩
theorem nY:∀(l:List UInt8) (c:UInt8),c∉l->Lib.indexByte l c= -1
 | [],_,_=>rfl
 |b::l,c,h=>by simp only[List.mem_cons,not_or] at h;unfold Lib.indexByte;rw[if_neg (by simpa using fun e=>h.1 e.symm),nY l c h.2];rfl
theorem yY:∀(l r:List UInt8) (c:UInt8),c∉l->Lib.indexByte (l++c::r) c=l.length
 | [],r,c,_=>by simp[Lib.indexByte]
 |b::l,r,c,h=>by
  simp only[List.mem_cons,not_or] at h;rw[List.cons_append];unfold Lib.indexByte;rw[if_neg (by simpa using fun e=>h.1 e.symm),yY l r c h.2];have Z:¬(((l.length:Int)== -1)=true):=by rw[beq_iff_eq];omega
  rw[if_neg Z];rfl
theorem DW(q:Rat):Lib.indexByte (ao q) 47=if q.den=1 then -1 else ((bL q.num).length:Int):=by
 unfold ao;split
 .exact nY _ _ (iI _)
 .exact yY _ _ _ (iI _)
def Rx(n:Int)(d:Nat):Option Rat:=if h:1<d/\n.natAbs.gcd d=1 then some ⟨n,d,by omega,h.2⟩ else none
def dY(l:List UInt8):Option Rat:=match l.idxOf? 47 with
 |none=>match iH l with
  |some n=>some ⟨n,1,by decide,Nat.gcd_one_right _⟩
  |none=>none
 |some i=>match iH (l.take i),xe (l.drop (i+1)) with
  |some n,some d=>Rx n d
  |_,_=>none
theorem EA(h:c∉l):l.idxOf? c=none:=List.idxOf?_eq_none_iff.2 h
theorem O9{r:List UInt8}(h:c∉l):(l++c::r).idxOf? c=some l.length:=by rw[List.idxOf?_eq_some_iff];refine⟨by simp,by simp,fun j Z=>?_⟩;rw[List.getElem_append_left Z];intro e;exact h (e▸List.getElem_mem Z)
theorem aB(q:Rat):dY (ao q)=some q:=by
 unfold dY ao;by_cases h:q.den=1
 .rw[if_pos h,EA (iI _)]
  simp only[aD];congr 1;apply Rat.ext
  .rfl
  .exact h.symm
 .have Z:List.drop ((bL q.num).length+1) (bL q.num++47::ai q.den)=ai q.den:=by rw[List.drop_append];simp
  have X:List.take (bL q.num).length (bL q.num++47::ai q.den)=bL q.num:=List.take_left' rfl;have V:1<q.den:=by have:=q.den_nz;omega
  have U:q.num.natAbs.gcd q.den=1:=q.reduced;rw[if_neg h,O9 (iI _)];simp only;rw[Z,X,aD,bq];simp only[Rx];rw[dif_pos ⟨V,U⟩]
variable{q:Rat}
theorem au(h:dY l=some q):l=ao q:=by
 unfold dY at h;split at h
 .split at h
  .rename_i n Z
   cases h;unfold ao;rw[if_pos rfl];exact bK Z
  .cases h
 .rename_i i X
  split at h
  .rename_i n d Z V
   unfold Rx at h;split at h
   .rename_i R
    cases h;unfold ao;rw[if_neg (by show¬d=1;omega)];obtain⟨U,S,_⟩:=List.idxOf?_eq_some_iff.1 X;show l=bL n++47::ai d
    rw[<-bK Z,<-gN V];have:l.drop i=47::l.drop (i+1):=by rw[N0 U,S]
    rw[<-this,List.take_append_drop]
   .cases h
  .cases h
theorem eH{p:Rat}(h:ao p=ao q):p=q:=by have:=aB p;rw[h,aB] at this;exact(ZQ this).symm
theorem CL(q:Rat):ao q=[48]↔q=0:=by
 constructor
 .intro h;exact eH (h.trans (by rfl))
 .rintro rfl;rfl
theorem be(q:Rat):(ao q==[48])=decide (q=0):=by rw[Bool.eq_iff_iff];simp[CL]
theorem neg_num(q:Rat):(-q).num= -q.num:=rfl
theorem W2(q:Rat):(-q).den=q.den:=rfl
theorem mW(h:0<q.num):ao (-q)=45::ao q:=by unfold ao;rw[neg_num,W2,kP h];split<;>rfl
theorem jq(h:q.num<0):ao q=45::ao (-q):=by
 have:=mW (q:= -q) (by rw[neg_num];omega)
 rwa [Rat.neg_neg] at this
theorem mQ:q.num=0↔q=0:=by
 constructor
 .intro h
  apply Rat.ext
  .exact h
  .have:=q.reduced
   rw[h] at this;simpa [Nat.Coprime] using this
 .rintro rfl;rfl
theorem kU(h:0<=q.num):∃c r,ao q=c::r/\isD c=true:=by
 have X:∃c r,bL q.num=c::r/\isD c=true:=by
  rw[gF h];have:=dH q.num.natAbs;cases hl:ai q.num.natAbs with
  |nil=>exact absurd hl (jQ _)
  |cons c r=>
   rw[hl] at this;simp only[QQb,C0] at this;exact⟨c,r,rfl,this.1⟩
 obtain⟨c,r,e,Z⟩:=X;unfold ao;split
 .exact⟨c,r,e,Z⟩
 .exact⟨c,r++47::ai q.den,by rw[e];rfl,Z⟩
theorem fy(h:isD c=true):¬((c.toNat:Int)=45):=by unfold isD at h;simp only[C0,Es] at h;omega
def gd(q:Rat):Int:=jB q.num
def big(k:Nat)(q:Rat):Prop:=q.num.natAbs<10 ^ k/\q.den<10 ^ k
variable{m:Nat}
theorem big.mono(h:big k q)(H:k<=m):big m q:=by have:10 ^ k<=10 ^ m:=P3 (by omega) H;exact⟨by have:=h.1;omega,by have:=h.2;omega⟩
variable{d:Nat}
theorem Ph(n:Int)(hd:d≠0):(mkRat n d).num.natAbs<=n.natAbs/\(mkRat n d).den<=d:=by rw[Rat.num_mkRat,Rat.den_mkRat,if_neg hd,if_neg hd];refine⟨?_,Nat.div_le_self _ _⟩;exact Int.natAbs_ediv_le_natAbs _ _
theorem Rs{a b:Nat}(h1:a<10 ^ k)(h2:b<10 ^ k):a*b<10 ^ (2*k):=by
 have:a*b<10 ^ k*10 ^ k:=Nat.mul_lt_mul'' h1 h2
 rwa [<-Nat.pow_add,show k+k=2*k by omega] at this
theorem dn(n:Int):(bL n).length<=(ai n.natAbs).length+1:=by
 cases n with
 |ofNat u=>simp[bL]
 |negSucc u=>simp[bL]
theorem Q8(H:0<k)(h:big k q):(ao q).length<=2*k+2:=by
 have Z:=aN H h.1;have X:=aN H h.2;have h3:=dn q.num;unfold ao;split
 .omega
 .simp only[SP,List.length_cons];omega
theorem Gy(h:(ao q).length<=k):big k q:=by
 have V:=cm q.num.natAbs;have U:=cm q.den;have h3:(ai q.num.natAbs).length<=(bL q.num).length:=by
  cases q.num with
  |ofNat u=>exact L9 _
  |negSucc u=>simp[bL]
 have S:=rV q.num;have Z:(ai q.num.natAbs).length<=k/\(ai q.den).length<=k:=by
  unfold ao at h;split at h
  .rename_i X
   refine⟨by omega,?_⟩;rw[X];show 1<=k
   omega
  .simp only[SP,List.length_cons] at h
   omega
 have R:10 ^ (ai q.num.natAbs).length<=10 ^ k:=P3 (by omega) Z.1;have O:10 ^ (ai q.den).length<=10 ^ k:=P3 (by omega) Z.2;exact⟨by omega,by omega⟩
def fg(l:List (Rat×Rat))(u:Rat):Nat:=match l with
 | []=>0
 |k::r=>(if k.1<=u then 1 else 0)+fg r u
def Wx(a b:Rat×Rat):Rat:=(b.2-a.2) / (b.1-a.1)
def XO(l:List (Rat×Rat))(n:Nat):Rat×Rat:=
 if l=[] then (0,0) else if n=0 then ((l.getD 0 (0,0)).2,0) else if n=l.length then ((l.getD (n-1) (0,0)).2,0) else
  ((l.getD (n-1) (0,0)).2-Wx (l.getD (n-1) (0,0)) (l.getD n (0,0))*(l.getD (n-1) (0,0)).1,Wx (l.getD (n-1) (0,0)) (l.getD n (0,0)))
def Uj(l:List (Rat×Rat))(u:Rat):Rat:=(XO l (fg l u)).1+(XO l (fg l u)).2*u
theorem ES(l:List (Rat×Rat))(u:Rat):fg l u<=l.length:=by
 induction l with
 |nil=>exact L9 _
 |cons k r ih=>simp only[fg,List.length_cons];split<;>omega
variable{x:Int}
theorem fU{y:Int}{a b:Nat}(h1:x.natAbs<a)(h2:y.natAbs<b):(x*y).natAbs<a*b:=by rw[QQg];exact Nat.mul_lt_mul'' h1 h2
def dg(n d:Nat)(q:Rat):Prop:=q.num.natAbs<10 ^ n/\q.den<10 ^ d
variable{d' n n' :Nat}
theorem dg.mono(h:dg n d q)(H:n<=n')(hd:d<=d'):dg n' d' q:=by have Z:10 ^ n<=10 ^ n' :=P3 (by omega) H;have X:10 ^ d<=10 ^ d' :=P3 (by omega) hd;exact⟨by have:=h.1;omega,by have:=h.2;omega⟩
theorem pG{y:Nat}(H:y≠0)(h1:x.natAbs<10 ^ n)(h2:y<10 ^ d):dg n d (mkRat x y):=by have:=Ph x H;exact⟨by omega,by omega⟩
theorem oh{a b:Nat}(h1:a<10 ^ k)(h2:b<10 ^ m):a*b<10 ^ (k+m):=by rw[Nat.pow_add];exact Nat.mul_lt_mul'' h1 h2
variable{a b:Rat}
section
variable (ha:dg n d a)
include ha
theorem dy(H:dg n' d' b):dg (n+n') (d+d') (a*b):=by rw[Rat.mul_def'];refine pG (Nat.mul_ne_zero a.den_nz b.den_nz) ?_ (oh ha.2 H.2);rw[QQg];exact oh ha.1 H.1
theorem rN(H:dg n' d' b)(h1:n+d' <=m)(h2:n' +d<=m):dg (m+1) (d+d') (a+b):=by rw[Rat.add_def'];refine pG (Nat.mul_ne_zero a.den_nz b.den_nz) ?_ (oh ha.2 H.2);have X:=oh ha.1 H.2;have V:=oh H.1 ha.2;have Z:=Int.natAbs_add_le (a.num*b.den) (b.num*a.den);rw[QQg,QQg,Int.natAbs_natCast,Int.natAbs_natCast] at Z;have U:10 ^ (n+d')<=10 ^ m:=P3 (by omega) h1;have S:10 ^ (n' +d)<=10 ^ m:=P3 (by omega) h2;have R:10 ^ (m+1)=10 ^ m*10:=Nat.pow_succ ..;omega
theorem SO:dg n d (-a):=by refine⟨?_,ha.2⟩;rw[Rat.neg_num,Int.natAbs_neg];exact ha.1
theorem Li(H:dg n' d' b)(h1:n+d' <=m)(h2:n' +d<=m):dg (m+1) (d+d') (a-b):=by rw[Rat.sub_eq_add_neg];exact rN ha (SO H) h1 h2
theorem Xy(h0:a≠0):dg d n a⁻¹:=by
 have Z:a.num≠0:=fun h=>h0 (Rat.num_eq_zero.1 h)
 refine⟨?_,?_⟩
 .rw[Rat.num_inv,QQg,Int.natAbs_natCast]
  have:=ha.2;have X:a.num.sign.natAbs<=1:=by
   rcases Int.lt_trichotomy a.num 0 with h | h | h
   .rw[Int.sign_eq_neg_one_of_neg h];decide
   .rw[h];decide
   .rw[Int.sign_eq_one_of_pos h];decide
  have:a.num.sign.natAbs*a.den<=1*a.den:=QQf _ X;omega
 .rw[Rat.den_inv,if_neg Z]
  exact ha.1
theorem SN(H:dg n' d' b)(h0:b≠0):dg (n+d') (d+n') (a / b):=by rw[Rat.div_def];exact dy ha (Xy H h0)
end
theorem Lh(h:x.natAbs<10 ^ n):dg n 1 (x:Rat):=⟨by simpa using h,by show(1:Nat)<10;decide⟩
theorem dg.lens(h:dg n d q)(H:0<n)(hd:0<d):(ai q.num.natAbs).length<=n/\(ai q.den).length<=d:=
 ⟨aN H h.1,aN hd h.2⟩
def stC(l:List (List UInt8)):List AV:=l.map .str
theorem lJ(l:List (List UInt8)):(stC l).length=l.length:=by simp[stC]
theorem ea:∀l:List (List UInt8),AV.afm (stC l)=true
 | []=>rfl
 |x::l=>by have:=ea l;simp only[stC] at this;simp[stC,AV.afm,AV.closed,this]
variable{i:Nat}
theorem Mi{l:List (List UInt8)}{s:List UInt8}(h:l[i]? =some s):(stC l)[i]? =some (.str s):=by simp[stC,h]
def stP:List AV->Option (List (List UInt8))
 | []=>some []
 |.str a::l=>match stP l with
  |some r=>some (a::r)
  |none=>none
 |_=>none
theorem Ud:∀L:List (List UInt8),stP (stC L)=some L
 | []=>rfl
 |k::L=>by have:=Ud L;simp only[stC] at this;simp[stC,stP,this]
theorem Pw:∀{cs:List AV} {L:List (List UInt8)},stP cs=some L->cs=stC L
 | [],L,h=>by cases h;rfl
 |v::l,L,h=>by
  unfold stP at h;split at h
  next Z=>cases Z
  .rename_i a V Z
   cases Z;split at h
   .rename_i r X
    cases h;have:=Pw X;simp only[stC] at this |-;rw[this];rfl
   .cases h
  .cases h
def sts(M:Mem)(x:AV):Option (List (List UInt8)):=match KY 1 M x with
 |some cs=>stP cs
 |none=>none
theorem V6{M:Mem}{x:AV}{L:List (List UInt8)}(h:sts M x=some L):Wf 1 M x L.length (stC L)\/(x=.qF/\L=[]):=by
 unfold sts at h;split at h
 .rename_i S Z
  have V:=Pw h;subst V;rcases N4 Z with⟨n,X,U⟩ | ⟨rfl,X⟩
  .have:n=L.length:=by rw[lJ] at X;omega
   subst this;exact .inl U
  .refine .inr ⟨rfl,?_⟩
   cases L with
   |nil=>rfl
   |cons a l=>simp[stC] at X
 .cases h
abbrev P2:=Rat×Rat
def pA(p:P2):AV:=.agg [.str (ao p.1),.str (ao p.2)]
def pDg(n:Nat)(p:P2):Prop:=dg n n p.1/\dg n n p.2
def cf(a b c:P2):Rat:=(b.1-a.1)*(c.2-a.2)-(b.2-a.2)*(c.1-a.1)
def pC:List P2->List AV
 | []=>[]
 |p::l=>.str (ao p.1)::.str (ao p.2)::pC l
theorem CG:∀l:List P2,(pC l).length=l.length*2
 | []=>rfl
 |_::l=>by simp only[pC,List.length_cons,CG l];omega
theorem dX:∀l:List P2,AV.afm (pC l)=true
 | []=>rfl
 |p::l=>by simp[pC,AV.afm,AV.closed,dX l]
theorem vj(n:Nat):∀l:List P2,AV.afy n (pC l)=[]
 | []=>rfl
 |p::l=>by simp[pC,AV.afy,AV.refs,vj n l]
theorem Pm(f:Nat->Option Nat)(l:List P2):AV.afz f (pC l)=pC l:=aL (dX l)
theorem XV:pC []=[]:=rfl
theorem TP(f:Nat->Bool):∀l:List P2,AV.afn f (pC l)=true
 | []=>rfl
 |p::l=>by simp[pC,AV.afn,AV.adM,TP f l]
theorem LS:∀l r:List P2,pC (l++r)=pC l++pC r
 | [],_=>rfl
 |p::l,r=>by simp[pC,LS l r]
theorem TO:∀(l:List P2) (i:Nat),(pC l).drop (i*2)=pC (l.drop i)
 |l,0=>by simp
 | [],i+1=>by simp[pC]
 |p::l,i+1=>by
  have:(i+1)*2=i*2+1+1:=by omega
  rw[this];simp only[pC,List.drop_succ_cons];exact TO l i
theorem vi{l:List P2}{p:P2}(h:l[i]? =some p):
  ((pC l).drop (i*2)).take 2=[.str (ao p.1),.str (ao p.2)]/\(pC l)[i*2]? =some (.str (ao p.1))/\(pC l)[i*2+1]? =some (.str (ao p.2))/\i*2+2<=(pC l).length:=by
 have U:=gL h;have Z:l.drop i=p::l.drop (i+1):=by rw[Ns] at h;obtain⟨X,V⟩:=h;rw[<-V];exact N0 X
 have e:=TO l i;rw[Z] at e;refine⟨by rw[e];rfl,?_,?_,by rw[CG];omega⟩
 .have:(pC l)[i*2]? =((pC l).drop (i*2))[0]? :=by rw[QQa];rfl
  rw[this,e];rfl
 .have:(pC l)[i*2+1]? =((pC l).drop (i*2))[1]? :=by rw[QQa]
  rw[this,e];rfl
abbrev Tr:=Nat×Nat×Nat
def tC:List Tr->List AV
 | []=>[]
 |t::l=>.int .i64 (t.1:Int)::.int .i64 (t.2.1:Int)::.int .i64 (t.2.2:Int)::tC l
theorem Ml:∀l:List Tr,(tC l).length=l.length*3
 | []=>rfl
 |_::l=>by simp only[tC,List.length_cons,Ml l];omega
theorem fW:∀l:List Tr,AV.afm (tC l)=true
 | []=>rfl
 |p::l=>by simp[tC,AV.afm,AV.closed,fW l]
theorem sD(n:Nat):∀l:List Tr,AV.afy n (tC l)=[]
 | []=>rfl
 |p::l=>by simp[tC,AV.afy,AV.refs,sD n l]
theorem Mm(f:Nat->Option Nat)(l:List Tr):AV.afz f (tC l)=tC l:=aL (fW l)
theorem Uf:∀(l:List Tr) (i:Nat),(tC l).drop (i*3)=tC (l.drop i)
 |l,0=>by simp
 | [],i+1=>by simp[tC]
 |p::l,i+1=>by
  have:(i+1)*3=i*3+1+1+1:=by omega
  rw[this];simp only[tC,List.drop_succ_cons];exact Uf l i
theorem Mk{l:List Tr}{t:Tr}(h:l[i]? =some t):
  ((tC l).drop (i*3)).take 3=[.int .i64 (t.1:Int),.int .i64 (t.2.1:Int),.int .i64 (t.2.2:Int)]/\i*3+3<=(tC l).length:=by
 have U:=gL h;have Z:l.drop i=t::l.drop (i+1):=by rw[Ns] at h;obtain⟨X,V⟩:=h;rw[<-V];exact N0 X
 have e:=Uf l i;rw[Z] at e;exact⟨by rw[e];rfl,by rw[Ml];omega⟩
def pmE(p:P2):AV×AV:=(pA p,.bool true)
theorem G4(n:Nat):∀l:List P2,(l.map pmE).flatMap (fun e=>e.1.refs n++e.2.refs n)=[]
 | []=>rfl
 |p::l=>by simp[pmE,pA,AV.refs,AV.afy,G4 n l]
def sqI:List (Int×Int):=[(0,0),(4,0),(4,4),(0,4)]
def ej:Nat->List (Int×Int)
 |0=>sqI
 |1=>sqI
 |2=>[(0,0),(4,0),(4,4),(0,4),(2,1)]
 |3=>[(0,0),(6,0),(0,4)]
 |4=>[(0,0),(2,0),(4,0),(0,2),(2,2),(4,2)]
 |5=>[(1,4),(5,3),(4,0),(0,0)]
 |6=>[(0,0),(4,0),(4,4),(0,4),(2,0)]
 |_=>[(0,0),(6,0),(0,6),(2,2)]
def bY:Nat->List Tr
 |0=>[(0,1,2),(0,2,3)]
 |1=>[(0,1,3),(1,2,3)]
 |2=>[(0,1,4),(1,2,4),(2,3,4),(3,0,4)]
 |3=>[(2,0,1)]
 |4=>[(0,1,4),(0,4,3),(1,2,5),(1,5,4)]
 |5=>[(3,2,1),(3,1,0)]
 |6=>[(0,4,3),(4,2,3),(4,1,2)]
 |_=>[(0,1,3),(1,2,3),(2,0,3)]
def mu:Nat->List Nat
 |2=>[0,1,2,3]
 |3=>[0,1,2]
 |4=>[0,1,2,5,4,3]
 |5=>[0,3,2,1]
 |6=>[0,4,1,2,3]
 |7=>[0,1,2]
 |_=>[0,1,2,3]
def iP:List (Int×Int)->List AV
 | []=>[]
 |p::l=>.int .i64 p.1::.int .i64 p.2::iP l
theorem Lx:∀l:List (Int×Int),(iP l).length=l.length*2
 | []=>rfl
 |_::l=>by simp only[iP,List.length_cons,Lx l];omega
theorem Oe(n:Nat):∀l:List (Int×Int),AV.afy n (iP l)=[]
 | []=>rfl
 |p::l=>by simp[iP,AV.afy,AV.refs,Oe n l]
theorem Lw:∀l:List (Int×Int),AV.afm (iP l)=true
 | []=>rfl
 |p::l=>by simp[iP,AV.afm,AV.closed,Lw l]
theorem Ti(f:Nat->Option Nat)(l:List (Int×Int)):AV.afz f (iP l)=iP l:=aL (Lw l)
theorem Th:∀(l:List (Int×Int)) (i:Nat),(iP l).drop (i*2)=iP (l.drop i)
 |l,0=>by simp
 | [],i+1=>by simp[iP]
 |p::l,i+1=>by
  have:(i+1)*2=i*2+1+1:=by omega
  rw[this];simp only[iP,List.drop_succ_cons];exact Th l i
theorem YE{l:List (Int×Int)}{p:Int×Int}(h:l[i]? =some p):
  (iP l)[i*2]? =some (.int .i64 p.1)/\(iP l)[i*2+1]? =some (.int .i64 p.2)/\i*2+2<=(iP l).length:=by
 have U:=gL h;have Z:l.drop i=p::l.drop (i+1):=by rw[Ns] at h;obtain⟨X,V⟩:=h;rw[<-V];exact N0 X
 have e:=Th l i;rw[Z] at e;refine⟨?_,?_,by rw[Lx];omega⟩
 .have:(iP l)[i*2]? =((iP l).drop (i*2))[0]? :=by rw[QQa];rfl
  rw[this,e];rfl
 .have:(iP l)[i*2+1]? =((iP l).drop (i*2))[1]? :=by rw[QQa]
  rw[this,e];rfl
structure afq where
 kind:Nat
 sx:Int
 sy:Int
 half:Bool
structure afq.Ok (s:afq):Prop where
 kind:s.kind<256
 x0: -128<=s.sx
 x1:s.sx<=127
 y0: -128<=s.sy
 y1:s.sy<=127
def afq.av(s:afq):AV:=.agg [.int .u8 s.kind,.int .i8 s.sx,.int .i8 s.sy,.bool s.half]
def afq.pt(s:afq)(k:Nat)(x y:Int):P2:=
 (mkRat (x+s.sx.tmod 8*k) ((if s.half then 2 else 1)*k),mkRat (y+s.sy.tmod 8*k) ((if s.half then 2 else 1)*k))
def afq.P(s:afq):List P2:=(ej (s.kind%8)).map fun p=>s.pt 1 p.1 p.2
def afq.T(s:afq):List Tr:=bY (s.kind%8)
theorem Um{n:Int}(h0: -128<=n)(h1:n<=127):IntKind.i8.wrap n=n:=by simp only[IntKind.wrap,IntKind.bits,IntKind.signed,Bool.true_and];split<;>simp_all<;>omega
theorem RK(x:Int): -7<=x.tmod 8/\x.tmod 8<=7:=by
 have Z:=Int.tmod_lt_of_pos x (show(0:Int)<8 by decide);have X: -8<x.tmod 8:=by have:=Int.tmod_lt_of_pos (-x) (show(0:Int)<8 by decide);rw[Int.neg_tmod] at this;omega
 omega
def qC(Q:List Rat):List AV:=Q.map fun q=>.str (ao q)
theorem LW(Q:List Rat):(qC Q).length=Q.length:=by simp[qC]
theorem oz:∀Q:List Rat,AV.afm (qC Q)=true
 | []=>rfl
 |q::Q=>by have:=oz Q;simp only[qC] at this;simp[qC,AV.afm,AV.closed,this]
theorem gu(n:Nat):∀Q:List Rat,AV.afy n (qC Q)=[]
 | []=>rfl
 |q::Q=>by have:=gu n Q;simp only[qC] at this;simp[qC,AV.afy,AV.refs,this]
theorem TR(f:Nat->Bool):∀Q:List Rat,AV.afn f (qC Q)=true
 | []=>rfl
 |q::Q=>by have:=TR f Q;simp only[qC] at this;simp[qC,AV.afn,AV.adM,this]
theorem kS(f:Nat->Option Nat)(Q:List Rat):AV.afz f (qC Q)=qC Q:=aL (oz Q)
theorem Ov{Q:List Rat}(h:Q[i]? =some q):(qC Q)[i]? =some (.str (ao q)):=by simp[qC,h]
structure ahF where
 kind:Nat
 A:Int×Int×Int
 B:Int×Int×Int
 N:Int
 K:Nat×Nat×Nat×Nat
def ahF.cells(d:ahF):List AV:=[.int .u8 d.kind,.int .i8 d.A.1,.int .i8 d.A.2.1,.int .i8 d.A.2.2,.int .i8 d.B.1,.int .i8 d.B.2.1,.int .i8 d.B.2.2,.int .i8 d.N,.int .u8 d.K.1,.int .u8 d.K.2.1,.int .u8 d.K.2.2.1,.int .u8 d.K.2.2.2]
def AD(n:Int):Prop:= -128<=n/\n<=127
def XI(v:Int×Int×Int):Prop:=AD v.1/\AD v.2.1/\AD v.2.2
def YK(v:Nat×Nat×Nat×Nat):Prop:=v.1<256/\v.2.1<256/\v.2.2.1<256/\v.2.2.2<256
structure ahF.Ok (d:ahF):Prop where
 kind:d.kind<256
 A:XI d.A
 B:XI d.B
 N:AD d.N
 K:YK d.K
def hQ(z:Int):Rat:=mkRat z 2
theorem mO(z:Int):hQ z=(z:Rat) / 2:=by unfold hQ;rw[Rat.mkRat_eq_div];rfl
theorem Wj(a b:Int):hQ a+hQ b=hQ (a+b):=by
 rw[mO,mO,mO,Rat.intCast_add]
 grind
theorem Yz{a b:Int}(h:a<=b):hQ a<=hQ b:=by
 rw[mO,mO];have:(a:Rat)<=(b:Rat):=by exact_mod_cast h
 grind
variable{z:Int}
theorem VB(h:z.natAbs<1000):dg 3 1 (hQ z):=pG (by decide) h (by decide)
theorem Cc(h:z.natAbs<1000):(ao (hQ z)).length<=9:=by have Z:=VB h;have X:big 3 (hQ z):=⟨Z.1,by have:=Z.2;omega⟩;have:=Q8 (by decide) X;omega
def qH(Z:List Int):List Rat:=Z.map hQ
theorem Ao(x:Int)(k:Nat)(H:0<k): -(k:Int)<x.tmod k/\x.tmod k<k:=by have X:=Int.tmod_lt_of_pos x (show(0:Int)<(k:Int) by omega);have Z:=Int.tmod_lt_of_pos (-x) (show(0:Int)<(k:Int) by omega);rw[Int.neg_tmod] at Z;omega
end Go.Eng
