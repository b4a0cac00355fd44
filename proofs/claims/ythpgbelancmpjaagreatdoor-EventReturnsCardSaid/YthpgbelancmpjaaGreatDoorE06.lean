/- See E54. -/
import Derived.Test.YthpgbelancmpjaaGreatDoorE04
import Derived.Lib.Atoi
import Derived.Lib.Strings
import Derived.Lib.Bytealg
import Derived.Lib.IndexLaws
set_option linter.all false
namespace Go.Eng
def Rx(k:Nat):UInt8:=UInt8.ofNat (48+k)
def isD(c:UInt8):Bool:=decide (48≤c.toNat)&&decide (c.toNat≤57)
def UH:Nat→Nat→List UInt8→List UInt8
 |0,_,acc=>acc
 |f+1,u,acc=>if u<10 then Rx u::acc else UH f (u / 10) (Rx (u%10)::acc)
def au(u:Nat):List UInt8:=UH (u.log2+1) u []
theorem N7:∀(f u:Nat) (acc:List UInt8),u<2 ^ f→0<f→UH f u acc=Lib.decDigits u++acc
 |0,u,acc,_,h=>by omega
 |f+1,u,acc,h,_=>by
  unfold UH;by_cases Z:u<10
  ·rw[if_pos Z,Lib.decDigits,dif_pos Z];rfl
  ·rw[if_neg Z,Lib.decDigits,dif_neg Z]
   have X:0<f:=by
    cases f with
    |zero=>simp at h;omega
    |succ f=>omega
   rw[N7 f (u / 10) _ (by rw[Nat.pow_succ] at h;omega) X];simp[Rx]
theorem uB(u:Nat):au u=Lib.decDigits u:=by unfold au;rw[N7 _ _ _ Nat.lt_log2_self (by omega)];simp
variable{u:Nat}
theorem fX(h:u<10):au u=[Rx u]:=by rw[uB,Lib.decDigits,dif_pos h];rfl
theorem sB(h:¬u<10):au u=au (u / 10)++[Rx (u%10)]:=by
 have e:Lib.decDigits u=Lib.decDigits (u / 10)++[UInt8.ofNat (48+u%10)]:=by
  conv=>lhs;rw[Lib.decDigits]
  rw[dif_neg h]
 unfold Rx;rw[uB u,uB (u / 10),e]
def uL(a:Nat)(l:List UInt8):Nat:=l.foldl (fun a c=>10*a+(c.toNat-48)) a
theorem dP(a:Nat):uL a []=a:=by unfold uL;rw[List.foldl_nil]
theorem ej(a:Nat)(c:UInt8)(r:List UInt8):uL a (c::r)=uL (10*a+(c.toNat-48)) r:=by unfold uL;rw[List.foldl_cons]
def fm(l:List UInt8):Nat:=uL 0 l
theorem uK:∀(l r:List UInt8) (a:Nat),uL a (l++r)=uL (uL a l) r
 | [],_,a=>by rw[List.nil_append,dP]
 |c::l,r,a=>by rw[List.cons_append,ej,ej,uK l r]
theorem nw(l:List UInt8)(c:UInt8):fm (l++[c])=10*fm l+(c.toNat-48):=by unfold fm;rw[uK,ej,dP]
variable{k:Nat}
theorem sj(h:k<10):(Rx k).toNat=48+k:=by unfold Rx;simp[UInt8.toNat_ofNat'];omega
theorem NP(h:k<10):isD (Rx k)=true:=by unfold isD;rw[sj h];simp;omega
variable{c:UInt8}
theorem Bo(h:isD c=true):Rx (c.toNat-48)=c:=by unfold isD at h;simp only[Bool.and_eq_true,decide_eq_true_eq] at h;unfold Rx;apply UInt8.toNat_inj.1;simp[UInt8.toNat_ofNat'];omega
theorem sZ(h:isD c=true):c.toNat-48<10:=by unfold isD at h;simp only[Bool.and_eq_true,decide_eq_true_eq] at h;omega
theorem vV{p:Nat→Prop}(h0:∀u,u<10→p u)(h1:∀u,¬u<10→p (u / 10)→p u)(u:Nat):p u:=by
 induction u using Nat.strongRecOn with
 |_ u ih=>
  by_cases h:u<10
  ·exact h0 u h
  ·exact h1 u h (ih (u / 10) (by omega))
theorem dJ(u:Nat):fm (au u)=u:=by
 induction u using vV with
 |h0 u h=>
  rw[fX h];unfold fm;rw[ej,dP,sj h];omega
 |h1 u h ih=>rw[sB h,nw,ih,sj (by omega)];omega
theorem dC(u:Nat):(au u).all isD=true:=by
 induction u using vV with
 |h0 u h=>rw[fX h];simp[NP h]
 |h1 u h ih=>rw[sB h,List.all_append,ih];simp[NP (show u%10<10 by omega)]
theorem iS(u:Nat):au u≠[]:=by
 induction u using vV with
 |h0 u h=>rw[fX h];simp
 |h1 u h ih=>rw[sB h];simp
theorem oY(u:Nat):0<(au u).length:=List.length_pos_iff.2 (iS u)
theorem BT(u:Nat)(H:0<u):(au u).head? ≠some 48:=by
 induction u using vV with
 |h0 u h=>
  rw[fX h];simp only[List.head?_cons,ne_eq,Option.some.injEq];intro e;have:=congrArg UInt8.toNat e;rw[sj h] at this;simp at this;omega
 |h1 u h ih=>
  rw[sB h,List.head?_append];have:=ih (by omega);cases hh:(au (u / 10)).head? with
  |none=>exact absurd (List.head?_eq_none_iff.1 hh) (iS _)
  |some x=>rw[hh] at this;simpa using this
theorem rB:au 0=[48]:=by rw[fX (by omega)];rfl
def iI(l:List UInt8):Bool:=match l with
 | []=>false
 |c::r=>isD c&&r.all isD&&(!(c==48)||r.isEmpty)
theorem MO(u:Nat):iI (au u)=true:=by
 have Z:=dC u;have X:=iS u;by_cases V:u=0
 ·subst V;rw[rB];rfl
 ·have h3:=BT u (by omega)
  cases hl:au u with
  |nil=>exact absurd hl X
  |cons c r=>
   rw[hl] at Z h3;simp only[List.all_cons,Bool.and_eq_true] at Z;simp only[List.head?_cons,ne_eq,Option.some.injEq] at h3;simp[iI,Z.1,Z.2,h3]
variable{l:List UInt8}
theorem MN(H:l≠[])(h:iI (l++[c])=true):iI l=true∧isD c=true∧l≠[48]:=by
 cases l with
 |nil=>exact absurd rfl H
 |cons x r=>
  simp only[List.cons_append,iI,List.all_append,List.all_cons,List.all_nil,Bool.and_true,Bool.and_eq_true] at h;obtain⟨⟨V,U,h3⟩,Z⟩:=h;have X:(x==48)=false:=by
   cases hx:x==48 with
   |false=>rfl
   |true=>rw[hx] at Z;simp at Z
  refine⟨by simp[iI,V,U,X],h3,?_⟩;intro e;cases e;simp at X
theorem Wa{p:List UInt8→Prop}(h0:p [])(h1:∀l c,p l→p (l++[c]))(l:List UInt8):p l:=by
 have:∀n (l:List UInt8),l.length=n→p l:=by
  intro n;induction n with
  |zero=>intro l Z;rw[List.eq_nil_of_length_eq_zero Z];exact h0
  |succ n ih=>
   intro l Z;have X:l≠[]:=by intro e;rw[e] at Z;simp at Z
   rw[←List.dropLast_concat_getLast X];exact h1 _ _ (ih _ (by simp[Z]))
 exact this _ l rfl
theorem vZ(h:iI l=true):au (fm l)=l:=by
 induction l using Wa with
 |h0=>cases h
 |h1 l c ih=>
  by_cases X:l=[]
  ·subst X
   simp only[List.nil_append,iI,List.all_nil,Bool.and_true,List.isEmpty_nil,Bool.or_true] at h;unfold fm;rw[List.nil_append,ej,dP,Nat.mul_zero,Nat.zero_add,fX (sZ h),Bo h]
  ·obtain⟨h1,V,h3⟩:=MN X h
   have Z:=ih h1;have U:fm l≠0:=by intro e;rw[e,rB] at Z;exact h3 Z.symm
   have S:=sZ V;rw[nw,sB (by omega),show(10*fm l+(c.toNat-48)) / 10=fm l by omega,show(10*fm l+(c.toNat-48))%10=c.toNat-48 by omega,Z,Bo V]
def yL(l:List UInt8):Option Nat:=if iI l then some (fm l) else none
theorem dH(u:Nat):yL (au u)=some u:=by unfold yL;rw[if_pos (MO u),dJ]
theorem ib(h:yL l=some u):l=au u:=by
 unfold yL at h;split at h
 next Z=>cases h;exact(vZ Z).symm
 ·cases h
variable{v:Nat}
theorem F1(h:au u=au v):u=v:=by rw[←dJ u,h,dJ]
theorem BZ(u:Nat)(H:0<u):10 ^ ((au u).length-1)≤u:=by
 induction u using vV with
 |h0 u h=>rw[fX h];simp;omega
 |h1 u h ih=>
  rw[sB h];have:=ih (by omega);have Z:=oY (u / 10);simp only[List.length_append,List.length_singleton,Nat.add_sub_cancel];have e:10 ^ (au (u / 10)).length=10 ^ ((au (u / 10)).length-1)*10:=by rw[←Nat.pow_succ];congr 1;omega
  rw[e];omega
theorem cm(u:Nat):u<10 ^ (au u).length:=by rw[uB,Lib.decDigits_length];exact Lib.lt_pow_nDigits u
theorem aI(hk:0<k)(h:u<10 ^ k):(au u).length≤k:=by
 by_cases Z:u=0
 ·subst Z;rw[rB];exact hk
 ·have V:=BZ u (by omega)
  have X:10 ^ ((au u).length-1)<10 ^ k:=by omega
  have:=(Nat.pow_lt_pow_iff_right (by omega:1<10)).1 X;omega
def bL(n:Int):List UInt8:=match n with
 |.ofNat u=>au u
 |.negSucc u=>45::au (u+1)
theorem RW(n:Int):bL n=Lib.itoa n:=by
 unfold Lib.itoa;cases n with
 |ofNat u=>rw[if_neg (by simp)];simp[bL,uB]
 |negSucc u=>rw[if_pos (Int.negSucc_lt_zero u)];simp[bL,uB]
def lh(l:List UInt8):Option Int:=match l with
 |45::r=>match yL r with
  |some (u+1)=>some (.negSucc u)
  |_=>none
 |l=>match yL l with
  |some u=>some (.ofNat u)
  |none=>none
theorem oW(u:Nat):(au u).head? ≠some 45:=by
 cases hl:au u with
 |nil=>simp
 |cons c r=>
  have:=dC u;rw[hl] at this;simp only[List.all_cons,Bool.and_eq_true] at this;simp only[List.head?_cons,ne_eq,Option.some.injEq];rintro rfl;exact absurd this.1 (by decide)
theorem aU(n:Int):lh (bL n)=some n:=by
 cases n with
 |ofNat u=>
  have h:=oW u;simp only[bL];unfold lh;split
  ·rename_i r Z
   rw[Z] at h;simp at h
  ·rw[dH]
 |negSucc u=>simp[bL,lh,dH]
theorem cL{n:Int}(h:lh l=some n):l=bL n:=by
 unfold lh at h;split at h
 ·split at h
  ·rename_i Z
   cases h;simp[bL,ib Z]
  ·cases h
 ·split at h
  ·rename_i Z
   cases h;simp[bL,ib Z]
  ·cases h
theorem Ux{m n:Int}(h:bL m=bL n):m=n:=by have:=aU m;rw[h,aU] at this;exact(Option.some.inj this).symm
theorem ju(n:Int):Lib.hasPrefix (bL n) [45]=decide (n<0):=by
 cases n with
 |ofNat u=>
  have h:=oW u;simp only[bL];cases hl:au u with
  |nil=>exact absurd hl (iS u)
  |cons c r=>
   rw[hl] at h;simp only[List.head?_cons,ne_eq,Option.some.injEq] at h;rw[show decide (Int.ofNat u<0)=false by simp];have Z :¬(45:UInt8)=c:=fun e=>h e.symm
   simp[Lib.hasPrefix,List.isPrefixOf,Z]
 |negSucc u=>simp[bL,Lib.hasPrefix,List.isPrefixOf,Int.negSucc_lt_zero]
theorem gy(n:Int):Lib.trimPrefix (bL n) [45]=au n.natAbs:=by
 unfold Lib.trimPrefix;rw[ju];cases n with
 |ofNat u=>
  rw[show decide (Int.ofNat u<0)=false by simp];rfl
 |negSucc u=>simp[bL,Int.negSucc_lt_zero,Int.natAbs]
theorem J3(h:isD c=true):Lib.digitVal c=some (c.toNat-48):=by unfold isD at h;simp only[Bool.and_eq_true,decide_eq_true_eq] at h;unfold Lib.digitVal;rw[if_pos h]
theorem yC:∀(l:List UInt8) (a:Nat),l.all isD=true→Lib.decFrom a l=some (uL a l)
 | [],a,_=>by rw[dP];rfl
 |c::r,a,h=>by simp only[List.all_cons,Bool.and_eq_true] at h;unfold Lib.decFrom;rw[J3 h.1,ej];simp only;rw[yC r _ h.2,Nat.mul_comm]
theorem Bn(u:Nat):Lib.decNat (au u)=some u:=by
 unfold Lib.decNat
 have h:(au u).isEmpty=false:=by
  cases hl:au u with
  |nil=>exact absurd hl (iS u)
  |cons=>rfl
 rw[h];simp only[Bool.false_eq_true,if_false];rw[yC _ _ (dC u)];exact congrArg some (dJ u)
theorem gk(n:Int):Lib.atoi (bL n)=some n:=by
 cases n with
 |ofNat u=>
  have Z:=oW u;have X:=dC u;have h3:=Bn u;simp only[bL];cases hl:au u with
  |nil=>exact absurd hl (iS u)
  |cons c r=>
   rw[hl] at Z X h3;simp only[List.head?_cons,ne_eq,Option.some.injEq] at Z;simp only[List.all_cons,Bool.and_eq_true] at X;have V:¬c=43:=by rintro rfl;exact absurd X.1 (by decide)
   simp[Lib.atoi,Z,V,h3]
 |negSucc u=>
  simp[bL,Lib.atoi,Bn,Int.negSucc_eq]
theorem nb(h:(au u).length<(au v).length):u<v:=by
 have X:=cm u;have Z:0<v:=by
  by_cases Z:v=0
  ·subst Z
   rw[rB] at h;have:=oY u;simp only[List.length_singleton] at h;omega
  ·omega
 have V:=BZ v Z;have h3:10 ^ (au u).length≤10 ^ ((au v).length-1):=Nat.pow_le_pow_right (by omega) (by omega);exact Nat.lt_of_lt_of_le X (Nat.le_trans h3 V)
def jG(u v:Nat):Int:=if u<v then -1 else if v<u then 1 else 0
theorem ph:∀(l:List UInt8) (a:Nat),l.all isD=true→uL a l<(a+1)*10 ^ l.length
 | [],a,_=>by rw[dP];simp
 |c::r,a,h=>by simp only[List.all_cons,Bool.and_eq_true] at h;have Z:=sZ h.1;have:=ph r (10*a+(c.toNat-48)) h.2;rw[ej];refine Nat.lt_of_lt_of_le this ?_;rw[List.length_cons,Nat.pow_succ,Nat.mul_comm (10 ^ r.length) 10,←Nat.mul_assoc];exact Nat.mul_le_mul_right _ (by omega)
theorem Sa:∀(l:List UInt8) (a:Nat),a*10 ^ l.length≤uL a l
 | [],a=>by rw[dP];simp
 |c::r,a=>by have:=Sa r (10*a+(c.toNat-48));rw[ej];refine Nat.le_trans ?_ this;rw[List.length_cons,Nat.pow_succ,Nat.mul_comm (10 ^ r.length) 10,←Nat.mul_assoc];exact Nat.mul_le_mul_right _ (by omega)
theorem mO:∀(l r:List UInt8) (a:Nat),l.length=r.length→l.all isD=true→r.all isD=true→Lib.compareBytes l r=jG (uL a l) (uL a r)
 | [],[],a,_,_,_=>by
  rw[dP];show(0:Int)=jG a a
  unfold jG;rw[if_neg (by omega),if_neg (by omega)]
 | [],_::_,_,h,_,_=>by simp at h
 |_::_,[],_,h,_,_=>by simp at h
 |c::l,d::r,a,h,h1,h2=>by
  simp only[List.length_cons,Nat.add_right_cancel_iff] at h;simp only[List.all_cons,Bool.and_eq_true] at h1 h2;have V:∀{x y:UInt8}{l r:List UInt8},isD x=true→isD y=true→l.all isD=true→l.length=r.length→x<y→uL (10*a+(x.toNat-48)) l<uL (10*a+(y.toNat-48)) r:=by intro x y l r S R O U N;have M:=ph l (10*a+(x.toNat-48)) O;have K:=Sa r (10*a+(y.toNat-48));have L :x.toNat<y.toNat:=N;unfold isD at S R;simp only[Bool.and_eq_true,decide_eq_true_eq] at S R;rw[U] at M;have:(10*a+(x.toNat-48)+1)*10 ^ r.length≤(10*a+(y.toNat-48))*10 ^ r.length:=Nat.mul_le_mul_right _ (by omega);omega
  unfold Lib.compareBytes;rw[ej,ej];by_cases Z:c<d
  ·rw[if_pos Z]
   have:=V h1.1 h2.1 h1.2 h Z;unfold jG;rw[if_pos this]
  ·rw[if_neg Z]
   by_cases X:d<c
   ·rw[if_pos X]
    have:=V h2.1 h1.1 h2.2 h.symm X;unfold jG;rw[if_neg (by omega),if_pos this]
   ·rw[if_neg X]
    have G:¬c.toNat<d.toNat:=Z;have F:¬d.toNat<c.toNat:=X;have e:c.toNat=d.toNat:=by omega
    rw[e];exact mO l r _ h h1.2 h2.2
theorem xu(h:(au u).length=(au v).length):Lib.compareBytes (au u) (au v)=jG u v:=by
 have:=mO (au u) (au v) 0 h (dC u) (dC v);rw[this];show jG (fm (au u)) (fm (au v))=_
 rw[dJ,dJ]
def k9(n:Int):Int:=if n<0 then -1 else if n=0 then 0 else 1
def JZ(m n:Int):Int:=if m<n then -1 else if n<m then 1 else 0
theorem RX(n:Int):bL n=[48]↔n=0:=by
 constructor
 ·intro h;exact Ux (h.trans (by rfl))
 ·rintro rfl;rfl
theorem j8(n:Int):(bL n==[48])=decide (n=0):=by rw[Bool.eq_iff_iff];simp[RX]
theorem re(n:Int):0<(bL n).length:=by
 cases n with
 |ofNat u=>exact oY u
 |negSucc u=>simp[bL]
theorem lQ{n:Int}(h:0<n):bL (-n)=45::bL n:=by
 cases n with
 |ofNat u=>
  cases u with
  |zero=>simp at h
  |succ u=>rfl
 |negSucc u=>exact absurd h (by have:=Int.negSucc_lt_zero u;omega)
theorem FU{n:Int}(h:n<0):(bL n).drop 1=bL (-n):=by have:=lQ (n:= -n) (by omega);rw[Int.neg_neg] at this;rw[this];rfl
theorem jf{n:Int}(h:0≤n):bL n=au n.natAbs:=by
 cases n with
 |ofNat u=>rfl
 |negSucc u=>exact absurd h (by have:=Int.negSucc_lt_zero u;omega)
theorem VF(a b:Int):JZ a b=if k9 a≠k9 b then (if k9 a<k9 b then -1 else 1) else
  if (au a.natAbs).length≠(au b.natAbs).length then (if (au a.natAbs).length<(au b.natAbs).length then-k9 a else k9 a) else k9 a*jG a.natAbs b.natAbs:=by
 by_cases Z:k9 a≠k9 b
 ·rw[if_pos Z]
  unfold k9 at Z ⊢;unfold JZ
  repeat' split
  all_goals first | rfl | omega
 ·rw[if_neg Z]
  by_cases V:(au a.natAbs).length≠(au b.natAbs).length
  ·rw[if_pos V]
   by_cases X:(au a.natAbs).length<(au b.natAbs).length
   ·rw[if_pos X]
    have:=nb X;unfold k9 at Z ⊢;unfold JZ
    repeat' split
    all_goals first | rfl | omega
   ·rw[if_neg X]
    have:=nb (u:=b.natAbs) (v:=a.natAbs) (by omega);unfold k9 at Z ⊢;unfold JZ
    repeat' split
    all_goals first | rfl | omega
  ·rw[if_neg V]
   unfold k9 at Z ⊢;unfold JZ jG
   repeat' split
   all_goals first | rfl | omega
def aj(q:Rat):List UInt8:=if q.den=1 then bL q.num else bL q.num++47::au q.den
theorem vW(u:Nat):(47:UInt8)∉au u:=by intro h;have:=List.all_eq_true.1 (dC u) _ h;exact absurd this (by decide)
theorem j9(n:Int):(47:UInt8)∉bL n:=by
 cases n with
 |ofNat u=>exact vW u
 |negSucc u=>
  simp only[bL,List.mem_cons,not_or];exact⟨by decide,vW _⟩
theorem mW:∀(l:List UInt8) (c:UInt8),c∉l→Lib.indexByte l c= -1
 | [],_,_=>rfl
 |b::l,c,h=>by simp only[List.mem_cons,not_or] at h;unfold Lib.indexByte;rw[if_neg (by simpa using fun e=>h.1 e.symm),mW l c h.2];rfl
theorem yF:∀(l r:List UInt8) (c:UInt8),c∉l→Lib.indexByte (l++c::r) c=l.length
 | [],r,c,_=>by simp[Lib.indexByte]
 |b::l,r,c,h=>by
  simp only[List.mem_cons,not_or] at h;rw[List.cons_append];unfold Lib.indexByte;rw[if_neg (by simpa using fun e=>h.1 e.symm),yF l r c h.2];have Z:¬(((l.length:Int)== -1)=true):=by rw[beq_iff_eq];omega
  rw[if_neg Z];rfl
theorem Dh(q:Rat):Lib.indexByte (aj q) 47=if q.den=1 then -1 else ((bL q.num).length:Int):=by
 unfold aj;split
 ·exact mW _ _ (j9 _)
 ·exact yF _ _ _ (j9 _)
def Qg(n:Int)(d:Nat):Option Rat:=if h:1<d∧n.natAbs.gcd d=1 then some ⟨n,d,by omega,h.2⟩ else none
def ek(l:List UInt8):Option Rat:=match l.idxOf? 47 with
 |none=>match lh l with
  |some n=>some ⟨n,1,by decide,Nat.gcd_one_right _⟩
  |none=>none
 |some i=>match lh (l.take i),yL (l.drop (i+1)) with
  |some n,some d=>Qg n d
  |_,_=>none
theorem PX(h:c∉l):l.idxOf? c=none:=List.idxOf?_eq_none_iff.2 h
theorem Uv{r:List UInt8}(h:c∉l):(l++c::r).idxOf? c=some l.length:=by rw[List.idxOf?_eq_some_iff];refine⟨by simp,by simp,fun j Z=>?_⟩;rw[List.getElem_append_left Z];intro e;exact h (e▸List.getElem_mem Z)
theorem ar(q:Rat):ek (aj q)=some q:=by
 unfold ek aj;by_cases h:q.den=1
 ·rw[if_pos h,PX (j9 _)]
  simp only[aU];congr 1;apply Rat.ext
  ·rfl
  ·exact h.symm
 ·have Z:List.drop ((bL q.num).length+1) (bL q.num++47::au q.den)=au q.den:=by rw[List.drop_append];simp
  have X:List.take (bL q.num).length (bL q.num++47::au q.den)=bL q.num:=List.take_left' rfl;have V:1<q.den:=by have:=q.den_nz;omega
  have U:q.num.natAbs.gcd q.den=1:=q.reduced;rw[if_neg h,Uv (j9 _)];simp only;rw[Z,X,aU,dH];simp only[Qg];rw[dif_pos ⟨V,U⟩]
variable{q:Rat}
theorem aA(h:ek l=some q):l=aj q:=by
 unfold ek at h;split at h
 ·split at h
  ·rename_i n Z
   cases h;unfold aj;rw[if_pos rfl];exact cL Z
  ·cases h
 ·rename_i i X
  split at h
  ·rename_i n d Z V
   unfold Qg at h;split at h
   ·rename_i R
    cases h;unfold aj;rw[if_neg (by show¬d=1;omega)];obtain⟨U,S,_⟩:=List.idxOf?_eq_some_iff.1 X;show l=bL n++47::au d
    rw[←cL Z,←ib V];have:l.drop i=47::l.drop (i+1):=by rw[List.drop_eq_getElem_cons U,S]
    rw[←this,List.take_append_drop]
   ·cases h
  ·cases h
theorem gJ{p:Rat}(h:aj p=aj q):p=q:=by have:=ar p;rw[h,ar] at this;exact(Option.some.inj this).symm
theorem B7(q:Rat):aj q=[48]↔q=0:=by
 constructor
 ·intro h;exact gJ (h.trans (by rfl))
 ·rintro rfl;rfl
theorem bq(q:Rat):(aj q==[48])=decide (q=0):=by rw[Bool.eq_iff_iff];simp[B7]
theorem neg_num(q:Rat):(-q).num= -q.num:=rfl
theorem VQ(q:Rat):(-q).den=q.den:=rfl
theorem rH(h:0<q.num):aj (-q)=45::aj q:=by unfold aj;rw[neg_num,VQ,lQ h];split<;>rfl
theorem kU(h:q.num<0):aj q=45::aj (-q):=by
 have:=rH (q:= -q) (by rw[neg_num];omega)
 rwa [Rat.neg_neg] at this
theorem sD:q.num=0↔q=0:=by
 constructor
 ·intro h
  apply Rat.ext
  ·exact h
  ·have:=q.reduced
   rw[h] at this;simpa [Nat.Coprime] using this
 ·rintro rfl;rfl
theorem nh(h:0≤q.num):∃c r,aj q=c::r∧isD c=true:=by
 have X:∃c r,bL q.num=c::r∧isD c=true:=by
  rw[jf h];have:=dC q.num.natAbs;cases hl:au q.num.natAbs with
  |nil=>exact absurd hl (iS _)
  |cons c r=>
   rw[hl] at this;simp only[List.all_cons,Bool.and_eq_true] at this;exact⟨c,r,rfl,this.1⟩
 obtain⟨c,r,e,Z⟩:=X;unfold aj;split
 ·exact⟨c,r,e,Z⟩
 ·exact⟨c,r++47::au q.den,by rw[e];rfl,Z⟩
theorem eR(h:isD c=true):¬((c.toNat:Int)=45):=by unfold isD at h;simp only[Bool.and_eq_true,decide_eq_true_eq] at h;omega
def ky(q:Rat):Int:=k9 q.num
def big(k:Nat)(q:Rat):Prop:=q.num.natAbs<10 ^ k∧q.den<10 ^ k
variable{m:Nat}
theorem big.mono(h:big k q)(H:k≤m):big m q:=by have:10 ^ k≤10 ^ m:=Nat.pow_le_pow_right (by omega) H;exact⟨by have:=h.1;omega,by have:=h.2;omega⟩
variable{d:Nat}
theorem FZ(n:Int)(hd:d≠0):(mkRat n d).num.natAbs≤n.natAbs∧(mkRat n d).den≤d:=by rw[Rat.num_mkRat,Rat.den_mkRat,if_neg hd,if_neg hd];refine⟨?_,Nat.div_le_self _ _⟩;exact Int.natAbs_ediv_le_natAbs _ _
theorem JS{n:Int}(hd:d≠0)(h1:n.natAbs<10 ^ k)(h2:d<10 ^ k):big k (mkRat n d):=by have:=FZ n hd;exact⟨by omega,by omega⟩
theorem kv{a b:Nat}(h1:a<10 ^ k)(h2:b<10 ^ k):a*b<10 ^ (2*k):=by
 have:a*b<10 ^ k*10 ^ k:=Nat.mul_lt_mul'' h1 h2
 rwa [←Nat.pow_add,show k+k=2*k by omega] at this
variable{a b:Rat}
section
variable (ha:big k a)
include ha
theorem Bk(H:big k b):big (2*k) (a*b):=by rw[Rat.mul_def'];refine JS (Nat.mul_ne_zero a.den_nz b.den_nz) ?_ (kv ha.2 H.2);rw[Int.natAbs_mul];exact kv ha.1 H.1
theorem VB(H:big k b):big (2*k+1) (a+b):=by rw[Rat.add_def'];have X:=kv ha.2 H.2;have h3:10 ^ (2*k+1)=10 ^ (2*k)*10:=Nat.pow_succ ..;refine JS (Nat.mul_ne_zero a.den_nz b.den_nz) ?_ (by omega);have V:=kv ha.1 H.2;have U:=kv H.1 ha.2;have Z:=Int.natAbs_add_le (a.num*b.den) (b.num*a.den);rw[Int.natAbs_mul,Int.natAbs_mul,Int.natAbs_natCast,Int.natAbs_natCast] at Z;omega
theorem VD:big k (-a):=by refine⟨?_,ha.2⟩;rw[Rat.neg_num,Int.natAbs_neg];exact ha.1
theorem qV(H:big k b):big (2*k+1) (a-b):=by rw[Rat.sub_eq_add_neg];exact VB ha (VD H)
theorem VC:big k a⁻¹:=by
 have V:0<10 ^ k:=Nat.pow_pos (by omega);refine⟨?_,?_⟩
 ·rw[Rat.num_inv,Int.natAbs_mul,Int.natAbs_natCast]
  have:=ha.2;have X:a.num.sign.natAbs≤1:=by
   rcases Int.lt_trichotomy a.num 0 with h | h | h
   ·rw[Int.sign_eq_neg_one_of_neg h];decide
   ·rw[h];decide
   ·rw[Int.sign_eq_one_of_pos h];decide
  have:a.num.sign.natAbs*a.den≤1*a.den:=Nat.mul_le_mul_right _ X;omega
 ·rw[Rat.den_inv]
  have:=ha.1;by_cases Z:a.num=0
  ·rw[if_pos Z]
   have U:=ha.2;have:=a.den_nz;omega
  ·rw[if_neg Z];omega
theorem MM(H:big k b):big (2*k) (a / b):=by rw[Rat.div_def];exact Bk ha (VC H)
end
theorem NK(hk:0<k):big k 0:=by have Z:10 ^ 1≤10 ^ k:=Nat.pow_le_pow_right (by omega) hk;exact⟨by show(0:Nat)<10 ^ k;omega,by show(1:Nat)<10 ^ k;omega⟩
theorem cj(n:Int):(bL n).length≤(au n.natAbs).length+1:=by
 cases n with
 |ofNat u=>simp[bL]
 |negSucc u=>simp[bL]
theorem PI(hk:0<k)(h:big k q):(aj q).length≤2*k+2:=by
 have Z:=aI hk h.1;have X:=aI hk h.2;have h3:=cj q.num;unfold aj;split
 ·omega
 ·simp only[List.length_append,List.length_cons];omega
theorem FG(h:(aj q).length≤k):big k q:=by
 have V:=cm q.num.natAbs;have U:=cm q.den;have h3:(au q.num.natAbs).length≤(bL q.num).length:=by
  cases q.num with
  |ofNat u=>exact Nat.le_refl _
  |negSucc u=>simp[bL]
 have S:=re q.num;have Z:(au q.num.natAbs).length≤k∧(au q.den).length≤k:=by
  unfold aj at h;split at h
  ·rename_i X
   refine⟨by omega,?_⟩;rw[X];show 1≤k
   omega
  ·simp only[List.length_append,List.length_cons] at h
   omega
 have R:10 ^ (au q.num.natAbs).length≤10 ^ k:=Nat.pow_le_pow_right (by omega) Z.1;have O:10 ^ (au q.den).length≤10 ^ k:=Nat.pow_le_pow_right (by omega) Z.2;exact⟨by omega,by omega⟩
def dV(l:List (Rat×Rat))(u:Rat):Nat:=match l with
 | []=>0
 |k::r=>(if k.1≤u then 1 else 0)+dV r u
def KV(a b:Rat×Rat):Rat:=(b.2-a.2) / (b.1-a.1)
def mY(l:List (Rat×Rat))(n:Nat):Rat×Rat:=
 if l=[] then (0,0) else if n=0 then ((l.getD 0 (0,0)).2,0) else if n=l.length then ((l.getD (n-1) (0,0)).2,0) else
  ((l.getD (n-1) (0,0)).2-KV (l.getD (n-1) (0,0)) (l.getD n (0,0))*(l.getD (n-1) (0,0)).1,KV (l.getD (n-1) (0,0)) (l.getD n (0,0)))
def rU(l:List (Rat×Rat))(u:Rat):Rat:=(mY l (dV l u)).1+(mY l (dV l u)).2*u
theorem xM(l:List (Rat×Rat))(u:Rat):dV l u≤l.length:=by
 induction l with
 |nil=>exact Nat.le_refl _
 |cons k r ih=>simp only[dV,List.length_cons];split<;>omega
variable{x:Int}
theorem ft{y:Int}{a b:Nat}(h1:x.natAbs<a)(h2:y.natAbs<b):(x*y).natAbs<a*b:=by rw[Int.natAbs_mul];exact Nat.mul_lt_mul'' h1 h2
def dg(n d:Nat)(q:Rat):Prop:=q.num.natAbs<10 ^ n∧q.den<10 ^ d
variable{d' n n' :Nat}
theorem dg.mono(h:dg n d q)(H:n≤n')(hd:d≤d'):dg n' d' q:=by have Z:10 ^ n≤10 ^ n' :=Nat.pow_le_pow_right (by omega) H;have X:10 ^ d≤10 ^ d' :=Nat.pow_le_pow_right (by omega) hd;exact⟨by have:=h.1;omega,by have:=h.2;omega⟩
theorem lN{y:Nat}(H:y≠0)(h1:x.natAbs<10 ^ n)(h2:y<10 ^ d):dg n d (mkRat x y):=by have:=FZ x H;exact⟨by omega,by omega⟩
theorem mZ{a b:Nat}(h1:a<10 ^ k)(h2:b<10 ^ m):a*b<10 ^ (k+m):=by rw[Nat.pow_add];exact Nat.mul_lt_mul'' h1 h2
section
variable (ha:dg n d a)
include ha
theorem dE(H:dg n' d' b):dg (n+n') (d+d') (a*b):=by rw[Rat.mul_def'];refine lN (Nat.mul_ne_zero a.den_nz b.den_nz) ?_ (mZ ha.2 H.2);rw[Int.natAbs_mul];exact mZ ha.1 H.1
theorem pq(H:dg n' d' b)(h1:n+d' ≤m)(h2:n' +d≤m):dg (m+1) (d+d') (a+b):=by rw[Rat.add_def'];refine lN (Nat.mul_ne_zero a.den_nz b.den_nz) ?_ (mZ ha.2 H.2);have X:=mZ ha.1 H.2;have V:=mZ H.1 ha.2;have Z:=Int.natAbs_add_le (a.num*b.den) (b.num*a.den);rw[Int.natAbs_mul,Int.natAbs_mul,Int.natAbs_natCast,Int.natAbs_natCast] at Z;have U:10 ^ (n+d')≤10 ^ m:=Nat.pow_le_pow_right (by omega) h1;have S:10 ^ (n' +d)≤10 ^ m:=Nat.pow_le_pow_right (by omega) h2;have R:10 ^ (m+1)=10 ^ m*10:=Nat.pow_succ ..;omega
theorem Rw:dg n d (-a):=by refine⟨?_,ha.2⟩;rw[Rat.neg_num,Int.natAbs_neg];exact ha.1
theorem DD(H:dg n' d' b)(h1:n+d' ≤m)(h2:n' +d≤m):dg (m+1) (d+d') (a-b):=by rw[Rat.sub_eq_add_neg];exact pq ha (Rw H) h1 h2
theorem Ww(h0:a≠0):dg d n a⁻¹:=by
 have Z:a.num≠0:=fun h=>h0 (Rat.num_eq_zero.1 h)
 refine⟨?_,?_⟩
 ·rw[Rat.num_inv,Int.natAbs_mul,Int.natAbs_natCast]
  have:=ha.2;have X:a.num.sign.natAbs≤1:=by
   rcases Int.lt_trichotomy a.num 0 with h | h | h
   ·rw[Int.sign_eq_neg_one_of_neg h];decide
   ·rw[h];decide
   ·rw[Int.sign_eq_one_of_pos h];decide
  have:a.num.sign.natAbs*a.den≤1*a.den:=Nat.mul_le_mul_right _ X;omega
 ·rw[Rat.den_inv,if_neg Z]
  exact ha.1
theorem Vb(H:dg n' d' b)(h0:b≠0):dg (n+d') (d+n') (a / b):=by rw[Rat.div_def];exact dE ha (Ww H h0)
end
theorem J2(h:x.natAbs<10 ^ n):dg n 1 (x:Rat):=⟨by simpa using h,by show(1:Nat)<10;decide⟩
theorem dg.lens(h:dg n d q)(H:0<n)(hd:0<d):(au q.num.natAbs).length≤n∧(au q.den).length≤d:=
 ⟨aI H h.1,aI hd h.2⟩
def stC(l:List (List UInt8)):List AV:=l.map .str
theorem nq(l:List (List UInt8)):(stC l).length=l.length:=by simp[stC]
theorem dM:∀l:List (List UInt8),AV.aej (stC l)=true
 | []=>rfl
 |x::l=>by have:=dM l;simp only[stC] at this;simp[stC,AV.aej,AV.closed,this]
variable{i:Nat}
theorem On{l:List (List UInt8)}{s:List UInt8}(h:l[i]? =some s):(stC l)[i]? =some (.str s):=by simp[stC,h]
def stP:List AV→Option (List (List UInt8))
 | []=>some []
 |.str a::l=>match stP l with
  |some r=>some (a::r)
  |none=>none
 |_=>none
theorem SX:∀L:List (List UInt8),stP (stC L)=some L
 | []=>rfl
 |k::L=>by have:=SX L;simp only[stC] at this;simp[stC,stP,this]
theorem Oo:∀{cs:List AV} {L:List (List UInt8)},stP cs=some L→cs=stC L
 | [],L,h=>by cases h;rfl
 |v::l,L,h=>by
  unfold stP at h;split at h
  next Z=>cases Z
  ·rename_i a V Z
   cases Z;split at h
   ·rename_i r X
    cases h;have:=Oo X;simp only[stC] at this ⊢;rw[this];rfl
   ·cases h
  ·cases h
def sts(M:Mem)(x:AV):Option (List (List UInt8)):=match JW 1 M x with
 |some cs=>stP cs
 |none=>none
theorem UZ{M:Mem}{x:AV}{L:List (List UInt8)}(h:sts M x=some L):U7 1 M x L.length (stC L)∨(x=.qF∧L=[]):=by
 unfold sts at h;split at h
 ·rename_i S X
  have V:=Oo h;subst V;rcases MQ X with⟨n,Z,U⟩ | ⟨rfl,Z⟩
  ·have:n=L.length:=by rw[nq] at Z;omega
   subst this;exact .inl U
  ·refine .inr ⟨rfl,?_⟩
   cases L with
   |nil=>rfl
   |cons a l=>simp[stC] at Z
 ·cases h
abbrev P2:=Rat×Rat
def pA(p:P2):AV:=.agg [.str (aj p.1),.str (aj p.2)]
def pDg(n:Nat)(p:P2):Prop:=dg n n p.1∧dg n n p.2
def cN(a b c:P2):Rat:=(b.1-a.1)*(c.2-a.2)-(b.2-a.2)*(c.1-a.1)
def pC:List P2→List AV
 | []=>[]
 |p::l=>.str (aj p.1)::.str (aj p.2)::pC l
theorem BY:∀l:List P2,(pC l).length=l.length*2
 | []=>rfl
 |_::l=>by simp only[pC,List.length_cons,BY l];omega
theorem ei:∀l:List P2,AV.aej (pC l)=true
 | []=>rfl
 |p::l=>by simp[pC,AV.aej,AV.closed,ei l]
theorem uF(n:Nat):∀l:List P2,AV.aew n (pC l)=[]
 | []=>rfl
 |p::l=>by simp[pC,AV.aew,AV.refs,uF n l]
theorem Ob(f:Nat→Option Nat)(l:List P2):AV.aez f (pC l)=pC l:=aL (ei l)
theorem WR:pC []=[]:=rfl
theorem WS(f:Nat→Bool):∀l:List P2,AV.ael f (pC l)=true
 | []=>rfl
 |p::l=>by simp[pC,AV.ael,AV.aef,WS f l]
theorem KA:∀l r:List P2,pC (l++r)=pC l++pC r
 | [],_=>rfl
 |p::l,r=>by simp[pC,KA l r]
theorem Sv:∀(l:List P2) (i:Nat),(pC l).drop (i*2)=pC (l.drop i)
 |l,0=>by simp
 | [],i+1=>by simp[pC]
 |p::l,i+1=>by
  have:(i+1)*2=i*2+1+1:=by omega
  rw[this];simp only[pC,List.drop_succ_cons];exact Sv l i
theorem zI{l:List P2}{p:P2}(h:l[i]? =some p):
  ((pC l).drop (i*2)).take 2=[.str (aj p.1),.str (aj p.2)]∧(pC l)[i*2]? =some (.str (aj p.1))∧(pC l)[i*2+1]? =some (.str (aj p.2))∧i*2+2≤(pC l).length:=by
 have U:=gL h;have Z:l.drop i=p::l.drop (i+1):=by rw[List.getElem?_eq_some_iff] at h;obtain⟨X,V⟩:=h;rw[←V];exact List.drop_eq_getElem_cons X
 have e:=Sv l i;rw[Z] at e;refine⟨by rw[e];rfl,?_,?_,by rw[BY];omega⟩
 ·have:(pC l)[i*2]? =((pC l).drop (i*2))[0]? :=by rw[List.getElem?_drop];rfl
  rw[this,e];rfl
 ·have:(pC l)[i*2+1]? =((pC l).drop (i*2))[1]? :=by rw[List.getElem?_drop]
  rw[this,e];rfl
abbrev Tr:=Nat×Nat×Nat
def tC:List Tr→List AV
 | []=>[]
 |t::l=>.int .i64 (t.1:Int)::.int .i64 (t.2.1:Int)::.int .i64 (t.2.2:Int)::tC l
theorem KW:∀l:List Tr,(tC l).length=l.length*3
 | []=>rfl
 |_::l=>by simp only[tC,List.length_cons,KW l];omega
theorem fR:∀l:List Tr,AV.aej (tC l)=true
 | []=>rfl
 |p::l=>by simp[tC,AV.aej,AV.closed,fR l]
theorem rQ(n:Nat):∀l:List Tr,AV.aew n (tC l)=[]
 | []=>rfl
 |p::l=>by simp[tC,AV.aew,AV.refs,rQ n l]
theorem Ee(f:Nat→Option Nat)(l:List Tr):AV.aez f (tC l)=tC l:=aL (fR l)
theorem S0:∀(l:List Tr) (i:Nat),(tC l).drop (i*3)=tC (l.drop i)
 |l,0=>by simp
 | [],i+1=>by simp[tC]
 |p::l,i+1=>by
  have:(i+1)*3=i*3+1+1+1:=by omega
  rw[this];simp only[tC,List.drop_succ_cons];exact S0 l i
theorem SZ{l:List Tr}{t:Tr}(h:l[i]? =some t):
  ((tC l).drop (i*3)).take 3=[.int .i64 (t.1:Int),.int .i64 (t.2.1:Int),.int .i64 (t.2.2:Int)]∧i*3+3≤(tC l).length:=by
 have U:=gL h;have Z:l.drop i=t::l.drop (i+1):=by rw[List.getElem?_eq_some_iff] at h;obtain⟨X,V⟩:=h;rw[←V];exact List.drop_eq_getElem_cons X
 have e:=S0 l i;rw[Z] at e;exact⟨by rw[e];rfl,by rw[KW];omega⟩
def pmE(p:P2):AV×AV:=(pA p,.bool true)
theorem Gd(n:Nat):∀l:List P2,(l.map pmE).flatMap (fun e=>e.1.refs n++e.2.refs n)=[]
 | []=>rfl
 |p::l=>by simp[pmE,pA,AV.refs,AV.aew,Gd n l]
def sqI:List (Int×Int):=[(0,0),(4,0),(4,4),(0,4)]
def dI:Nat→List (Int×Int)
 |0=>sqI
 |1=>sqI
 |2=>[(0,0),(4,0),(4,4),(0,4),(2,1)]
 |3=>[(0,0),(6,0),(0,4)]
 |4=>[(0,0),(2,0),(4,0),(0,2),(2,2),(4,2)]
 |5=>[(1,4),(5,3),(4,0),(0,0)]
 |6=>[(0,0),(4,0),(4,4),(0,4),(2,0)]
 |_=>[(0,0),(6,0),(0,6),(2,2)]
def bI:Nat→List Tr
 |0=>[(0,1,2),(0,2,3)]
 |1=>[(0,1,3),(1,2,3)]
 |2=>[(0,1,4),(1,2,4),(2,3,4),(3,0,4)]
 |3=>[(2,0,1)]
 |4=>[(0,1,4),(0,4,3),(1,2,5),(1,5,4)]
 |5=>[(3,2,1),(3,1,0)]
 |6=>[(0,4,3),(4,2,3),(4,1,2)]
 |_=>[(0,1,3),(1,2,3),(2,0,3)]
def kZ:Nat→List Nat
 |2=>[0,1,2,3]
 |3=>[0,1,2]
 |4=>[0,1,2,5,4,3]
 |5=>[0,3,2,1]
 |6=>[0,4,1,2,3]
 |7=>[0,1,2]
 |_=>[0,1,2,3]
def iP:List (Int×Int)→List AV
 | []=>[]
 |p::l=>.int .i64 p.1::.int .i64 p.2::iP l
theorem Ke:∀l:List (Int×Int),(iP l).length=l.length*2
 | []=>rfl
 |_::l=>by simp only[iP,List.length_cons,Ke l];omega
theorem MZ(n:Nat):∀l:List (Int×Int),AV.aew n (iP l)=[]
 | []=>rfl
 |p::l=>by simp[iP,AV.aew,AV.refs,MZ n l]
theorem Kd:∀l:List (Int×Int),AV.aej (iP l)=true
 | []=>rfl
 |p::l=>by simp[iP,AV.aej,AV.closed,Kd l]
theorem RT(f:Nat→Option Nat)(l:List (Int×Int)):AV.aez f (iP l)=iP l:=aL (Kd l)
theorem RS:∀(l:List (Int×Int)) (i:Nat),(iP l).drop (i*2)=iP (l.drop i)
 |l,0=>by simp
 | [],i+1=>by simp[iP]
 |p::l,i+1=>by
  have:(i+1)*2=i*2+1+1:=by omega
  rw[this];simp only[iP,List.drop_succ_cons];exact RS l i
theorem Xi{l:List (Int×Int)}{p:Int×Int}(h:l[i]? =some p):
  (iP l)[i*2]? =some (.int .i64 p.1)∧(iP l)[i*2+1]? =some (.int .i64 p.2)∧i*2+2≤(iP l).length:=by
 have U:=gL h;have Z:l.drop i=p::l.drop (i+1):=by rw[List.getElem?_eq_some_iff] at h;obtain⟨X,V⟩:=h;rw[←V];exact List.drop_eq_getElem_cons X
 have e:=RS l i;rw[Z] at e;refine⟨?_,?_,by rw[Ke];omega⟩
 ·have:(iP l)[i*2]? =((iP l).drop (i*2))[0]? :=by rw[List.getElem?_drop];rfl
  rw[this,e];rfl
 ·have:(iP l)[i*2+1]? =((iP l).drop (i*2))[1]? :=by rw[List.getElem?_drop]
  rw[this,e];rfl
structure aeo where
 kind:Nat
 sx:Int
 sy:Int
 half:Bool
structure aeo.Ok (s:aeo):Prop where
 kind:s.kind<256
 x0: -128≤s.sx
 x1:s.sx≤127
 y0: -128≤s.sy
 y1:s.sy≤127
def aeo.av(s:aeo):AV:=.agg [.int .u8 s.kind,.int .i8 s.sx,.int .i8 s.sy,.bool s.half]
def aeo.pt(s:aeo)(k:Nat)(x y:Int):P2:=
 (mkRat (x+s.sx.tmod 8*k) ((if s.half then 2 else 1)*k),mkRat (y+s.sy.tmod 8*k) ((if s.half then 2 else 1)*k))
def aeo.P(s:aeo):List P2:=(dI (s.kind%8)).map fun p=>s.pt 1 p.1 p.2
def aeo.T(s:aeo):List Tr:=bI (s.kind%8)
theorem Tf{n:Int}(h0: -128≤n)(h1:n≤127):IntKind.i8.wrap n=n:=by simp only[IntKind.wrap,IntKind.bits,IntKind.signed,Bool.true_and];split<;>simp_all<;>omega
theorem Qu(x:Int): -7≤x.tmod 8∧x.tmod 8≤7:=by
 have Z:=Int.tmod_lt_of_pos x (show(0:Int)<8 by decide);have X: -8<x.tmod 8:=by have:=Int.tmod_lt_of_pos (-x) (show(0:Int)<8 by decide);rw[Int.neg_tmod] at this;omega
 omega
def qC(Q:List Rat):List AV:=Q.map fun q=>.str (aj q)
theorem KE(Q:List Rat):(qC Q).length=Q.length:=by simp[qC]
theorem v8:∀Q:List Rat,AV.aej (qC Q)=true
 | []=>rfl
 |q::Q=>by have:=v8 Q;simp only[qC] at this;simp[qC,AV.aej,AV.closed,this]
theorem fN(n:Nat):∀Q:List Rat,AV.aew n (qC Q)=[]
 | []=>rfl
 |q::Q=>by have:=fN n Q;simp only[qC] at this;simp[qC,AV.aew,AV.refs,this]
theorem Sx(f:Nat→Bool):∀Q:List Rat,AV.ael f (qC Q)=true
 | []=>rfl
 |q::Q=>by have:=Sx f Q;simp only[qC] at this;simp[qC,AV.ael,AV.aef,this]
theorem jM(f:Nat→Option Nat)(Q:List Rat):AV.aez f (qC Q)=qC Q:=aL (v8 Q)
theorem Nf{Q:List Rat}(h:Q[i]? =some q):(qC Q)[i]? =some (.str (aj q)):=by simp[qC,h]
structure agD where
 kind:Nat
 A:Int×Int×Int
 B:Int×Int×Int
 N:Int
 K:Nat×Nat×Nat×Nat
def agD.cells(d:agD):List AV:=[.int .u8 d.kind,.int .i8 d.A.1,.int .i8 d.A.2.1,.int .i8 d.A.2.2,.int .i8 d.B.1,.int .i8 d.B.2.1,.int .i8 d.B.2.2,.int .i8 d.N,.int .u8 d.K.1,.int .u8 d.K.2.1,.int .u8 d.K.2.2.1,.int .u8 d.K.2.2.2]
def z8(n:Int):Prop:= -128≤n∧n≤127
def WE(v:Int×Int×Int):Prop:=z8 v.1∧z8 v.2.1∧z8 v.2.2
def Xp(v:Nat×Nat×Nat×Nat):Prop:=v.1<256∧v.2.1<256∧v.2.2.1<256∧v.2.2.2<256
structure agD.Ok (d:agD):Prop where
 kind:d.kind<256
 A:WE d.A
 B:WE d.B
 N:z8 d.N
 K:Xp d.K
def hQ(z:Int):Rat:=mkRat z 2
theorem lP(z:Int):hQ z=(z:Rat) / 2:=by unfold hQ;rw[Rat.mkRat_eq_div];rfl
theorem Vd(a b:Int):hQ a+hQ b=hQ (a+b):=by
 rw[lP,lP,lP,Rat.intCast_add]
 grind
theorem Xf{a b:Int}(h:a≤b):hQ a≤hQ b:=by
 rw[lP,lP];have:(a:Rat)≤(b:Rat):=by exact_mod_cast h
 grind
variable{z:Int}
theorem Uu(h:z.natAbs<1000):dg 3 1 (hQ z):=lN (by decide) h (by decide)
theorem Bs(h:z.natAbs<1000):(aj (hQ z)).length≤9:=by have Z:=Uu h;have X:big 3 (hQ z):=⟨Z.1,by have:=Z.2;omega⟩;have:=PI (by decide) X;omega
def qH(Z:List Int):List Rat:=Z.map hQ
theorem zL(x:Int)(k:Nat)(hk:0<k): -(k:Int)<x.tmod k∧x.tmod k<k:=by have X:=Int.tmod_lt_of_pos x (show(0:Int)<(k:Int) by omega);have Z:=Int.tmod_lt_of_pos (-x) (show(0:Int)<(k:Int) by omega);rw[Int.neg_tmod] at Z;omega
end Go.Eng
