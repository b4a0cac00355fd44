/- See B54. -/
import Derived.Test.YtffdedmakncfmaaGreatDoorB04
import Derived.Lib.Atoi
import Derived.Lib.Strings
import Derived.Lib.Bytealg
import Derived.Lib.IndexLaws
set_option linter.all false
namespace Go.Eng
def Sq(k:Nat):UInt8:=UInt8.ofNat (48+k)
def isD(c:UInt8):Bool:=decide (48≤c.toNat)&&decide (c.toNat≤57)
def Vh:Nat→Nat→List UInt8→List UInt8
 |0,_,acc=>acc
 |f+1,u,acc=>if u<10 then Sq u::acc else Vh f (u / 10) (Sq (u%10)::acc)
def ai(u:Nat):List UInt8:=Vh (u.log2+1) u []
theorem O1:∀(f u:Nat) (acc:List UInt8),u<2 ^ f→0<f→Vh f u acc=Lib.decDigits u++acc
 |0,u,acc,_,h=>by omega
 |f+1,u,acc,h,_=>by
  unfold Vh;by_cases Z:u<10
  ·rw[if_pos Z,Lib.decDigits,dif_pos Z];rfl
  ·rw[if_neg Z,Lib.decDigits,dif_neg Z]
   have X:0<f:=by
    cases f with
    |zero=>simp at h;omega
    |succ f=>omega
   rw[O1 f (u / 10) _ (by rw[Nat.pow_succ] at h;omega) X];simp[Sq]
theorem uN(u:Nat):ai u=Lib.decDigits u:=by unfold ai;rw[O1 _ _ _ Nat.lt_log2_self (by omega)];simp
variable{u:Nat}
theorem fY(h:u<10):ai u=[Sq u]:=by rw[uN,Lib.decDigits,dif_pos h];rfl
theorem sL(h:¬u<10):ai u=ai (u / 10)++[Sq (u%10)]:=by
 have e:Lib.decDigits u=Lib.decDigits (u / 10)++[UInt8.ofNat (48+u%10)]:=by
  conv=>lhs;rw[Lib.decDigits]
  rw[dif_neg h]
 unfold Sq;rw[uN u,uN (u / 10),e]
def uZ(a:Nat)(l:List UInt8):Nat:=l.foldl (fun a c=>10*a+(c.toNat-48)) a
theorem dw(a:Nat):uZ a []=a:=by unfold uZ;rw[List.foldl_nil]
theorem ei(a:Nat)(c:UInt8)(r:List UInt8):uZ a (c::r)=uZ (10*a+(c.toNat-48)) r:=by unfold uZ;rw[List.foldl_cons]
def ej(l:List UInt8):Nat:=uZ 0 l
theorem uW:∀(l r:List UInt8) (a:Nat),uZ a (l++r)=uZ (uZ a l) r
 | [],_,a=>by rw[List.nil_append,dw]
 |c::l,r,a=>by rw[List.cons_append,ei,ei,uW l r]
theorem nT(l:List UInt8)(c:UInt8):ej (l++[c])=10*ej l+(c.toNat-48):=by unfold ej;rw[uW,ei,dw]
variable{k:Nat}
theorem sz(h:k<10):(Sq k).toNat=48+k:=by unfold Sq;simp[UInt8.toNat_ofNat'];omega
theorem OI(h:k<10):isD (Sq k)=true:=by unfold isD;rw[sz h];simp;omega
variable{c:UInt8}
theorem B5(h:isD c=true):Sq (c.toNat-48)=c:=by unfold isD at h;simp only[Bool.and_eq_true,decide_eq_true_eq] at h;unfold Sq;apply UInt8.toNat_inj.1;simp[UInt8.toNat_ofNat'];omega
theorem tw(h:isD c=true):c.toNat-48<10:=by unfold isD at h;simp only[Bool.and_eq_true,decide_eq_true_eq] at h;omega
theorem wE{p:Nat→Prop}(h0:∀u,u<10→p u)(h1:∀u,¬u<10→p (u / 10)→p u)(u:Nat):p u:=by
 induction u using Nat.strongRecOn with
 |_ u ih=>
  by_cases h:u<10
  ·exact h0 u h
  ·exact h1 u h (ih (u / 10) (by omega))
theorem du(u:Nat):ej (ai u)=u:=by
 induction u using wE with
 |h0 u h=>
  rw[fY h];unfold ej;rw[ei,dw,sz h];omega
 |h1 u h ih=>rw[sL h,nT,ih,sz (by omega)];omega
theorem dn(u:Nat):(ai u).all isD=true:=by
 induction u using wE with
 |h0 u h=>rw[fY h];simp[OI h]
 |h1 u h ih=>rw[sL h,List.all_append,ih];simp[OI (show u%10<10 by omega)]
theorem ja(u:Nat):ai u≠[]:=by
 induction u using wE with
 |h0 u h=>rw[fY h];simp
 |h1 u h ih=>rw[sL h];simp
theorem po(u:Nat):0<(ai u).length:=List.length_pos_iff.2 (ja u)
theorem Cz(u:Nat)(y:0<u):(ai u).head? ≠some 48:=by
 induction u using wE with
 |h0 u h=>
  rw[fY h];simp only[List.head?_cons,ne_eq,Option.some.injEq];intro e;have:=congrArg UInt8.toNat e;rw[sz h] at this;simp at this;omega
 |h1 u h ih=>
  rw[sL h,List.head?_append];have:=ih (by omega);cases hh:(ai (u / 10)).head? with
  |none=>exact absurd (List.head?_eq_none_iff.1 hh) (ja _)
  |some x=>rw[hh] at this;simpa using this
theorem jb:ai 0=[48]:=by rw[fY (by omega)];rfl
def iQ(l:List UInt8):Bool:=match l with
 | []=>false
 |c::r=>isD c&&r.all isD&&(!(c==48)||r.isEmpty)
theorem NJ(u:Nat):iQ (ai u)=true:=by
 have Z:=dn u;have X:=ja u;by_cases V:u=0
 ·subst V;rw[jb];rfl
 ·have h3:=Cz u (by omega)
  cases hl:ai u with
  |nil=>exact absurd hl X
  |cons c r=>
   rw[hl] at Z h3;simp only[List.all_cons,Bool.and_eq_true] at Z;simp only[List.head?_cons,ne_eq,Option.some.injEq] at h3;simp[iQ,Z.1,Z.2,h3]
variable{l:List UInt8}
theorem NI(y:l≠[])(h:iQ (l++[c])=true):iQ l=true∧isD c=true∧l≠[48]:=by
 cases l with
 |nil=>exact absurd rfl y
 |cons x r=>
  simp only[List.cons_append,iQ,List.all_append,List.all_cons,List.all_nil,Bool.and_true,Bool.and_eq_true] at h;obtain⟨⟨V,U,h3⟩,Z⟩:=h;have X:(x==48)=false:=by
   cases hx:x==48 with
   |false=>rfl
   |true=>rw[hx] at Z;simp at Z
  refine⟨by simp[iQ,V,U,X],h3,?_⟩;intro e;cases e;simp at X
theorem WA{p:List UInt8→Prop}(h0:p [])(h1:∀l c,p l→p (l++[c]))(l:List UInt8):p l:=by
 have:∀n (l:List UInt8),l.length=n→p l:=by
  intro n;induction n with
  |zero=>intro l Z;rw[List.eq_nil_of_length_eq_zero Z];exact h0
  |succ n ih=>
   intro l Z;have X:l≠[]:=by intro e;rw[e] at Z;simp at Z
   rw[←List.dropLast_concat_getLast X];exact h1 _ _ (ih _ (by simp[Z]))
 exact this _ l rfl
theorem wG(h:iQ l=true):ai (ej l)=l:=by
 induction l using WA with
 |h0=>cases h
 |h1 l c ih=>
  by_cases X:l=[]
  ·subst X
   simp only[List.nil_append,iQ,List.all_nil,Bool.and_true,List.isEmpty_nil,Bool.or_true] at h;unfold ej;rw[List.nil_append,ei,dw,Nat.mul_zero,Nat.zero_add,fY (tw h),B5 h]
  ·obtain⟨h1,V,h3⟩:=NI X h
   have Z:=ih h1;have U:ej l≠0:=by intro e;rw[e,jb] at Z;exact h3 Z.symm
   have S:=tw V;rw[nT,sL (by omega),show(10*ej l+(c.toNat-48)) / 10=ej l by omega,show(10*ej l+(c.toNat-48))%10=c.toNat-48 by omega,Z,B5 V]
def wY(l:List UInt8):Option Nat:=if iQ l then some (ej l) else none
theorem bk(u:Nat):wY (ai u)=some u:=by unfold wY;rw[if_pos (NJ u),du]
theorem fS(h:wY l=some u):l=ai u:=by
 unfold wY at h;split at h
 next Z=>cases h;exact(wG Z).symm
 ·cases h
variable{v:Nat}
theorem AI(h:ai u=ai v):u=v:=by rw[←du u,h,du]
theorem CF(u:Nat)(y:0<u):10 ^ ((ai u).length-1)≤u:=by
 induction u using wE with
 |h0 u h=>rw[fY h];simp;omega
 |h1 u h ih=>
  rw[sL h];have:=ih (by omega);have Z:=po (u / 10);simp only[List.length_append,List.length_singleton,Nat.add_sub_cancel];have e:10 ^ (ai (u / 10)).length=10 ^ ((ai (u / 10)).length-1)*10:=by rw[←Nat.pow_succ];congr 1;omega
  rw[e];omega
theorem bY(u:Nat):u<10 ^ (ai u).length:=by rw[uN,Lib.decDigits_length];exact Lib.lt_pow_nDigits u
theorem aG(hk:0<k)(h:u<10 ^ k):(ai u).length≤k:=by
 by_cases Z:u=0
 ·subst Z;rw[jb];exact hk
 ·have V:=CF u (by omega)
  have X:10 ^ ((ai u).length-1)<10 ^ k:=by omega
  have:=(Nat.pow_lt_pow_iff_right (by omega:1<10)).1 X;omega
def bB(n:Int):List UInt8:=match n with
 |.ofNat u=>ai u
 |.negSucc u=>45::ai (u+1)
theorem SN(n:Int):bB n=Lib.itoa n:=by
 unfold Lib.itoa;cases n with
 |ofNat u=>rw[if_neg (by simp)];simp[bB,uN]
 |negSucc u=>rw[if_pos (Int.negSucc_lt_zero u)];simp[bB,uN]
def jj(l:List UInt8):Option Int:=match l with
 |45::r=>match wY r with
  |some (u+1)=>some (.negSucc u)
  |_=>none
 |l=>match wY l with
  |some u=>some (.ofNat u)
  |none=>none
theorem pn(u:Nat):(ai u).head? ≠some 45:=by
 cases hl:ai u with
 |nil=>simp
 |cons c r=>
  have:=dn u;rw[hl] at this;simp only[List.all_cons,Bool.and_eq_true] at this;simp only[List.head?_cons,ne_eq,Option.some.injEq];rintro rfl;exact absurd this.1 (by decide)
theorem aA(n:Int):jj (bB n)=some n:=by
 cases n with
 |ofNat u=>
  have h:=pn u;simp only[bB];unfold jj;split
  ·rename_i r Z
   rw[Z] at h;simp at h
  ·rw[bk]
 |negSucc u=>simp[bB,jj,bk]
theorem bN{n:Int}(h:jj l=some n):l=bB n:=by
 unfold jj at h;split at h
 ·split at h
  ·rename_i Z
   cases h;simp[bB,fS Z]
  ·cases h
 ·split at h
  ·rename_i Z
   cases h;simp[bB,fS Z]
  ·cases h
theorem U7{m n:Int}(h:bB m=bB n):m=n:=by have:=aA m;rw[h,aA] at this;exact(Option.some.inj this).symm
theorem aL(n:Int):Lib.hasPrefix (bB n) [45]=decide (n<0):=by
 cases n with
 |ofNat u=>
  have h:=pn u;simp only[bB];cases hl:ai u with
  |nil=>exact absurd hl (ja u)
  |cons c r=>
   rw[hl] at h;simp only[List.head?_cons,ne_eq,Option.some.injEq] at h;rw[show decide (Int.ofNat u<0)=false by simp];have Z :¬(45:UInt8)=c:=fun e=>h e.symm
   simp[Lib.hasPrefix,List.isPrefixOf,Z]
 |negSucc u=>simp[bB,Lib.hasPrefix,List.isPrefixOf,Int.negSucc_lt_zero]
theorem aD(n:Int):Lib.trimPrefix (bB n) [45]=ai n.natAbs:=by
 unfold Lib.trimPrefix;rw[aL];cases n with
 |ofNat u=>
  rw[show decide (Int.ofNat u<0)=false by simp];rfl
 |negSucc u=>simp[bB,Int.negSucc_lt_zero,Int.natAbs]
theorem KO(h:isD c=true):Lib.digitVal c=some (c.toNat-48):=by unfold isD at h;simp only[Bool.and_eq_true,decide_eq_true_eq] at h;unfold Lib.digitVal;rw[if_pos h]
theorem yO:∀(l:List UInt8) (a:Nat),l.all isD=true→Lib.decFrom a l=some (uZ a l)
 | [],a,_=>by rw[dw];rfl
 |c::r,a,h=>by simp only[List.all_cons,Bool.and_eq_true] at h;unfold Lib.decFrom;rw[KO h.1,ei];simp only;rw[yO r _ h.2,Nat.mul_comm]
theorem B4(u:Nat):Lib.decNat (ai u)=some u:=by
 unfold Lib.decNat
 have h:(ai u).isEmpty=false:=by
  cases hl:ai u with
  |nil=>exact absurd hl (ja u)
  |cons=>rfl
 rw[h];simp only[Bool.false_eq_true,if_false];rw[yO _ _ (dn u)];exact congrArg some (du u)
theorem mZ(n:Int):Lib.atoi (bB n)=some n:=by
 cases n with
 |ofNat u=>
  have Z:=pn u;have X:=dn u;have h3:=B4 u;simp only[bB];cases hl:ai u with
  |nil=>exact absurd hl (ja u)
  |cons c r=>
   rw[hl] at Z X h3;simp only[List.head?_cons,ne_eq,Option.some.injEq] at Z;simp only[List.all_cons,Bool.and_eq_true] at X;have V:¬c=43:=by rintro rfl;exact absurd X.1 (by decide)
   simp[Lib.atoi,Z,V,h3]
 |negSucc u=>
  simp[bB,Lib.atoi,B4,Int.negSucc_eq]
theorem nL(h:(ai u).length<(ai v).length):u<v:=by
 have X:=bY u;have Z:0<v:=by
  by_cases Z:v=0
  ·subst Z
   rw[jb] at h;have:=po u;simp only[List.length_singleton] at h;omega
  ·omega
 have V:=CF v Z;have h3:10 ^ (ai u).length≤10 ^ ((ai v).length-1):=Nat.pow_le_pow_right (by omega) (by omega);exact Nat.lt_of_lt_of_le X (Nat.le_trans h3 V)
def jH(u v:Nat):Int:=if u<v then -1 else if v<u then 1 else 0
theorem uX:∀(l:List UInt8) (a:Nat),l.all isD=true→uZ a l<(a+1)*10 ^ l.length
 | [],a,_=>by rw[dw];simp
 |c::r,a,h=>by simp only[List.all_cons,Bool.and_eq_true] at h;have Z:=tw h.1;have:=uX r (10*a+(c.toNat-48)) h.2;rw[ei];refine Nat.lt_of_lt_of_le this ?_;rw[List.length_cons,Nat.pow_succ,Nat.mul_comm (10 ^ r.length) 10,←Nat.mul_assoc];exact Nat.mul_le_mul_right _ (by omega)
theorem SY:∀(l:List UInt8) (a:Nat),a*10 ^ l.length≤uZ a l
 | [],a=>by rw[dw];simp
 |c::r,a=>by have:=SY r (10*a+(c.toNat-48));rw[ei];refine Nat.le_trans ?_ this;rw[List.length_cons,Nat.pow_succ,Nat.mul_comm (10 ^ r.length) 10,←Nat.mul_assoc];exact Nat.mul_le_mul_right _ (by omega)
theorem nb:∀(l r:List UInt8) (a:Nat),l.length=r.length→l.all isD=true→r.all isD=true→Lib.compareBytes l r=jH (uZ a l) (uZ a r)
 | [],[],a,_,_,_=>by
  rw[dw];show(0:Int)=jH a a
  unfold jH;rw[if_neg (by omega),if_neg (by omega)]
 | [],_::_,_,h,_,_=>by simp at h
 |_::_,[],_,h,_,_=>by simp at h
 |c::l,d::r,a,h,h1,h2=>by
  simp only[List.length_cons,Nat.add_right_cancel_iff] at h;simp only[List.all_cons,Bool.and_eq_true] at h1 h2;have X:∀{x y:UInt8}{l r:List UInt8},isD x=true→isD y=true→l.all isD=true→l.length=r.length→x<y→uZ (10*a+(x.toNat-48)) l<uZ (10*a+(y.toNat-48)) r:=by intro x y l r S R Q U O;have N:=uX l (10*a+(x.toNat-48)) Q;have L:=SY r (10*a+(y.toNat-48));have M :x.toNat<y.toNat:=O;unfold isD at S R;simp only[Bool.and_eq_true,decide_eq_true_eq] at S R;rw[U] at N;have:(10*a+(x.toNat-48)+1)*10 ^ r.length≤(10*a+(y.toNat-48))*10 ^ r.length:=Nat.mul_le_mul_right _ (by omega);omega
  unfold Lib.compareBytes;rw[ei,ei];by_cases V:c<d
  ·rw[if_pos V]
   have:=X h1.1 h2.1 h1.2 h V;unfold jH;rw[if_pos this]
  ·rw[if_neg V]
   by_cases Z:d<c
   ·rw[if_pos Z]
    have:=X h2.1 h1.1 h2.2 h.symm Z;unfold jH;rw[if_neg (by omega),if_pos this]
   ·rw[if_neg Z]
    have K:¬c.toNat<d.toNat:=V;have G:¬d.toNat<c.toNat:=Z;have e:c.toNat=d.toNat:=by omega
    rw[e];exact nb l r _ h h1.2 h2.2
theorem xR(h:(ai u).length=(ai v).length):Lib.compareBytes (ai u) (ai v)=jH u v:=by
 have:=nb (ai u) (ai v) 0 h (dn u) (dn v);rw[this];show jH (ej (ai u)) (ej (ai v))=_
 rw[du,du]
def kg(n:Int):Int:=if n<0 then -1 else if n=0 then 0 else 1
def KK(m n:Int):Int:=if m<n then -1 else if n<m then 1 else 0
theorem SO(n:Int):bB n=[48]↔n=0:=by
 constructor
 ·intro h;exact U7 (h.trans (by rfl))
 ·rintro rfl;rfl
theorem fK(n:Int):(bB n==[48])=decide (n=0):=by rw[Bool.eq_iff_iff];simp[SO]
theorem rC(n:Int):0<(bB n).length:=by
 cases n with
 |ofNat u=>exact po u
 |negSucc u=>simp[bB]
theorem jY{n:Int}(h:0<n):bB (-n)=45::bB n:=by
 cases n with
 |ofNat u=>
  cases u with
  |zero=>simp at h
  |succ u=>rfl
 |negSucc u=>exact absurd h (by have:=Int.negSucc_lt_zero u;omega)
theorem GH{n:Int}(h:n<0):(bB n).drop 1=bB (-n):=by have:=jY (n:= -n) (by omega);rw[Int.neg_neg] at this;rw[this];rfl
theorem fL{n:Int}(h:0≤n):bB n=ai n.natAbs:=by
 cases n with
 |ofNat u=>rfl
 |negSucc u=>exact absurd h (by have:=Int.negSucc_lt_zero u;omega)
theorem Wa(a b:Int):KK a b=if kg a≠kg b then (if kg a<kg b then -1 else 1) else
  if (ai a.natAbs).length≠(ai b.natAbs).length then (if (ai a.natAbs).length<(ai b.natAbs).length then-kg a else kg a) else kg a*jH a.natAbs b.natAbs:=by
 by_cases Z:kg a≠kg b
 ·rw[if_pos Z]
  unfold kg at Z ⊢;unfold KK
  repeat' split
  all_goals first | rfl | omega
 ·rw[if_neg Z]
  by_cases V:(ai a.natAbs).length≠(ai b.natAbs).length
  ·rw[if_pos V]
   by_cases X:(ai a.natAbs).length<(ai b.natAbs).length
   ·rw[if_pos X]
    have:=nL X;unfold kg at Z ⊢;unfold KK
    repeat' split
    all_goals first | rfl | omega
   ·rw[if_neg X]
    have:=nL (u:=b.natAbs) (v:=a.natAbs) (by omega);unfold kg at Z ⊢;unfold KK
    repeat' split
    all_goals first | rfl | omega
  ·rw[if_neg V]
   unfold kg at Z ⊢;unfold KK jH
   repeat' split
   all_goals first | rfl | omega
def aB(q:Rat):List UInt8:=if q.den=1 then bB q.num else bB q.num++47::ai q.den
theorem wF(u:Nat):(47:UInt8)∉ai u:=by intro h;have:=List.all_eq_true.1 (dn u) _ h;exact absurd this (by decide)
theorem gQ(n:Int):(47:UInt8)∉bB n:=by
 cases n with
 |ofNat u=>exact wF u
 |negSucc u=>
  simp only[bB,List.mem_cons,not_or];exact⟨by decide,wF _⟩
theorem nq:∀(l:List UInt8) (c:UInt8),c∉l→Lib.indexByte l c= -1
 | [],_,_=>rfl
 |b::l,c,h=>by simp only[List.mem_cons,not_or] at h;unfold Lib.indexByte;rw[if_neg (by simpa using fun e=>h.1 e.symm),nq l c h.2];rfl
theorem yR:∀(l r:List UInt8) (c:UInt8),c∉l→Lib.indexByte (l++c::r) c=l.length
 | [],r,c,_=>by simp[Lib.indexByte]
 |b::l,r,c,h=>by
  simp only[List.mem_cons,not_or] at h;rw[List.cons_append];unfold Lib.indexByte;rw[if_neg (by simpa using fun e=>h.1 e.symm),yR l r c h.2];have Z:¬(((l.length:Int)== -1)=true):=by rw[beq_iff_eq];omega
  rw[if_neg Z];rfl
theorem Ec(q:Rat):Lib.indexByte (aB q) 47=if q.den=1 then -1 else ((bB q.num).length:Int):=by
 unfold aB;split
 ·exact nq _ _ (gQ _)
 ·exact yR _ _ _ (gQ _)
def Q6(n:Int)(d:Nat):Option Rat:=if h:1<d∧n.natAbs.gcd d=1 then some ⟨n,d,by omega,h.2⟩ else none
def ef(l:List UInt8):Option Rat:=match l.idxOf? 47 with
 |none=>match jj l with
  |some n=>some ⟨n,1,by decide,Nat.gcd_one_right _⟩
  |none=>none
 |some i=>match jj (l.take i),wY (l.drop (i+1)) with
  |some n,some d=>Q6 n d
  |_,_=>none
theorem EG(h:c∉l):l.idxOf? c=none:=List.idxOf?_eq_none_iff.2 h
theorem OR{r:List UInt8}(h:c∉l):(l++c::r).idxOf? c=some l.length:=by rw[List.idxOf?_eq_some_iff];refine⟨by simp,by simp,fun j Z=>?_⟩;rw[List.getElem_append_left Z];intro e;exact h (e▸List.getElem_mem Z)
theorem az(q:Rat):ef (aB q)=some q:=by
 unfold ef aB;by_cases h:q.den=1
 ·rw[if_pos h,EG (gQ _)]
  simp only[aA];congr 1;apply Rat.ext
  ·rfl
  ·exact h.symm
 ·have Z:List.drop ((bB q.num).length+1) (bB q.num++47::ai q.den)=ai q.den:=by rw[List.drop_append];simp
  have X:List.take (bB q.num).length (bB q.num++47::ai q.den)=bB q.num:=List.take_left' rfl;have V:1<q.den:=by have:=q.den_nz;omega
  have U:q.num.natAbs.gcd q.den=1:=q.reduced;rw[if_neg h,OR (gQ _)];simp only;rw[Z,X,aA,bk];simp only[Q6];rw[dif_pos ⟨V,U⟩]
variable{q:Rat}
theorem aC(h:ef l=some q):l=aB q:=by
 unfold ef at h;split at h
 ·split at h
  ·rename_i n Z
   cases h;unfold aB;rw[if_pos rfl];exact bN Z
  ·cases h
 ·rename_i i X
  split at h
  ·rename_i n d Z V
   unfold Q6 at h;split at h
   ·rename_i R
    cases h;unfold aB;rw[if_neg (by show¬d=1;omega)];obtain⟨U,S,_⟩:=List.idxOf?_eq_some_iff.1 X;show l=bB n++47::ai d
    rw[←bN Z,←fS V];have:l.drop i=47::l.drop (i+1):=by rw[List.drop_eq_getElem_cons U,S]
    rw[←this,List.take_append_drop]
   ·cases h
  ·cases h
theorem GQ{p:Rat}(h:aB p=aB q):p=q:=by have:=az p;rw[h,az] at this;exact(Option.some.inj this).symm
theorem CJ(q:Rat):aB q=[48]↔q=0:=by
 constructor
 ·intro h;exact GQ (h.trans (by rfl))
 ·rintro rfl;rfl
theorem aV(q:Rat):(aB q==[48])=decide (q=0):=by rw[Bool.eq_iff_iff];simp[CJ]
theorem neg_num(q:Rat):(-q).num= -q.num:=rfl
theorem neg_den(q:Rat):(-q).den=q.den:=rfl
theorem mz(h:0<q.num):aB (-q)=45::aB q:=by unfold aB;rw[neg_num,neg_den,jY h];split<;>rfl
theorem iz(h:q.num<0):aB q=45::aB (-q):=by
 have:=mz (q:= -q) (by rw[neg_num];omega)
 rwa [Rat.neg_neg] at this
theorem mu:q.num=0↔q=0:=by
 constructor
 ·intro h
  apply Rat.ext
  ·exact h
  ·have:=q.reduced
   rw[h] at this;simpa [Nat.Coprime] using this
 ·rintro rfl;rfl
theorem kc(h:0≤q.num):∃c r,aB q=c::r∧isD c=true:=by
 have X:∃c r,bB q.num=c::r∧isD c=true:=by
  rw[fL h];have:=dn q.num.natAbs;cases hl:ai q.num.natAbs with
  |nil=>exact absurd hl (ja _)
  |cons c r=>
   rw[hl] at this;simp only[List.all_cons,Bool.and_eq_true] at this;exact⟨c,r,rfl,this.1⟩
 obtain⟨c,r,e,Z⟩:=X;unfold aB;split
 ·exact⟨c,r,e,Z⟩
 ·exact⟨c,r++47::ai q.den,by rw[e];rfl,Z⟩
theorem eG(h:isD c=true):¬((c.toNat:Int)=45):=by unfold isD at h;simp only[Bool.and_eq_true,decide_eq_true_eq] at h;omega
def nQ(q:Rat):Int:=kg q.num
def big(k:Nat)(q:Rat):Prop:=q.num.natAbs<10 ^ k∧q.den<10 ^ k
variable{m:Nat}
theorem big.mono(h:big k q)(y:k≤m):big m q:=by have:10 ^ k≤10 ^ m:=Nat.pow_le_pow_right (by omega) y;exact⟨by have:=h.1;omega,by have:=h.2;omega⟩
variable{d:Nat}
theorem GL(n:Int)(hd:d≠0):(mkRat n d).num.natAbs≤n.natAbs∧(mkRat n d).den≤d:=by rw[Rat.num_mkRat,Rat.den_mkRat,if_neg hd,if_neg hd];refine⟨?_,Nat.div_le_self _ _⟩;exact Int.natAbs_ediv_le_natAbs _ _
theorem KC{n:Int}(hd:d≠0)(h1:n.natAbs<10 ^ k)(h2:d<10 ^ k):big k (mkRat n d):=by have:=GL n hd;exact⟨by omega,by omega⟩
theorem kH{a b:Nat}(h1:a<10 ^ k)(h2:b<10 ^ k):a*b<10 ^ (2*k):=by
 have:a*b<10 ^ k*10 ^ k:=Nat.mul_lt_mul'' h1 h2
 rwa [←Nat.pow_add,show k+k=2*k by omega] at this
variable{a b:Rat}
section
variable (ha:big k a)
include ha
theorem xN(y:big k b):big (2*k) (a*b):=by rw[Rat.mul_def'];refine KC (Nat.mul_ne_zero a.den_nz b.den_nz) ?_ (kH ha.2 y.2);rw[Int.natAbs_mul];exact kH ha.1 y.1
theorem V6(y:big k b):big (2*k+1) (a+b):=by rw[Rat.add_def'];have X:=kH ha.2 y.2;have h3:10 ^ (2*k+1)=10 ^ (2*k)*10:=Nat.pow_succ ..;refine KC (Nat.mul_ne_zero a.den_nz b.den_nz) ?_ (by omega);have V:=kH ha.1 y.2;have U:=kH y.1 ha.2;have Z:=Int.natAbs_add_le (a.num*b.den) (b.num*a.den);rw[Int.natAbs_mul,Int.natAbs_mul,Int.natAbs_natCast,Int.natAbs_natCast] at Z;omega
theorem V8:big k (-a):=by refine⟨?_,ha.2⟩;rw[Rat.neg_num,Int.natAbs_neg];exact ha.1
theorem kU(y:big k b):big (2*k+1) (a-b):=by rw[Rat.sub_eq_add_neg];exact V6 ha (V8 y)
theorem V7:big k a⁻¹:=by
 have V:0<10 ^ k:=Nat.pow_pos (by omega);refine⟨?_,?_⟩
 ·rw[Rat.num_inv,Int.natAbs_mul,Int.natAbs_natCast]
  have:=ha.2;have X:a.num.sign.natAbs≤1:=by
   rcases Int.lt_trichotomy a.num 0 with h | h | h
   ·rw[Int.sign_eq_neg_one_of_neg h];decide
   ·rw[h];decide
   ·rw[Int.sign_eq_one_of_pos h];decide
  have:a.num.sign.natAbs*a.den≤1*a.den:=Nat.mul_le_mul_right _ X;omega
 ·rw[Rat.den_inv]
  have:=ha.1;by_cases Z:a.num=0
  ·rw[if_pos Z]
   have U:=ha.2;have:=a.den_nz;omega
  ·rw[if_neg Z];omega
theorem Gr(y:big k b):big (2*k) (a / b):=by rw[Rat.div_def];exact xN ha (V7 y)
end
theorem OE(hk:0<k):big k 0:=by have Z:10 ^ 1≤10 ^ k:=Nat.pow_le_pow_right (by omega) hk;exact⟨by show(0:Nat)<10 ^ k;omega,by show(1:Nat)<10 ^ k;omega⟩
variable{n:Nat}
theorem iY(hk:0<k)(h:n<10 ^ k):(ai n).length≤k:=aG hk h
theorem cQ(n:Int):(bB n).length≤(ai n.natAbs).length+1:=by
 cases n with
 |ofNat u=>simp[bB]
 |negSucc u=>simp[bB]
theorem QG(hk:0<k)(h:big k q):(aB q).length≤2*k+2:=by
 have Z:=aG hk h.1;have X:=aG hk h.2;have h3:=cQ q.num;unfold aB;split
 ·omega
 ·simp only[List.length_append,List.length_cons];omega
theorem Gs(h:(aB q).length≤k):big k q:=by
 have V:=bY q.num.natAbs;have U:=bY q.den;have h3:(ai q.num.natAbs).length≤(bB q.num).length:=by
  cases q.num with
  |ofNat u=>exact Nat.le_refl _
  |negSucc u=>simp[bB]
 have S:=rC q.num;have Z:(ai q.num.natAbs).length≤k∧(ai q.den).length≤k:=by
  unfold aB at h;split at h
  ·rename_i X
   refine⟨by omega,?_⟩;rw[X];show 1≤k
   omega
  ·simp only[List.length_append,List.length_cons] at h
   omega
 have R:10 ^ (ai q.num.natAbs).length≤10 ^ k:=Nat.pow_le_pow_right (by omega) Z.1;have Q:10 ^ (ai q.den).length≤10 ^ k:=Nat.pow_le_pow_right (by omega) Z.2;exact⟨by omega,by omega⟩
def asc:List (Rat×Rat)→Prop
 |a::b::l=>a.1<b.1∧asc (b::l)
 |_=>True
def dm(l:List (Rat×Rat))(u:Rat):Nat:=match l with
 | []=>0
 |k::r=>(if k.1≤u then 1 else 0)+dm r u
def ze(a b:Rat×Rat):Rat:=(b.2-a.2) / (b.1-a.1)
def jl(l:List (Rat×Rat))(n:Nat):Rat×Rat:=
 if l=[] then (0,0) else if n=0 then ((l.getD 0 (0,0)).2,0) else if n=l.length then ((l.getD (n-1) (0,0)).2,0) else
  ((l.getD (n-1) (0,0)).2-ze (l.getD (n-1) (0,0)) (l.getD n (0,0))*(l.getD (n-1) (0,0)).1,ze (l.getD (n-1) (0,0)) (l.getD n (0,0)))
def gh(l:List (Rat×Rat))(u:Rat):Rat:=(jl l (dm l u)).1+(jl l (dm l u)).2*u
def TX(u:Rat):Rat×Rat→List (Rat×Rat)→Rat
 |a,[]=>a.2
 |a,b::l=>if u≤b.1 then a.2+(u-a.1) / (b.1-a.1)*(b.2-a.2) else TX u b l
def OW(u:Rat):List (Rat×Rat)→Rat
 | []=>0
 |a::l=>if u≤a.1 then a.2 else TX u a l
theorem Av{a:Rat×Rat}{l:List (Rat×Rat)}(h:asc (a::l)):asc l:=by
 cases l with
 |nil=>trivial
 |cons b l=>exact h.2
theorem yf(l:List (Rat×Rat))(u:Rat):dm l u≤l.length:=by
 induction l with
 |nil=>exact Nat.le_refl _
 |cons k r ih=>simp only[dm,List.length_cons];split<;>omega
theorem y7{l:List (Rat×Rat)}{u:Rat}(h:asc l)(h0:∀a∈l.head?,u<a.1):dm l u=0:=by
 induction l with
 |nil=>rfl
 |cons k r ih=>
  have X:u<k.1:=h0 k (by simp);have:¬k.1≤u:=Rat.not_le.2 X;simp only[dm,if_neg this];rw[ih (Av h) ?_];intro a Z;cases r with
  |nil=>simp at Z
  |cons b r=>
   simp at Z;subst Z;have:=h.1
   grind
theorem QW{a:Rat×Rat}{l:List (Rat×Rat)}(y:l≠[])(H:n≠0):jl (a::l) (n+1)=jl l n:=by
 obtain⟨m,rfl⟩:∃m,n=m+1:=⟨n-1,by omega⟩
 unfold jl;simp[y]
theorem Dd{a b:Rat×Rat}{l:List (Rat×Rat)}{u:Rat}(h:asc (a::b::l))(y:b.1≤u):gh (a::b::l) u=gh (b::l) u:=by
 have Z:a.1≤u:=by have:=h.1;grind
 have e:dm (a::b::l) u=dm (b::l) u+1:=by rw[dm,if_pos Z,Nat.add_comm]
 have X:dm (b::l) u≠0:=by rw[dm,if_pos y];omega
 unfold gh;rw[e,QW (by simp) X]
theorem zi{a b:Rat×Rat}{l:List (Rat×Rat)}{u:Rat}(h:asc (a::b::l))(y:a.1≤u)(H:u<b.1):gh (a::b::l) u=a.2+(u-a.1) / (b.1-a.1)*(b.2-a.2):=by
 have e:dm (a::b::l) u=1:=by rw[dm,if_pos y,y7 (Av h) (by simpa using H)]
 have X:b.1-a.1≠0:=by have:=h.1;grind
 unfold gh;rw[e];have Z:jl (a::b::l) 1=(a.2-ze a b*a.1,ze a b):=by simp[jl]
 rw[Z];simp only[ze,Rat.div_def]
 grind
theorem De{a:Rat×Rat}{u:Rat}(y:a.1≤u):gh [a] u=a.2:=by
 have e:dm [a] u=1:=by simp[dm,y]
 unfold gh;rw[e];simp[jl,Rat.add_zero]
theorem L5{a:Rat×Rat}{l:List (Rat×Rat)}(h:asc (a::l)):gh (a::l) a.1=a.2:=by
 cases l with
 |nil=>exact De (by grind)
 |cons b l=>
  rw[zi h (by grind) h.1];have:(a.1-a.1) / (b.1-a.1)*(b.2-a.2)=0:=by rw[Rat.sub_self,Rat.div_def,Rat.zero_mul,Rat.zero_mul]
  rw[this,Rat.add_zero]
theorem Df{u:Rat}:∀{a:Rat×Rat} {l:List (Rat×Rat)},asc (a::l)→a.1<u→gh (a::l) u=TX u a l
 |a,[],_,ha=>De (by grind)
 |a,b::l,h,ha=>by
  unfold TX;by_cases Z:u≤b.1
  ·rw[if_pos Z]
   by_cases X:u=b.1
   ·rw[Dd h (by grind),X,L5 (Av h)]
    have V:b.1-a.1≠0:=by have:=h.1;grind
    have:(b.1-a.1) / (b.1-a.1)=1:=by rw[Rat.div_def,Rat.mul_inv_cancel _ V]
    rw[this]
    grind
   ·exact zi h (by grind) (by grind)
  ·rw[if_neg Z,Dd h (by grind)]
   exact Df (Av h) (by grind)
theorem Rl{u:Rat}{l:List (Rat×Rat)}(h:asc l):gh l u=OW u l:=by
 cases l with
 |nil=>simp[gh,jl,OW,Rat.add_zero]
 |cons a l=>
  show _=if u≤a.1 then a.2 else TX u a l
  by_cases Z:u≤a.1
  ·rw[if_pos Z]
   by_cases X:u=a.1
   ·rw[X];exact L5 h
   ·have e:dm (a::l) u=0:=y7 h (by simp;grind)
    unfold gh;rw[e];simp[jl,Rat.add_zero]
  ·rw[if_neg Z]
   exact Df h (by grind)
variable{x:Int}
theorem fb{y:Int}{a b:Nat}(h1:x.natAbs<a)(h2:y.natAbs<b):(x*y).natAbs<a*b:=by rw[Int.natAbs_mul];exact Nat.mul_lt_mul'' h1 h2
def dg(n d:Nat)(q:Rat):Prop:=q.num.natAbs<10 ^ n∧q.den<10 ^ d
variable{d' n' :Nat}
theorem dg.mono(h:dg n d q)(y:n≤n')(hd:d≤d'):dg n' d' q:=by have Z:10 ^ n≤10 ^ n' :=Nat.pow_le_pow_right (by omega) y;have X:10 ^ d≤10 ^ d' :=Nat.pow_le_pow_right (by omega) hd;exact⟨by have:=h.1;omega,by have:=h.2;omega⟩
theorem sw{y:Nat}(H:y≠0)(h1:x.natAbs<10 ^ n)(h2:y<10 ^ d):dg n d (mkRat x y):=by have:=GL x H;exact⟨by omega,by omega⟩
theorem nv{a b:Nat}(h1:a<10 ^ k)(h2:b<10 ^ m):a*b<10 ^ (k+m):=by rw[Nat.pow_add];exact Nat.mul_lt_mul'' h1 h2
section
variable (ha:dg n d a)
include ha
theorem il(y:dg n' d' b):dg (n+n') (d+d') (a*b):=by rw[Rat.mul_def'];refine sw (Nat.mul_ne_zero a.den_nz b.den_nz) ?_ (nv ha.2 y.2);rw[Int.natAbs_mul];exact nv ha.1 y.1
theorem nd(y:dg n' d' b)(h1:n+d' ≤m)(h2:n' +d≤m):dg (m+1) (d+d') (a+b):=by rw[Rat.add_def'];refine sw (Nat.mul_ne_zero a.den_nz b.den_nz) ?_ (nv ha.2 y.2);have X:=nv ha.1 y.2;have V:=nv y.1 ha.2;have Z:=Int.natAbs_add_le (a.num*b.den) (b.num*a.den);rw[Int.natAbs_mul,Int.natAbs_mul,Int.natAbs_natCast,Int.natAbs_natCast] at Z;have U:10 ^ (n+d')≤10 ^ m:=Nat.pow_le_pow_right (by omega) h1;have S:10 ^ (n' +d)≤10 ^ m:=Nat.pow_le_pow_right (by omega) h2;have R:10 ^ (m+1)=10 ^ m*10:=Nat.pow_succ ..;omega
theorem WS:dg n d (-a):=by refine⟨?_,ha.2⟩;rw[Rat.neg_num,Int.natAbs_neg];exact ha.1
theorem KN(y:dg n' d' b)(h1:n+d' ≤m)(h2:n' +d≤m):dg (m+1) (d+d') (a-b):=by rw[Rat.sub_eq_add_neg];exact nd ha (WS y) h1 h2
end
theorem KM(h:x.natAbs<10 ^ n):dg n 1 (x:Rat):=⟨by simpa using h,by show(1:Nat)<10;decide⟩
theorem dg.lens(h:dg n d q)(y:0<n)(hd:0<d):(ai q.num.natAbs).length≤n∧(ai q.den).length≤d:=
 ⟨aG y h.1,aG hd h.2⟩
def stC(l:List (List UInt8)):List AV:=l.map .str
theorem nS(l:List (List UInt8)):(stC l).length=l.length:=by simp[stC]
theorem dR:∀l:List (List UInt8),AV.ae8 (stC l)=true
 | []=>rfl
 |x::l=>by have:=dR l;simp only[stC] at this;simp[stC,AV.ae8,AV.closed,this]
variable{i:Nat}
theorem Pa{l:List (List UInt8)}{s:List UInt8}(h:l[i]? =some s):(stC l)[i]? =some (.str s):=by simp[stC,h]
def stP:List AV→Option (List (List UInt8))
 | []=>some []
 |.str a::l=>match stP l with
  |some r=>some (a::r)
  |none=>none
 |_=>none
theorem TL:∀L:List (List UInt8),stP (stC L)=some L
 | []=>rfl
 |k::L=>by have:=TL L;simp only[stC] at this;simp[stC,stP,this]
theorem Pb:∀{cs:List AV} {L:List (List UInt8)},stP cs=some L→cs=stC L
 | [],L,h=>by cases h;rfl
 |v::l,L,h=>by
  unfold stP at h;split at h
  next Z=>cases Z
  ·rename_i a V Z
   cases Z;split at h
   ·rename_i r X
    cases h;have:=Pb X;simp only[stC] at this ⊢;rw[this];rfl
   ·cases h
  ·cases h
def sts(M:Mem)(x:AV):Option (List (List UInt8)):=match KH 1 M x with
 |some cs=>stP cs
 |none=>none
theorem Vv{M:Mem}{x:AV}{L:List (List UInt8)}(h:sts M x=some L):VE 1 M x L.length (stC L)∨(x=.qF∧L=[]):=by
 unfold sts at h;split at h
 ·rename_i S X
  have V:=Pb h;subst V;rcases NL X with⟨n,Z,U⟩ | ⟨rfl,Z⟩
  ·have:n=L.length:=by rw[nS] at Z;omega
   subst this;exact .inl U
  ·refine .inr ⟨rfl,?_⟩
   cases L with
   |nil=>rfl
   |cons a l=>simp[stC] at Z
 ·cases h
abbrev P2:=Rat×Rat
def pA(p:P2):AV:=.agg [.str (aB p.1),.str (aB p.2)]
def pDg(n:Nat)(p:P2):Prop:=dg n n p.1∧dg n n p.2
def Af(a b c:P2):Rat:=(b.1-a.1)*(c.2-a.2)-(b.2-a.2)*(c.1-a.1)
def pC:List P2→List AV
 | []=>[]
 |p::l=>.str (aB p.1)::.str (aB p.2)::pC l
theorem CE:∀l:List P2,(pC l).length=l.length*2
 | []=>rfl
 |_::l=>by simp only[pC,List.length_cons,CE l];omega
theorem dY:∀l:List P2,AV.ae8 (pC l)=true
 | []=>rfl
 |p::l=>by simp[pC,AV.ae8,AV.closed,dY l]
theorem uR(n:Nat):∀l:List P2,AV.afm n (pC l)=[]
 | []=>rfl
 |p::l=>by simp[pC,AV.afm,AV.refs,uR n l]
theorem O4(f:Nat→Option Nat)(l:List P2):AV.afp f (pC l)=pC l:=aM (dY l)
theorem W9:pC []=[]:=rfl
theorem Xa(f:Nat→Bool):∀l:List P2,AV.afa f (pC l)=true
 | []=>rfl
 |p::l=>by simp[pC,AV.afa,AV.ae6,Xa f l]
theorem Ly:∀l r:List P2,pC (l++r)=pC l++pC r
 | [],_=>rfl
 |p::l,r=>by simp[pC,Ly l r]
theorem Tq:∀(l:List P2) (i:Nat),(pC l).drop (i*2)=pC (l.drop i)
 |l,0=>by simp
 | [],i+1=>by simp[pC]
 |p::l,i+1=>by
  have:(i+1)*2=i*2+1+1:=by omega
  rw[this];simp only[pC,List.drop_succ_cons];exact Tq l i
theorem Tp{l:List P2}{p:P2}(h:l[i]? =some p):
  ((pC l).drop (i*2)).take 2=[.str (aB p.1),.str (aB p.2)]∧(pC l)[i*2]? =some (.str (aB p.1))∧(pC l)[i*2+1]? =some (.str (aB p.2))∧i*2+2≤(pC l).length:=by
 have U:=gL h;have Z:l.drop i=p::l.drop (i+1):=by rw[List.getElem?_eq_some_iff] at h;obtain⟨X,V⟩:=h;rw[←V];exact List.drop_eq_getElem_cons X
 have e:=Tq l i;rw[Z] at e;refine⟨by rw[e];rfl,?_,?_,by rw[CE];omega⟩
 ·have:(pC l)[i*2]? =((pC l).drop (i*2))[0]? :=by rw[List.getElem?_drop];rfl
  rw[this,e];rfl
 ·have:(pC l)[i*2+1]? =((pC l).drop (i*2))[1]? :=by rw[List.getElem?_drop]
  rw[this,e];rfl
abbrev Tr:=Nat×Nat×Nat
def tC:List Tr→List AV
 | []=>[]
 |t::l=>.int .i64 (t.1:Int)::.int .i64 (t.2.1:Int)::.int .i64 (t.2.2:Int)::tC l
theorem LX:∀l:List Tr,(tC l).length=l.length*3
 | []=>rfl
 |_::l=>by simp only[tC,List.length_cons,LX l];omega
theorem fC:∀l:List Tr,AV.ae8 (tC l)=true
 | []=>rfl
 |p::l=>by simp[tC,AV.ae8,AV.closed,fC l]
theorem sf(n:Nat):∀l:List Tr,AV.afm n (tC l)=[]
 | []=>rfl
 |p::l=>by simp[tC,AV.afm,AV.refs,sf n l]
theorem E8(f:Nat→Option Nat)(l:List Tr):AV.afp f (tC l)=tC l:=aM (fC l)
theorem TM:∀(l:List Tr) (i:Nat),(tC l).drop (i*3)=tC (l.drop i)
 |l,0=>by simp
 | [],i+1=>by simp[tC]
 |p::l,i+1=>by
  have:(i+1)*3=i*3+1+1+1:=by omega
  rw[this];simp only[tC,List.drop_succ_cons];exact TM l i
theorem Xg{l:List Tr}{t:Tr}(h:l[i]? =some t):
  ((tC l).drop (i*3)).take 3=[.int .i64 (t.1:Int),.int .i64 (t.2.1:Int),.int .i64 (t.2.2:Int)]∧i*3+3≤(tC l).length:=by
 have U:=gL h;have Z:l.drop i=t::l.drop (i+1):=by rw[List.getElem?_eq_some_iff] at h;obtain⟨X,V⟩:=h;rw[←V];exact List.drop_eq_getElem_cons X
 have e:=TM l i;rw[Z] at e;exact⟨by rw[e];rfl,by rw[LX];omega⟩
def pmE(p:P2):AV×AV:=(pA p,.bool true)
theorem GV(n:Nat):∀l:List P2,(l.map pmE).flatMap (fun e=>e.1.refs n++e.2.refs n)=[]
 | []=>rfl
 |p::l=>by simp[pmE,pA,AV.refs,AV.afm,GV n l]
def sqI:List (Int×Int):=[(0,0),(4,0),(4,4),(0,4)]
def dU:Nat→List (Int×Int)
 |0=>sqI
 |1=>sqI
 |2=>[(0,0),(4,0),(4,4),(0,4),(2,1)]
 |3=>[(0,0),(6,0),(0,4)]
 |4=>[(0,0),(2,0),(4,0),(0,2),(2,2),(4,2)]
 |5=>[(1,4),(5,3),(4,0),(0,0)]
 |6=>[(0,0),(4,0),(4,4),(0,4),(2,0)]
 |_=>[(0,0),(6,0),(0,6),(2,2)]
def bR:Nat→List Tr
 |0=>[(0,1,2),(0,2,3)]
 |1=>[(0,1,3),(1,2,3)]
 |2=>[(0,1,4),(1,2,4),(2,3,4),(3,0,4)]
 |3=>[(2,0,1)]
 |4=>[(0,1,4),(0,4,3),(1,2,5),(1,5,4)]
 |5=>[(3,2,1),(3,1,0)]
 |6=>[(0,4,3),(4,2,3),(4,1,2)]
 |_=>[(0,1,3),(1,2,3),(2,0,3)]
def lz:Nat→List Nat
 |2=>[0,1,2,3]
 |3=>[0,1,2]
 |4=>[0,1,2,5,4,3]
 |5=>[0,3,2,1]
 |6=>[0,4,1,2,3]
 |7=>[0,1,2]
 |_=>[0,1,2,3]
def iP:List (Int×Int)→List AV
 | []=>[]
 |p::l=>.int .i64 p.1::.int .i64 p.2::iP l
theorem Lb:∀l:List (Int×Int),(iP l).length=l.length*2
 | []=>rfl
 |_::l=>by simp only[iP,List.length_cons,Lb l];omega
theorem NW(n:Nat):∀l:List (Int×Int),AV.afm n (iP l)=[]
 | []=>rfl
 |p::l=>by simp[iP,AV.afm,AV.refs,NW n l]
theorem La:∀l:List (Int×Int),AV.ae8 (iP l)=true
 | []=>rfl
 |p::l=>by simp[iP,AV.ae8,AV.closed,La l]
theorem SI(f:Nat→Option Nat)(l:List (Int×Int)):AV.afp f (iP l)=iP l:=aM (La l)
theorem SH:∀(l:List (Int×Int)) (i:Nat),(iP l).drop (i*2)=iP (l.drop i)
 |l,0=>by simp
 | [],i+1=>by simp[iP]
 |p::l,i+1=>by
  have:(i+1)*2=i*2+1+1:=by omega
  rw[this];simp only[iP,List.drop_succ_cons];exact SH l i
theorem XE{l:List (Int×Int)}{p:Int×Int}(h:l[i]? =some p):
  (iP l)[i*2]? =some (.int .i64 p.1)∧(iP l)[i*2+1]? =some (.int .i64 p.2)∧i*2+2≤(iP l).length:=by
 have U:=gL h;have Z:l.drop i=p::l.drop (i+1):=by rw[List.getElem?_eq_some_iff] at h;obtain⟨X,V⟩:=h;rw[←V];exact List.drop_eq_getElem_cons X
 have e:=SH l i;rw[Z] at e;refine⟨?_,?_,by rw[Lb];omega⟩
 ·have:(iP l)[i*2]? =((iP l).drop (i*2))[0]? :=by rw[List.getElem?_drop];rfl
  rw[this,e];rfl
 ·have:(iP l)[i*2+1]? =((iP l).drop (i*2))[1]? :=by rw[List.getElem?_drop]
  rw[this,e];rfl
structure afh where
 kind:Nat
 sx:Int
 sy:Int
 half:Bool
structure afh.Ok (s:afh):Prop where
 kind:s.kind<256
 x0: -128≤s.sx
 x1:s.sx≤127
 y0: -128≤s.sy
 y1:s.sy≤127
def afh.av(s:afh):AV:=.agg [.int .u8 s.kind,.int .i8 s.sx,.int .i8 s.sy,.bool s.half]
def afh.pt(s:afh)(k:Nat)(x y:Int):P2:=
 (mkRat (x+s.sx.tmod 8*k) ((if s.half then 2 else 1)*k),mkRat (y+s.sy.tmod 8*k) ((if s.half then 2 else 1)*k))
def afh.P(s:afh):List P2:=(dU (s.kind%8)).map fun p=>s.pt 1 p.1 p.2
def afh.T(s:afh):List Tr:=bR (s.kind%8)
theorem TT{n:Int}(h0: -128≤n)(h1:n≤127):IntKind.i8.wrap n=n:=by simp only[IntKind.wrap,IntKind.bits,IntKind.signed,Bool.true_and];split<;>simp_all<;>omega
theorem Vy(x:Int): -7≤x.tmod 8∧x.tmod 8≤7:=by
 have Z:=Int.tmod_lt_of_pos x (show(0:Int)<8 by decide);have X: -8<x.tmod 8:=by have:=Int.tmod_lt_of_pos (-x) (show(0:Int)<8 by decide);rw[Int.neg_tmod] at this;omega
 omega
def qC(Q:List Rat):List AV:=Q.map fun q=>.str (aB q)
theorem LD(Q:List Rat):(qC Q).length=Q.length:=by simp[qC]
theorem LC:∀Q:List Rat,AV.ae8 (qC Q)=true
 | []=>rfl
 |q::Q=>by have:=LC Q;simp only[qC] at this;simp[qC,AV.ae8,AV.closed,this]
theorem fM(n:Nat):∀Q:List Rat,AV.afm n (qC Q)=[]
 | []=>rfl
 |q::Q=>by have:=fM n Q;simp only[qC] at this;simp[qC,AV.afm,AV.refs,this]
theorem Tt(f:Nat→Bool):∀Q:List Rat,AV.afa f (qC Q)=true
 | []=>rfl
 |q::Q=>by have:=Tt f Q;simp only[qC] at this;simp[qC,AV.afa,AV.ae6,this]
theorem j9(f:Nat→Option Nat)(Q:List Rat):AV.afp f (qC Q)=qC Q:=aM (LC Q)
theorem Wm{Q:List Rat}(h:Q[i]? =some q):(qC Q)[i]? =some (.str (aB q)):=by simp[qC,h]
structure ahw where
 kind:Nat
 A:Int×Int×Int
 B:Int×Int×Int
 N:Int
 K:Nat×Nat×Nat×Nat
def ahw.cells(d:ahw):List AV:=[.int .u8 d.kind,.int .i8 d.A.1,.int .i8 d.A.2.1,.int .i8 d.A.2.2,.int .i8 d.B.1,.int .i8 d.B.2.1,.int .i8 d.B.2.2,.int .i8 d.N,.int .u8 d.K.1,.int .u8 d.K.2.1,.int .u8 d.K.2.2.1,.int .u8 d.K.2.2.2]
def AD(n:Int):Prop:= -128≤n∧n≤127
def W1(v:Int×Int×Int):Prop:=AD v.1∧AD v.2.1∧AD v.2.2
def XK(v:Nat×Nat×Nat×Nat):Prop:=v.1<256∧v.2.1<256∧v.2.2.1<256∧v.2.2.2<256
structure ahw.Ok (d:ahw):Prop where
 kind:d.kind<256
 A:W1 d.A
 B:W1 d.B
 N:AD d.N
 K:XK d.K
def hQ(z:Int):Rat:=mkRat z 2
theorem mq(z:Int):hQ z=(z:Rat) / 2:=by unfold hQ;rw[Rat.mkRat_eq_div];rfl
theorem VI(a b:Int):hQ a+hQ b=hQ (a+b):=by
 rw[mq,mq,mq,Rat.intCast_add]
 grind
theorem XA{a b:Int}(h:a≤b):hQ a≤hQ b:=by
 rw[mq,mq];have:(a:Rat)≤(b:Rat):=by exact_mod_cast h
 grind
variable{z:Int}
theorem U5(h:z.natAbs<1000):dg 3 1 (hQ z):=sw (by decide) h (by decide)
theorem Ca(h:z.natAbs<1000):(aB (hQ z)).length≤9:=by have Z:=U5 h;have X:big 3 (hQ z):=⟨Z.1,by have:=Z.2;omega⟩;have:=QG (by decide) X;omega
def qH(Z:List Int):List Rat:=Z.map hQ
theorem Am(x:Int)(k:Nat)(hk:0<k): -(k:Int)<x.tmod k∧x.tmod k<k:=by have X:=Int.tmod_lt_of_pos x (show(0:Int)<(k:Int) by omega);have Z:=Int.tmod_lt_of_pos (-x) (show(0:Int)<(k:Int) by omega);rw[Int.neg_tmod] at Z;omega
end Go.Eng
