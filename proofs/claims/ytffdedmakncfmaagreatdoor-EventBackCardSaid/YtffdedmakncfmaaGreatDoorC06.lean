/- See C54. -/
import Derived.Test.YtffdedmakncfmaaGreatDoorC04
import Derived.Lib.Atoi
import Derived.Lib.Strings
import Derived.Lib.Bytealg
import Derived.Lib.IndexLaws
set_option linter.all false
namespace Go.Eng
def T5(k:Nat):UInt8:=UInt8.ofNat (48+k)
def isD(c:UInt8):Bool:=decide (48≤c.toNat)&&decide (c.toNat≤57)
def WU:Nat→Nat→List UInt8→List UInt8
 |0,_,acc=>acc
 |f+1,u,acc=>if u<10 then T5 u::acc else WU f (u / 10) (T5 (u%10)::acc)
def ai(u:Nat):List UInt8:=WU (u.log2+1) u []
theorem Ql:∀(f u:Nat) (acc:List UInt8),u<2 ^ f→0<f→WU f u acc=Lib.decDigits u++acc
 |0,u,acc,_,h=>by omega
 |f+1,u,acc,h,_=>by
  unfold WU;by_cases Z:u<10
  ·rw[if_pos Z,Lib.decDigits,dif_pos Z];rfl
  ·rw[if_neg Z,Lib.decDigits,dif_neg Z]
   have X:0<f:=by
    cases f with
    |zero=>simp at h;omega
    |succ f=>omega
   rw[Ql f (u / 10) _ (by rw[Nat.pow_succ] at h;omega) X];simp[T5]
theorem wj(u:Nat):ai u=Lib.decDigits u:=by unfold ai;rw[Ql _ _ _ Nat.lt_log2_self (by omega)];simp
variable{u:Nat}
theorem gE(h:u<10):ai u=[T5 u]:=by rw[wj,Lib.decDigits,dif_pos h];rfl
theorem tX(h:¬u<10):ai u=ai (u / 10)++[T5 (u%10)]:=by
 have e:Lib.decDigits u=Lib.decDigits (u / 10)++[UInt8.ofNat (48+u%10)]:=by
  conv=>lhs;rw[Lib.decDigits]
  rw[dif_neg h]
 unfold T5;rw[wj u,wj (u / 10),e]
def wI(a:Nat)(l:List UInt8):Nat:=l.foldl (fun a c=>10*a+(c.toNat-48)) a
theorem dD(a:Nat):wI a []=a:=by unfold wI;rw[List.foldl_nil]
theorem eD(a:Nat)(c:UInt8)(r:List UInt8):wI a (c::r)=wI (10*a+(c.toNat-48)) r:=by unfold wI;rw[List.foldl_cons]
def eF(l:List UInt8):Nat:=wI 0 l
theorem wF:∀(l r:List UInt8) (a:Nat),wI a (l++r)=wI (wI a l) r
 | [],_,a=>by rw[List.nil_append,dD]
 |c::l,r,a=>by rw[List.cons_append,eD,eD,wF l r]
theorem pd(l:List UInt8)(c:UInt8):eF (l++[c])=10*eF l+(c.toNat-48):=by unfold eF;rw[wF,eD,dD]
variable{k:Nat}
theorem tN(h:k<10):(T5 k).toNat=48+k:=by unfold T5;simp[UInt8.toNat_ofNat'];omega
theorem PY(h:k<10):isD (T5 k)=true:=by unfold isD;rw[tN h];simp;omega
variable{c:UInt8}
theorem CS(h:isD c=true):T5 (c.toNat-48)=c:=by unfold isD at h;simp only[Bool.and_eq_true,decide_eq_true_eq] at h;unfold T5;apply UInt8.toNat_inj.1;simp[UInt8.toNat_ofNat'];omega
theorem uC(h:isD c=true):c.toNat-48<10:=by unfold isD at h;simp only[Bool.and_eq_true,decide_eq_true_eq] at h;omega
theorem xA{p:Nat→Prop}(h0:∀u,u<10→p u)(h1:∀u,¬u<10→p (u / 10)→p u)(u:Nat):p u:=by
 induction u using Nat.strongRecOn with
 |_ u ih=>
  by_cases h:u<10
  ·exact h0 u h
  ·exact h1 u h (ih (u / 10) (by omega))
theorem dz(u:Nat):eF (ai u)=u:=by
 induction u using xA with
 |h0 u h=>
  rw[gE h];unfold eF;rw[eD,dD,tN h];omega
 |h1 u h ih=>rw[tX h,pd,ih,tN (by omega)];omega
theorem du(u:Nat):(ai u).all isD=true:=by
 induction u using xA with
 |h0 u h=>rw[gE h];simp[PY h]
 |h1 u h ih=>rw[tX h,List.all_append,ih];simp[PY (show u%10<10 by omega)]
theorem jG(u:Nat):ai u≠[]:=by
 induction u using xA with
 |h0 u h=>rw[gE h];simp
 |h1 u h ih=>rw[tX h];simp
theorem qz(u:Nat):0<(ai u).length:=List.length_pos_iff.2 (jG u)
theorem Dv(u:Nat)(y:0<u):(ai u).head? ≠some 48:=by
 induction u using xA with
 |h0 u h=>
  rw[gE h];simp only[List.head?_cons,ne_eq,Option.some.injEq];intro e;have:=congrArg UInt8.toNat e;rw[tN h] at this;simp at this;omega
 |h1 u h ih=>
  rw[tX h,List.head?_append];have:=ih (by omega);cases hh:(ai (u / 10)).head? with
  |none=>exact absurd (List.head?_eq_none_iff.1 hh) (jG _)
  |some x=>rw[hh] at this;simpa using this
theorem jH:ai 0=[48]:=by rw[gE (by omega)];rfl
def jw(l:List UInt8):Bool:=match l with
 | []=>false
 |c::r=>isD c&&r.all isD&&(!(c==48)||r.isEmpty)
theorem OU(u:Nat):jw (ai u)=true:=by
 have Z:=du u;have X:=jG u;by_cases V:u=0
 ·subst V;rw[jH];rfl
 ·have h3:=Dv u (by omega)
  cases hl:ai u with
  |nil=>exact absurd hl X
  |cons c r=>
   rw[hl] at Z h3;simp only[List.all_cons,Bool.and_eq_true] at Z;simp only[List.head?_cons,ne_eq,Option.some.injEq] at h3;simp[jw,Z.1,Z.2,h3]
variable{l:List UInt8}
theorem OT(y:l≠[])(h:jw (l++[c])=true):jw l=true∧isD c=true∧l≠[48]:=by
 cases l with
 |nil=>exact absurd rfl y
 |cons x r=>
  simp only[List.cons_append,jw,List.all_append,List.all_cons,List.all_nil,Bool.and_true,Bool.and_eq_true] at h;obtain⟨⟨V,U,h3⟩,Z⟩:=h;have X:(x==48)=false:=by
   cases hx:x==48 with
   |false=>rfl
   |true=>rw[hx] at Z;simp at Z
  refine⟨by simp[jw,V,U,X],h3,?_⟩;intro e;cases e;simp at X
theorem Yq{p:List UInt8→Prop}(h0:p [])(h1:∀l c,p l→p (l++[c]))(l:List UInt8):p l:=by
 have:∀n (l:List UInt8),l.length=n→p l:=by
  intro n;induction n with
  |zero=>intro l Z;rw[List.eq_nil_of_length_eq_zero Z];exact h0
  |succ n ih=>
   intro l Z;have X:l≠[]:=by intro e;rw[e] at Z;simp at Z
   rw[←List.dropLast_concat_getLast X];exact h1 _ _ (ih _ (by simp[Z]))
 exact this _ l rfl
theorem xC(h:jw l=true):ai (eF l)=l:=by
 induction l using Yq with
 |h0=>cases h
 |h1 l c ih=>
  by_cases X:l=[]
  ·subst X
   simp only[List.nil_append,jw,List.all_nil,Bool.and_true,List.isEmpty_nil,Bool.or_true] at h;unfold eF;rw[List.nil_append,eD,dD,Nat.mul_zero,Nat.zero_add,gE (uC h),CS h]
  ·obtain⟨h1,V,h3⟩:=OT X h
   have Z:=ih h1;have U:eF l≠0:=by intro e;rw[e,jH] at Z;exact h3 Z.symm
   have S:=uC V;rw[pd,tX (by omega),show(10*eF l+(c.toNat-48)) / 10=eF l by omega,show(10*eF l+(c.toNat-48))%10=c.toNat-48 by omega,Z,CS V]
def xX(l:List UInt8):Option Nat:=if jw l then some (eF l) else none
theorem bk(u:Nat):xX (ai u)=some u:=by unfold xX;rw[if_pos (OU u),dz]
theorem gw(h:xX l=some u):l=ai u:=by
 unfold xX at h;split at h
 next Z=>cases h;exact(xC Z).symm
 ·cases h
variable{v:Nat}
theorem Bs(h:ai u=ai v):u=v:=by rw[←dz u,h,dz]
theorem DB(u:Nat)(y:0<u):10 ^ ((ai u).length-1)≤u:=by
 induction u using xA with
 |h0 u h=>rw[gE h];simp;omega
 |h1 u h ih=>
  rw[tX h];have:=ih (by omega);have Z:=qz (u / 10);simp only[List.length_append,List.length_singleton,Nat.add_sub_cancel];have e:10 ^ (ai (u / 10)).length=10 ^ ((ai (u / 10)).length-1)*10:=by rw[←Nat.pow_succ];congr 1;omega
  rw[e];omega
theorem bZ(u:Nat):u<10 ^ (ai u).length:=by rw[wj,Lib.decDigits_length];exact Lib.lt_pow_nDigits u
theorem aI(hk:0<k)(h:u<10 ^ k):(ai u).length≤k:=by
 by_cases Z:u=0
 ·subst Z;rw[jH];exact hk
 ·have V:=DB u (by omega)
  have X:10 ^ ((ai u).length-1)<10 ^ k:=by omega
  have:=(Nat.pow_lt_pow_iff_right (by omega:1<10)).1 X;omega
def bB(n:Int):List UInt8:=match n with
 |.ofNat u=>ai u
 |.negSucc u=>45::ai (u+1)
theorem Ur(n:Int):bB n=Lib.itoa n:=by
 unfold Lib.itoa;cases n with
 |ofNat u=>rw[if_neg (by simp)];simp[bB,wj]
 |negSucc u=>rw[if_pos (Int.negSucc_lt_zero u)];simp[bB,wj]
def jP(l:List UInt8):Option Int:=match l with
 |45::r=>match xX r with
  |some (u+1)=>some (.negSucc u)
  |_=>none
 |l=>match xX l with
  |some u=>some (.ofNat u)
  |none=>none
theorem qw(u:Nat):(ai u).head? ≠some 45:=by
 cases hl:ai u with
 |nil=>simp
 |cons c r=>
  have:=du u;rw[hl] at this;simp only[List.all_cons,Bool.and_eq_true] at this;simp only[List.head?_cons,ne_eq,Option.some.injEq];rintro rfl;exact absurd this.1 (by decide)
theorem aB(n:Int):jP (bB n)=some n:=by
 cases n with
 |ofNat u=>
  have h:=qw u;simp only[bB];unfold jP;split
  ·rename_i r Z
   rw[Z] at h;simp at h
  ·rw[bk]
 |negSucc u=>simp[bB,jP,bk]
theorem bS{n:Int}(h:jP l=some n):l=bB n:=by
 unfold jP at h;split at h
 ·split at h
  ·rename_i Z
   cases h;simp[bB,gw Z]
  ·cases h
 ·split at h
  ·rename_i Z
   cases h;simp[bB,gw Z]
  ·cases h
theorem WL{m n:Int}(h:bB m=bB n):m=n:=by have:=aB m;rw[h,aB] at this;exact(Option.some.inj this).symm
theorem aJ(n:Int):Lib.hasPrefix (bB n) [45]=decide (n<0):=by
 cases n with
 |ofNat u=>
  have h:=qw u;simp only[bB];cases hl:ai u with
  |nil=>exact absurd hl (jG u)
  |cons c r=>
   rw[hl] at h;simp only[List.head?_cons,ne_eq,Option.some.injEq] at h;rw[show decide (Int.ofNat u<0)=false by simp];have Z :¬(45:UInt8)=c:=fun e=>h e.symm
   simp[Lib.hasPrefix,List.isPrefixOf,Z]
 |negSucc u=>simp[bB,Lib.hasPrefix,List.isPrefixOf,Int.negSucc_lt_zero]
theorem aD(n:Int):Lib.trimPrefix (bB n) [45]=ai n.natAbs:=by
 unfold Lib.trimPrefix;rw[aJ];cases n with
 |ofNat u=>
  rw[show decide (Int.ofNat u<0)=false by simp];rfl
 |negSucc u=>simp[bB,Int.negSucc_lt_zero,Int.natAbs]
theorem LX(h:isD c=true):Lib.digitVal c=some (c.toNat-48):=by unfold isD at h;simp only[Bool.and_eq_true,decide_eq_true_eq] at h;unfold Lib.digitVal;rw[if_pos h]
theorem zG:∀(l:List UInt8) (a:Nat),l.all isD=true→Lib.decFrom a l=some (wI a l)
 | [],a,_=>by rw[dD];rfl
 |c::r,a,h=>by simp only[List.all_cons,Bool.and_eq_true] at h;unfold Lib.decFrom;rw[LX h.1,eD];simp only;rw[zG r _ h.2,Nat.mul_comm]
theorem CQ(u:Nat):Lib.decNat (ai u)=some u:=by
 unfold Lib.decNat
 have h:(ai u).isEmpty=false:=by
  cases hl:ai u with
  |nil=>exact absurd hl (jG u)
  |cons=>rfl
 rw[h];simp only[Bool.false_eq_true,if_false];rw[zG _ _ (du u)];exact congrArg some (dz u)
theorem oC(n:Int):Lib.atoi (bB n)=some n:=by
 cases n with
 |ofNat u=>
  have Z:=qw u;have X:=du u;have h3:=CQ u;simp only[bB];cases hl:ai u with
  |nil=>exact absurd hl (jG u)
  |cons c r=>
   rw[hl] at Z X h3;simp only[List.head?_cons,ne_eq,Option.some.injEq] at Z;simp only[List.all_cons,Bool.and_eq_true] at X;have V:¬c=43:=by rintro rfl;exact absurd X.1 (by decide)
   simp[Lib.atoi,Z,V,h3]
 |negSucc u=>
  simp[bB,Lib.atoi,CQ,Int.negSucc_eq]
theorem oW(h:(ai u).length<(ai v).length):u<v:=by
 have X:=bZ u;have Z:0<v:=by
  by_cases Z:v=0
  ·subst Z
   rw[jH] at h;have:=qz u;simp only[List.length_singleton] at h;omega
  ·omega
 have V:=DB v Z;have h3:10 ^ (ai u).length≤10 ^ ((ai v).length-1):=Nat.pow_le_pow_right (by omega) (by omega);exact Nat.lt_of_lt_of_le X (Nat.le_trans h3 V)
def kq(u v:Nat):Int:=if u<v then -1 else if v<u then 1 else 0
theorem wG:∀(l:List UInt8) (a:Nat),l.all isD=true→wI a l<(a+1)*10 ^ l.length
 | [],a,_=>by rw[dD];simp
 |c::r,a,h=>by simp only[List.all_cons,Bool.and_eq_true] at h;have Z:=uC h.1;have:=wG r (10*a+(c.toNat-48)) h.2;rw[eD];refine Nat.lt_of_lt_of_le this ?_;rw[List.length_cons,Nat.pow_succ,Nat.mul_comm (10 ^ r.length) 10,←Nat.mul_assoc];exact Nat.mul_le_mul_right _ (by omega)
theorem Uz:∀(l:List UInt8) (a:Nat),a*10 ^ l.length≤wI a l
 | [],a=>by rw[dD];simp
 |c::r,a=>by have:=Uz r (10*a+(c.toNat-48));rw[eD];refine Nat.le_trans ?_ this;rw[List.length_cons,Nat.pow_succ,Nat.mul_comm (10 ^ r.length) 10,←Nat.mul_assoc];exact Nat.mul_le_mul_right _ (by omega)
theorem oG:∀(l r:List UInt8) (a:Nat),l.length=r.length→l.all isD=true→r.all isD=true→Lib.compareBytes l r=kq (wI a l) (wI a r)
 | [],[],a,_,_,_=>by
  rw[dD];show(0:Int)=kq a a
  unfold kq;rw[if_neg (by omega),if_neg (by omega)]
 | [],_::_,_,h,_,_=>by simp at h
 |_::_,[],_,h,_,_=>by simp at h
 |c::l,d::r,a,h,h1,h2=>by
  simp only[List.length_cons,Nat.add_right_cancel_iff] at h;simp only[List.all_cons,Bool.and_eq_true] at h1 h2;have V:∀{x y:UInt8}{l r:List UInt8},isD x=true→isD y=true→l.all isD=true→l.length=r.length→x<y→wI (10*a+(x.toNat-48)) l<wI (10*a+(y.toNat-48)) r:=by intro x y l r R Q O U S;have N:=wG l (10*a+(x.toNat-48)) O;have G:=Uz r (10*a+(y.toNat-48));have M :x.toNat<y.toNat:=S;unfold isD at R Q;simp only[Bool.and_eq_true,decide_eq_true_eq] at R Q;rw[U] at N;have:(10*a+(x.toNat-48)+1)*10 ^ r.length≤(10*a+(y.toNat-48))*10 ^ r.length:=Nat.mul_le_mul_right _ (by omega);omega
  unfold Lib.compareBytes;rw[eD,eD];by_cases Z:c<d
  ·rw[if_pos Z]
   have:=V h1.1 h2.1 h1.2 h Z;unfold kq;rw[if_pos this]
  ·rw[if_neg Z]
   by_cases X:d<c
   ·rw[if_pos X]
    have:=V h2.1 h1.1 h2.2 h.symm X;unfold kq;rw[if_neg (by omega),if_pos this]
   ·rw[if_neg X]
    have L:¬c.toNat<d.toNat:=Z;have K:¬d.toNat<c.toNat:=X;have e:c.toNat=d.toNat:=by omega
    rw[e];exact oG l r _ h h1.2 h2.2
theorem yO(h:(ai u).length=(ai v).length):Lib.compareBytes (ai u) (ai v)=kq u v:=by
 have:=oG (ai u) (ai v) 0 h (du u) (du v);rw[this];show kq (eF (ai u)) (eF (ai v))=_
 rw[dz,dz]
def kf(n:Int):Int:=if n<0 then -1 else if n=0 then 0 else 1
def M6(m n:Int):Int:=if m<n then -1 else if n<m then 1 else 0
theorem Ut(n:Int):bB n=[48]↔n=0:=by
 constructor
 ·intro h;exact WL (h.trans (by rfl))
 ·rintro rfl;rfl
theorem gi(n:Int):(bB n==[48])=decide (n=0):=by rw[Bool.eq_iff_iff];simp[Ut]
theorem sK(n:Int):0<(bB n).length:=by
 cases n with
 |ofNat u=>exact qz u
 |negSucc u=>simp[bB]
theorem kK{n:Int}(h:0<n):bB (-n)=45::bB n:=by
 cases n with
 |ofNat u=>
  cases u with
  |zero=>simp at h
  |succ u=>rfl
 |negSucc u=>exact absurd h (by have:=Int.negSucc_lt_zero u;omega)
theorem Hy{n:Int}(h:n<0):(bB n).drop 1=bB (-n):=by have:=kK (n:= -n) (by omega);rw[Int.neg_neg] at this;rw[this];rfl
theorem gj{n:Int}(h:0≤n):bB n=ai n.natAbs:=by
 cases n with
 |ofNat u=>rfl
 |negSucc u=>exact absurd h (by have:=Int.negSucc_lt_zero u;omega)
theorem XL(a b:Int):M6 a b=if kf a≠kf b then (if kf a<kf b then -1 else 1) else
  if (ai a.natAbs).length≠(ai b.natAbs).length then (if (ai a.natAbs).length<(ai b.natAbs).length then-kf a else kf a) else kf a*kq a.natAbs b.natAbs:=by
 by_cases Z:kf a≠kf b
 ·rw[if_pos Z]
  unfold kf at Z ⊢;unfold M6
  repeat' split
  all_goals first | rfl | omega
 ·rw[if_neg Z]
  by_cases V:(ai a.natAbs).length≠(ai b.natAbs).length
  ·rw[if_pos V]
   by_cases X:(ai a.natAbs).length<(ai b.natAbs).length
   ·rw[if_pos X]
    have:=oW X;unfold kf at Z ⊢;unfold M6
    repeat' split
    all_goals first | rfl | omega
   ·rw[if_neg X]
    have:=oW (u:=b.natAbs) (v:=a.natAbs) (by omega);unfold kf at Z ⊢;unfold M6
    repeat' split
    all_goals first | rfl | omega
  ·rw[if_neg V]
   unfold kf at Z ⊢;unfold M6 kq
   repeat' split
   all_goals first | rfl | omega
def ax(q:Rat):List UInt8:=if q.den=1 then bB q.num else bB q.num++47::ai q.den
theorem xB(u:Nat):(47:UInt8)∉ai u:=by intro h;have:=List.all_eq_true.1 (du u) _ h;exact absurd this (by decide)
theorem iv(n:Int):(47:UInt8)∉bB n:=by
 cases n with
 |ofNat u=>exact xB u
 |negSucc u=>
  simp only[bB,List.mem_cons,not_or];exact⟨by decide,xB _⟩
theorem oL:∀(l:List UInt8) (c:UInt8),c∉l→Lib.indexByte l c= -1
 | [],_,_=>rfl
 |b::l,c,h=>by simp only[List.mem_cons,not_or] at h;unfold Lib.indexByte;rw[if_neg (by simpa using fun e=>h.1 e.symm),oL l c h.2];rfl
theorem zJ:∀(l r:List UInt8) (c:UInt8),c∉l→Lib.indexByte (l++c::r) c=l.length
 | [],r,c,_=>by simp[Lib.indexByte]
 |b::l,r,c,h=>by
  simp only[List.mem_cons,not_or] at h;rw[List.cons_append];unfold Lib.indexByte;rw[if_neg (by simpa using fun e=>h.1 e.symm),zJ l r c h.2];have Z:¬(((l.length:Int)== -1)=true):=by rw[beq_iff_eq];omega
  rw[if_neg Z];rfl
theorem EU(q:Rat):Lib.indexByte (ax q) 47=if q.den=1 then -1 else ((bB q.num).length:Int):=by
 unfold ax;split
 ·exact oL _ _ (iv _)
 ·exact zJ _ _ _ (iv _)
def SE(n:Int)(d:Nat):Option Rat:=if h:1<d∧n.natAbs.gcd d=1 then some ⟨n,d,by omega,h.2⟩ else none
def dY(l:List UInt8):Option Rat:=match l.idxOf? 47 with
 |none=>match jP l with
  |some n=>some ⟨n,1,by decide,Nat.gcd_one_right _⟩
  |none=>none
 |some i=>match jP (l.take i),xX (l.drop (i+1)) with
  |some n,some d=>SE n d
  |_,_=>none
theorem Fy(h:c∉l):l.idxOf? c=none:=List.idxOf?_eq_none_iff.2 h
theorem P9{r:List UInt8}(h:c∉l):(l++c::r).idxOf? c=some l.length:=by rw[List.idxOf?_eq_some_iff];refine⟨by simp,by simp,fun j Z=>?_⟩;rw[List.getElem_append_left Z];intro e;exact h (e▸List.getElem_mem Z)
theorem ay(q:Rat):dY (ax q)=some q:=by
 unfold dY ax;by_cases h:q.den=1
 ·rw[if_pos h,Fy (iv _)]
  simp only[aB];congr 1;apply Rat.ext
  ·rfl
  ·exact h.symm
 ·have Z:List.drop ((bB q.num).length+1) (bB q.num++47::ai q.den)=ai q.den:=by rw[List.drop_append];simp
  have X:List.take (bB q.num).length (bB q.num++47::ai q.den)=bB q.num:=List.take_left' rfl;have V:1<q.den:=by have:=q.den_nz;omega
  have U:q.num.natAbs.gcd q.den=1:=q.reduced;rw[if_neg h,P9 (iv _)];simp only;rw[Z,X,aB,bk];simp only[SE];rw[dif_pos ⟨V,U⟩]
variable{q:Rat}
theorem az(h:dY l=some q):l=ax q:=by
 unfold dY at h;split at h
 ·split at h
  ·rename_i n Z
   cases h;unfold ax;rw[if_pos rfl];exact bS Z
  ·cases h
 ·rename_i i V
  split at h
  ·rename_i n d Z U
   unfold SE at h;split at h
   ·rename_i R
    cases h;unfold ax;rw[if_neg (by show¬d=1;omega)];obtain⟨S,X,_⟩:=List.idxOf?_eq_some_iff.1 V;show l=bB n++47::ai d
    rw[←bS Z,←gw U];have:l.drop i=47::l.drop (i+1):=by rw[List.drop_eq_getElem_cons S,X]
    rw[←this,List.take_append_drop]
   ·cases h
  ·cases h
theorem iS{p:Rat}(h:ax p=ax q):p=q:=by have:=ay p;rw[h,ay] at this;exact(Option.some.inj this).symm
theorem DF(q:Rat):ax q=[48]↔q=0:=by
 constructor
 ·intro h;exact iS (h.trans (by rfl))
 ·rintro rfl;rfl
theorem aY(q:Rat):(ax q==[48])=decide (q=0):=by rw[Bool.eq_iff_iff];simp[DF]
theorem neg_num(q:Rat):(-q).num= -q.num:=rfl
theorem neg_den(q:Rat):(-q).den=q.den:=rfl
theorem nq(h:0<q.num):ax (-q)=45::ax q:=by unfold ax;rw[neg_num,neg_den,kK h];split<;>rfl
theorem jd(h:q.num<0):ax q=45::ax (-q):=by
 have:=nq (q:= -q) (by rw[neg_num];omega)
 rwa [Rat.neg_neg] at this
theorem ni:q.num=0↔q=0:=by
 constructor
 ·intro h
  apply Rat.ext
  ·exact h
  ·have:=q.reduced
   rw[h] at this;simpa [Nat.Coprime] using this
 ·rintro rfl;rfl
theorem kP(h:0≤q.num):∃c r,ax q=c::r∧isD c=true:=by
 have X:∃c r,bB q.num=c::r∧isD c=true:=by
  rw[gj h];have:=du q.num.natAbs;cases hl:ai q.num.natAbs with
  |nil=>exact absurd hl (jG _)
  |cons c r=>
   rw[hl] at this;simp only[List.all_cons,Bool.and_eq_true] at this;exact⟨c,r,rfl,this.1⟩
 obtain⟨c,r,e,Z⟩:=X;unfold ax;split
 ·exact⟨c,r,e,Z⟩
 ·exact⟨c,r++47::ai q.den,by rw[e];rfl,Z⟩
theorem eP(h:isD c=true):¬((c.toNat:Int)=45):=by unfold isD at h;simp only[Bool.and_eq_true,decide_eq_true_eq] at h;omega
def fL(q:Rat):Int:=kf q.num
def big(k:Nat)(q:Rat):Prop:=q.num.natAbs<10 ^ k∧q.den<10 ^ k
variable{m:Nat}
theorem big.mono(h:big k q)(y:k≤m):big m q:=by have:10 ^ k≤10 ^ m:=Nat.pow_le_pow_right (by omega) y;exact⟨by have:=h.1;omega,by have:=h.2;omega⟩
variable{d:Nat}
theorem HC(n:Int)(hd:d≠0):(mkRat n d).num.natAbs≤n.natAbs∧(mkRat n d).den≤d:=by rw[Rat.num_mkRat,Rat.den_mkRat,if_neg hd,if_neg hd];refine⟨?_,Nat.div_le_self _ _⟩;exact Int.natAbs_ediv_le_natAbs _ _
theorem LN{n:Int}(hd:d≠0)(h1:n.natAbs<10 ^ k)(h2:d<10 ^ k):big k (mkRat n d):=by have:=HC n hd;exact⟨by omega,by omega⟩
theorem lx{a b:Nat}(h1:a<10 ^ k)(h2:b<10 ^ k):a*b<10 ^ (2*k):=by
 have:a*b<10 ^ k*10 ^ k:=Nat.mul_lt_mul'' h1 h2
 rwa [←Nat.pow_add,show k+k=2*k by omega] at this
variable{a b:Rat}
section
variable (ha:big k a)
include ha
theorem Hh(y:big k b):big (2*k) (a*b):=by rw[Rat.mul_def'];refine LN (Nat.mul_ne_zero a.den_nz b.den_nz) ?_ (lx ha.2 y.2);rw[Int.natAbs_mul];exact lx ha.1 y.1
theorem XH(y:big k b):big (2*k+1) (a+b):=by rw[Rat.add_def'];have X:=lx ha.2 y.2;have h3:10 ^ (2*k+1)=10 ^ (2*k)*10:=Nat.pow_succ ..;refine LN (Nat.mul_ne_zero a.den_nz b.den_nz) ?_ (by omega);have V:=lx ha.1 y.2;have U:=lx y.1 ha.2;have Z:=Int.natAbs_add_le (a.num*b.den) (b.num*a.den);rw[Int.natAbs_mul,Int.natAbs_mul,Int.natAbs_natCast,Int.natAbs_natCast] at Z;omega
theorem XJ:big k (-a):=by refine⟨?_,ha.2⟩;rw[Rat.neg_num,Int.natAbs_neg];exact ha.1
theorem sB(y:big k b):big (2*k+1) (a-b):=by rw[Rat.sub_eq_add_neg];exact XH ha (XJ y)
theorem XI:big k a⁻¹:=by
 have V:0<10 ^ k:=Nat.pow_pos (by omega);refine⟨?_,?_⟩
 ·rw[Rat.num_inv,Int.natAbs_mul,Int.natAbs_natCast]
  have:=ha.2;have X:a.num.sign.natAbs≤1:=by
   rcases Int.lt_trichotomy a.num 0 with h | h | h
   ·rw[Int.sign_eq_neg_one_of_neg h];decide
   ·rw[h];decide
   ·rw[Int.sign_eq_one_of_pos h];decide
  have:a.num.sign.natAbs*a.den≤1*a.den:=Nat.mul_le_mul_right _ X;omega
 ·rw[Rat.den_inv]
  have:=ha.1;by_cases Z:a.num=0
  ·rw[if_pos Z]
   have U:=ha.2;have:=a.den_nz;omega
  ·rw[if_neg Z];omega
theorem OS(y:big k b):big (2*k) (a / b):=by rw[Rat.div_def];exact Hh ha (XI y)
end
theorem Wv(hk:0<k):big k 0:=by have Z:10 ^ 1≤10 ^ k:=Nat.pow_le_pow_right (by omega) hk;exact⟨by show(0:Nat)<10 ^ k;omega,by show(1:Nat)<10 ^ k;omega⟩
variable{n:Nat}
theorem jF(hk:0<k)(h:n<10 ^ k):(ai n).length≤k:=aI hk h
theorem cR(n:Int):(bB n).length≤(ai n.natAbs).length+1:=by
 cases n with
 |ofNat u=>simp[bB]
 |negSucc u=>simp[bB]
theorem R8(hk:0<k)(h:big k q):(ax q).length≤2*k+2:=by
 have Z:=aI hk h.1;have X:=aI hk h.2;have h3:=cR q.num;unfold ax;split
 ·omega
 ·simp only[List.length_append,List.length_cons];omega
theorem Hj(h:(ax q).length≤k):big k q:=by
 have V:=bZ q.num.natAbs;have U:=bZ q.den;have h3:(ai q.num.natAbs).length≤(bB q.num).length:=by
  cases q.num with
  |ofNat u=>exact Nat.le_refl _
  |negSucc u=>simp[bB]
 have S:=sK q.num;have Z:(ai q.num.natAbs).length≤k∧(ai q.den).length≤k:=by
  unfold ax at h;split at h
  ·rename_i X
   refine⟨by omega,?_⟩;rw[X];show 1≤k
   omega
  ·simp only[List.length_append,List.length_cons] at h
   omega
 have R:10 ^ (ai q.num.natAbs).length≤10 ^ k:=Nat.pow_le_pow_right (by omega) Z.1;have Q:10 ^ (ai q.den).length≤10 ^ k:=Nat.pow_le_pow_right (by omega) Z.2;exact⟨by omega,by omega⟩
def asc:List (Rat×Rat)→Prop
 |a::b::l=>a.1<b.1∧asc (b::l)
 |_=>True
def ei(l:List (Rat×Rat))(u:Rat):Nat:=match l with
 | []=>0
 |k::r=>(if k.1≤u then 1 else 0)+ei r u
def DQ(a b:Rat×Rat):Rat:=(b.2-a.2) / (b.1-a.1)
def nZ(l:List (Rat×Rat))(n:Nat):Rat×Rat:=
 if l=[] then (0,0) else if n=0 then ((l.getD 0 (0,0)).2,0) else if n=l.length then ((l.getD (n-1) (0,0)).2,0) else
  ((l.getD (n-1) (0,0)).2-DQ (l.getD (n-1) (0,0)) (l.getD n (0,0))*(l.getD (n-1) (0,0)).1,DQ (l.getD (n-1) (0,0)) (l.getD n (0,0)))
def jS(l:List (Rat×Rat))(u:Rat):Rat:=(nZ l (ei l u)).1+(nZ l (ei l u)).2*u
def Vu(u:Rat):Rat×Rat→List (Rat×Rat)→Rat
 |a,[]=>a.2
 |a,b::l=>if u≤b.1 then a.2+(u-a.1) / (b.1-a.1)*(b.2-a.2) else Vu u b l
def Qe(u:Rat):List (Rat×Rat)→Rat
 | []=>0
 |a::l=>if u≤a.1 then a.2 else Vu u a l
theorem Bg{a:Rat×Rat}{l:List (Rat×Rat)}(h:asc (a::l)):asc l:=by
 cases l with
 |nil=>trivial
 |cons b l=>exact h.2
theorem FM(l:List (Rat×Rat))(u:Rat):ei l u≤l.length:=by
 induction l with
 |nil=>exact Nat.le_refl _
 |cons k r ih=>simp only[ei,List.length_cons];split<;>omega
theorem zU{l:List (Rat×Rat)}{u:Rat}(h:asc l)(h0:∀a∈l.head?,u<a.1):ei l u=0:=by
 induction l with
 |nil=>rfl
 |cons k r ih=>
  have X:u<k.1:=h0 k (by simp);have:¬k.1≤u:=Rat.not_le.2 X;simp only[ei,if_neg this];rw[ih (Bg h) ?_];intro a Z;cases r with
  |nil=>simp at Z
  |cons b r=>
   simp at Z;subst Z;have:=h.1
   grind
theorem Su{a:Rat×Rat}{l:List (Rat×Rat)}(y:l≠[])(H:n≠0):nZ (a::l) (n+1)=nZ l n:=by
 obtain⟨m,rfl⟩:∃m,n=m+1:=⟨n-1,by omega⟩
 unfold nZ;simp[y]
theorem DV{a b:Rat×Rat}{l:List (Rat×Rat)}{u:Rat}(h:asc (a::b::l))(y:b.1≤u):jS (a::b::l) u=jS (b::l) u:=by
 have Z:a.1≤u:=by have:=h.1;grind
 have e:ei (a::b::l) u=ei (b::l) u+1:=by rw[ei,if_pos Z,Nat.add_comm]
 have X:ei (b::l) u≠0:=by rw[ei,if_pos y];omega
 unfold jS;rw[e,Su (by simp) X]
theorem Ab{a b:Rat×Rat}{l:List (Rat×Rat)}{u:Rat}(h:asc (a::b::l))(y:a.1≤u)(H:u<b.1):jS (a::b::l) u=a.2+(u-a.1) / (b.1-a.1)*(b.2-a.2):=by
 have e:ei (a::b::l) u=1:=by rw[ei,if_pos y,zU (Bg h) (by simpa using H)]
 have X:b.1-a.1≠0:=by have:=h.1;grind
 unfold jS;rw[e];have Z:nZ (a::b::l) 1=(a.2-DQ a b*a.1,DQ a b):=by simp[nZ]
 rw[Z];simp only[DQ,Rat.div_def]
 grind
theorem DW{a:Rat×Rat}{u:Rat}(y:a.1≤u):jS [a] u=a.2:=by
 have e:ei [a] u=1:=by simp[ei,y]
 unfold jS;rw[e];simp[nZ,Rat.add_zero]
theorem M1{a:Rat×Rat}{l:List (Rat×Rat)}(h:asc (a::l)):jS (a::l) a.1=a.2:=by
 cases l with
 |nil=>exact DW (by grind)
 |cons b l=>
  rw[Ab h (by grind) h.1];have:(a.1-a.1) / (b.1-a.1)*(b.2-a.2)=0:=by rw[Rat.sub_self,Rat.div_def,Rat.zero_mul,Rat.zero_mul]
  rw[this,Rat.add_zero]
theorem DX{u:Rat}:∀{a:Rat×Rat} {l:List (Rat×Rat)},asc (a::l)→a.1<u→jS (a::l) u=Vu u a l
 |a,[],_,ha=>DW (by grind)
 |a,b::l,h,ha=>by
  unfold Vu;by_cases Z:u≤b.1
  ·rw[if_pos Z]
   by_cases X:u=b.1
   ·rw[DV h (by grind),X,M1 (Bg h)]
    have V:b.1-a.1≠0:=by have:=h.1;grind
    have:(b.1-a.1) / (b.1-a.1)=1:=by rw[Rat.div_def,Rat.mul_inv_cancel _ V]
    rw[this]
    grind
   ·exact Ab h (by grind) (by grind)
  ·rw[if_neg Z,DV h (by grind)]
   exact DX (Bg h) (by grind)
theorem SX{u:Rat}{l:List (Rat×Rat)}(h:asc l):jS l u=Qe u l:=by
 cases l with
 |nil=>simp[jS,nZ,Qe,Rat.add_zero]
 |cons a l=>
  show _=if u≤a.1 then a.2 else Vu u a l
  by_cases Z:u≤a.1
  ·rw[if_pos Z]
   by_cases X:u=a.1
   ·rw[X];exact M1 h
   ·have e:ei (a::l) u=0:=zU h (by simp;grind)
    unfold jS;rw[e];simp[nZ,Rat.add_zero]
  ·rw[if_neg Z]
   exact DX h (by grind)
variable{x:Int}
theorem fD{y:Int}{a b:Nat}(h1:x.natAbs<a)(h2:y.natAbs<b):(x*y).natAbs<a*b:=by rw[Int.natAbs_mul];exact Nat.mul_lt_mul'' h1 h2
def dg(n d:Nat)(q:Rat):Prop:=q.num.natAbs<10 ^ n∧q.den<10 ^ d
variable{d' n' :Nat}
theorem dg.mono(h:dg n d q)(y:n≤n')(hd:d≤d'):dg n' d' q:=by have Z:10 ^ n≤10 ^ n' :=Nat.pow_le_pow_right (by omega) y;have X:10 ^ d≤10 ^ d' :=Nat.pow_le_pow_right (by omega) hd;exact⟨by have:=h.1;omega,by have:=h.2;omega⟩
theorem mZ{y:Nat}(H:y≠0)(h1:x.natAbs<10 ^ n)(h2:y<10 ^ d):dg n d (mkRat x y):=by have:=HC x H;exact⟨by omega,by omega⟩
theorem oU{a b:Nat}(h1:a<10 ^ k)(h2:b<10 ^ m):a*b<10 ^ (k+m):=by rw[Nat.pow_add];exact Nat.mul_lt_mul'' h1 h2
section
variable (ha:dg n d a)
include ha
theorem cV(y:dg n' d' b):dg (n+n') (d+d') (a*b):=by rw[Rat.mul_def'];refine mZ (Nat.mul_ne_zero a.den_nz b.den_nz) ?_ (oU ha.2 y.2);rw[Int.natAbs_mul];exact oU ha.1 y.1
theorem kV(y:dg n' d' b)(h1:n+d' ≤m)(h2:n' +d≤m):dg (m+1) (d+d') (a+b):=by rw[Rat.add_def'];refine mZ (Nat.mul_ne_zero a.den_nz b.den_nz) ?_ (oU ha.2 y.2);have X:=oU ha.1 y.2;have V:=oU y.1 ha.2;have Z:=Int.natAbs_add_le (a.num*b.den) (b.num*a.den);rw[Int.natAbs_mul,Int.natAbs_mul,Int.natAbs_natCast,Int.natAbs_natCast] at Z;have U:10 ^ (n+d')≤10 ^ m:=Nat.pow_le_pow_right (by omega) h1;have S:10 ^ (n' +d)≤10 ^ m:=Nat.pow_le_pow_right (by omega) h2;have R:10 ^ (m+1)=10 ^ m*10:=Nat.pow_succ ..;omega
theorem xo:dg n d (-a):=by refine⟨?_,ha.2⟩;rw[Rat.neg_num,Int.natAbs_neg];exact ha.1
theorem Fq(y:dg n' d' b)(h1:n+d' ≤m)(h2:n' +d≤m):dg (m+1) (d+d') (a-b):=by rw[Rat.sub_eq_add_neg];exact kV ha (xo y) h1 h2
theorem YM(h0:a≠0):dg d n a⁻¹:=by
 have Z:a.num≠0:=fun h=>h0 (Rat.num_eq_zero.1 h)
 refine⟨?_,?_⟩
 ·rw[Rat.num_inv,Int.natAbs_mul,Int.natAbs_natCast]
  have:=ha.2;have X:a.num.sign.natAbs≤1:=by
   rcases Int.lt_trichotomy a.num 0 with h | h | h
   ·rw[Int.sign_eq_neg_one_of_neg h];decide
   ·rw[h];decide
   ·rw[Int.sign_eq_one_of_pos h];decide
  have:a.num.sign.natAbs*a.den≤1*a.den:=Nat.mul_le_mul_right _ X;omega
 ·rw[Rat.den_inv,if_neg Z]
  exact ha.1
theorem YL(y:dg n' d' b)(h0:b≠0):dg (n+d') (d+n') (a / b):=by rw[Rat.div_def];exact cV ha (YM y h0)
end
theorem LW(h:x.natAbs<10 ^ n):dg n 1 (x:Rat):=⟨by simpa using h,by show(1:Nat)<10;decide⟩
theorem dg.lens(h:dg n d q)(y:0<n)(hd:0<d):(ai q.num.natAbs).length≤n∧(ai q.den).length≤d:=
 ⟨aI y h.1,aI hd h.2⟩
def stC(l:List (List UInt8)):List AV:=l.map .str
theorem pc(l:List (List UInt8)):(stC l).length=l.length:=by simp[stC]
theorem dX:∀l:List (List UInt8),AV.afT (stC l)=true
 | []=>rfl
 |x::l=>by have:=dX l;simp only[stC] at this;simp[stC,AV.afT,AV.closed,this]
variable{i:Nat}
theorem Qy{l:List (List UInt8)}{s:List UInt8}(h:l[i]? =some s):(stC l)[i]? =some (.str s):=by simp[stC,h]
def stP:List AV→Option (List (List UInt8))
 | []=>some []
 |.str a::l=>match stP l with
  |some r=>some (a::r)
  |none=>none
 |_=>none
theorem Vd:∀L:List (List UInt8),stP (stC L)=some L
 | []=>rfl
 |k::L=>by have:=Vd L;simp only[stC] at this;simp[stC,stP,this]
theorem Qz:∀{cs:List AV} {L:List (List UInt8)},stP cs=some L→cs=stC L
 | [],L,h=>by cases h;rfl
 |v::l,L,h=>by
  unfold stP at h;split at h
  next Z=>cases Z
  ·rename_i a V Z
   cases Z;split at h
   ·rename_i r X
    cases h;have:=Qz X;simp only[stC] at this ⊢;rw[this];rfl
   ·cases h
  ·cases h
def sts(M:Mem)(x:AV):Option (List (List UInt8)):=match LR 1 M x with
 |some cs=>stP cs
 |none=>none
theorem W9{M:Mem}{x:AV}{L:List (List UInt8)}(h:sts M x=some L):Xh 1 M x L.length (stC L)∨(x=.qF∧L=[]):=by
 unfold sts at h;split at h
 ·rename_i S Z
  have V:=Qz h;subst V;rcases OW Z with⟨n,X,U⟩ | ⟨rfl,X⟩
  ·have:n=L.length:=by rw[pc] at X;omega
   subst this;exact .inl U
  ·refine .inr ⟨rfl,?_⟩
   cases L with
   |nil=>rfl
   |cons a l=>simp[stC] at X
 ·cases h
abbrev P2:=Rat×Rat
def pA(p:P2):AV:=.agg [.str (ax p.1),.str (ax p.2)]
def pDg(n:Nat)(p:P2):Prop:=dg n n p.1∧dg n n p.2
def dj(a b c:P2):Rat:=(b.1-a.1)*(c.2-a.2)-(b.2-a.2)*(c.1-a.1)
def pC:List P2→List AV
 | []=>[]
 |p::l=>.str (ax p.1)::.str (ax p.2)::pC l
theorem DA:∀l:List P2,(pC l).length=l.length*2
 | []=>rfl
 |_::l=>by simp only[pC,List.length_cons,DA l];omega
theorem ez:∀l:List P2,AV.afT (pC l)=true
 | []=>rfl
 |p::l=>by simp[pC,AV.afT,AV.closed,ez l]
theorem wq(n:Nat):∀l:List P2,AV.af6 n (pC l)=[]
 | []=>rfl
 |p::l=>by simp[pC,AV.af6,AV.refs,wq n l]
theorem Qp(f:Nat→Option Nat)(l:List P2):AV.af9 f (pC l)=pC l:=aO (ez l)
theorem Y9:pC []=[]:=rfl
theorem UP(f:Nat→Bool):∀l:List P2,AV.afV f (pC l)=true
 | []=>rfl
 |p::l=>by simp[pC,AV.afV,AV.afP,UP f l]
theorem MA:∀l r:List P2,pC (l++r)=pC l++pC r
 | [],_=>rfl
 |p::l,r=>by simp[pC,MA l r]
theorem UO:∀(l:List P2) (i:Nat),(pC l).drop (i*2)=pC (l.drop i)
 |l,0=>by simp
 | [],i+1=>by simp[pC]
 |p::l,i+1=>by
  have:(i+1)*2=i*2+1+1:=by omega
  rw[this];simp only[pC,List.drop_succ_cons];exact UO l i
theorem MB{l:List P2}{p:P2}(h:l[i]? =some p):
  ((pC l).drop (i*2)).take 2=[.str (ax p.1),.str (ax p.2)]∧(pC l)[i*2]? =some (.str (ax p.1))∧(pC l)[i*2+1]? =some (.str (ax p.2))∧i*2+2≤(pC l).length:=by
 have U:=gL h;have Z:l.drop i=p::l.drop (i+1):=by rw[List.getElem?_eq_some_iff] at h;obtain⟨X,V⟩:=h;rw[←V];exact List.drop_eq_getElem_cons X
 have e:=UO l i;rw[Z] at e;refine⟨by rw[e];rfl,?_,?_,by rw[DA];omega⟩
 ·have:(pC l)[i*2]? =((pC l).drop (i*2))[0]? :=by rw[List.getElem?_drop];rfl
  rw[this,e];rfl
 ·have:(pC l)[i*2+1]? =((pC l).drop (i*2))[1]? :=by rw[List.getElem?_drop]
  rw[this,e];rfl
abbrev Tr:=Nat×Nat×Nat
def tC:List Tr→List AV
 | []=>[]
 |t::l=>.int .i64 (t.1:Int)::.int .i64 (t.2.1:Int)::.int .i64 (t.2.2:Int)::tC l
theorem MV:∀l:List Tr,(tC l).length=l.length*3
 | []=>rfl
 |_::l=>by simp only[tC,List.length_cons,MV l];omega
theorem ig:∀l:List Tr,AV.afT (tC l)=true
 | []=>rfl
 |p::l=>by simp[tC,AV.afT,AV.closed,ig l]
theorem tw(n:Nat):∀l:List Tr,AV.af6 n (tC l)=[]
 | []=>rfl
 |p::l=>by simp[tC,AV.af6,AV.refs,tw n l]
theorem MW(f:Nat→Option Nat)(l:List Tr):AV.af9 f (tC l)=tC l:=aO (ig l)
theorem Vf:∀(l:List Tr) (i:Nat),(tC l).drop (i*3)=tC (l.drop i)
 |l,0=>by simp
 | [],i+1=>by simp[tC]
 |p::l,i+1=>by
  have:(i+1)*3=i*3+1+1+1:=by omega
  rw[this];simp only[tC,List.drop_succ_cons];exact Vf l i
theorem Ve{l:List Tr}{t:Tr}(h:l[i]? =some t):
  ((tC l).drop (i*3)).take 3=[.int .i64 (t.1:Int),.int .i64 (t.2.1:Int),.int .i64 (t.2.2:Int)]∧i*3+3≤(tC l).length:=by
 have U:=gL h;have Z:l.drop i=t::l.drop (i+1):=by rw[List.getElem?_eq_some_iff] at h;obtain⟨X,V⟩:=h;rw[←V];exact List.drop_eq_getElem_cons X
 have e:=Vf l i;rw[Z] at e;exact⟨by rw[e];rfl,by rw[MV];omega⟩
def pmE(p:P2):AV×AV:=(pA p,.bool true)
theorem HK(n:Nat):∀l:List P2,(l.map pmE).flatMap (fun e=>e.1.refs n++e.2.refs n)=[]
 | []=>rfl
 |p::l=>by simp[pmE,pA,AV.refs,AV.af6,HK n l]
def sqI:List (Int×Int):=[(0,0),(4,0),(4,4),(0,4)]
def dT:Nat→List (Int×Int)
 |0=>sqI
 |1=>sqI
 |2=>[(0,0),(4,0),(4,4),(0,4),(2,1)]
 |3=>[(0,0),(6,0),(0,4)]
 |4=>[(0,0),(2,0),(4,0),(0,2),(2,2),(4,2)]
 |5=>[(1,4),(5,3),(4,0),(0,0)]
 |6=>[(0,0),(4,0),(4,4),(0,4),(2,0)]
 |_=>[(0,0),(6,0),(0,6),(2,2)]
def bU:Nat→List Tr
 |0=>[(0,1,2),(0,2,3)]
 |1=>[(0,1,3),(1,2,3)]
 |2=>[(0,1,4),(1,2,4),(2,3,4),(3,0,4)]
 |3=>[(2,0,1)]
 |4=>[(0,1,4),(0,4,3),(1,2,5),(1,5,4)]
 |5=>[(3,2,1),(3,1,0)]
 |6=>[(0,4,3),(4,2,3),(4,1,2)]
 |_=>[(0,1,3),(1,2,3),(2,0,3)]
def mz:Nat→List Nat
 |2=>[0,1,2,3]
 |3=>[0,1,2]
 |4=>[0,1,2,5,4,3]
 |5=>[0,3,2,1]
 |6=>[0,4,1,2,3]
 |7=>[0,1,2]
 |_=>[0,1,2,3]
def iP:List (Int×Int)→List AV
 | []=>[]
 |p::l=>.int .i64 p.1::.int .i64 p.2::iP l
theorem Me:∀l:List (Int×Int),(iP l).length=l.length*2
 | []=>rfl
 |_::l=>by simp only[iP,List.length_cons,Me l];omega
theorem O8(n:Nat):∀l:List (Int×Int),AV.af6 n (iP l)=[]
 | []=>rfl
 |p::l=>by simp[iP,AV.af6,AV.refs,O8 n l]
theorem Md:∀l:List (Int×Int),AV.afT (iP l)=true
 | []=>rfl
 |p::l=>by simp[iP,AV.afT,AV.closed,Md l]
theorem Um(f:Nat→Option Nat)(l:List (Int×Int)):AV.af9 f (iP l)=iP l:=aO (Md l)
theorem Ul:∀(l:List (Int×Int)) (i:Nat),(iP l).drop (i*2)=iP (l.drop i)
 |l,0=>by simp
 | [],i+1=>by simp[iP]
 |p::l,i+1=>by
  have:(i+1)*2=i*2+1+1:=by omega
  rw[this];simp only[iP,List.drop_succ_cons];exact Ul l i
theorem ZE{l:List (Int×Int)}{p:Int×Int}(h:l[i]? =some p):
  (iP l)[i*2]? =some (.int .i64 p.1)∧(iP l)[i*2+1]? =some (.int .i64 p.2)∧i*2+2≤(iP l).length:=by
 have U:=gL h;have Z:l.drop i=p::l.drop (i+1):=by rw[List.getElem?_eq_some_iff] at h;obtain⟨X,V⟩:=h;rw[←V];exact List.drop_eq_getElem_cons X
 have e:=Ul l i;rw[Z] at e;refine⟨?_,?_,by rw[Me];omega⟩
 ·have:(iP l)[i*2]? =((iP l).drop (i*2))[0]? :=by rw[List.getElem?_drop];rfl
  rw[this,e];rfl
 ·have:(iP l)[i*2+1]? =((iP l).drop (i*2))[1]? :=by rw[List.getElem?_drop]
  rw[this,e];rfl
structure af1 where
 kind:Nat
 sx:Int
 sy:Int
 half:Bool
structure af1.Ok (s:af1):Prop where
 kind:s.kind<256
 x0: -128≤s.sx
 x1:s.sx≤127
 y0: -128≤s.sy
 y1:s.sy≤127
def af1.av(s:af1):AV:=.agg [.int .u8 s.kind,.int .i8 s.sx,.int .i8 s.sy,.bool s.half]
def af1.pt(s:af1)(k:Nat)(x y:Int):P2:=
 (mkRat (x+s.sx.tmod 8*k) ((if s.half then 2 else 1)*k),mkRat (y+s.sy.tmod 8*k) ((if s.half then 2 else 1)*k))
def af1.P(s:af1):List P2:=(dT (s.kind%8)).map fun p=>s.pt 1 p.1 p.2
def af1.T(s:af1):List Tr:=bU (s.kind%8)
theorem Vp{n:Int}(h0: -128≤n)(h1:n≤127):IntKind.i8.wrap n=n:=by simp only[IntKind.wrap,IntKind.bits,IntKind.signed,Bool.true_and];split<;>simp_all<;>omega
theorem SR(x:Int): -7≤x.tmod 8∧x.tmod 8≤7:=by
 have Z:=Int.tmod_lt_of_pos x (show(0:Int)<8 by decide);have X: -8<x.tmod 8:=by have:=Int.tmod_lt_of_pos (-x) (show(0:Int)<8 by decide);rw[Int.neg_tmod] at this;omega
 omega
def qC(Q:List Rat):List AV:=Q.map fun q=>.str (ax q)
theorem MD(Q:List Rat):(qC Q).length=Q.length:=by simp[qC]
theorem xF:∀Q:List Rat,AV.afT (qC Q)=true
 | []=>rfl
 |q::Q=>by have:=xF Q;simp only[qC] at this;simp[qC,AV.afT,AV.closed,this]
theorem fV(n:Nat):∀Q:List Rat,AV.af6 n (qC Q)=[]
 | []=>rfl
 |q::Q=>by have:=fV n Q;simp only[qC] at this;simp[qC,AV.af6,AV.refs,this]
theorem UR(f:Nat→Bool):∀Q:List Rat,AV.afV f (qC Q)=true
 | []=>rfl
 |q::Q=>by have:=UR f Q;simp only[qC] at this;simp[qC,AV.afV,AV.afP,this]
theorem kN(f:Nat→Option Nat)(Q:List Rat):AV.af9 f (qC Q)=qC Q:=aO (xF Q)
theorem Yc{Q:List Rat}(h:Q[i]? =some q):(qC Q)[i]? =some (.str (ax q)):=by simp[qC,h]
structure aic where
 kind:Nat
 A:Int×Int×Int
 B:Int×Int×Int
 N:Int
 K:Nat×Nat×Nat×Nat
def aic.cells(d:aic):List AV:=[.int .u8 d.kind,.int .i8 d.A.1,.int .i8 d.A.2.1,.int .i8 d.A.2.2,.int .i8 d.B.1,.int .i8 d.B.2.1,.int .i8 d.B.2.2,.int .i8 d.N,.int .u8 d.K.1,.int .u8 d.K.2.1,.int .u8 d.K.2.2.1,.int .u8 d.K.2.2.2]
def Bn(n:Int):Prop:= -128≤n∧n≤127
def YX(v:Int×Int×Int):Prop:=Bn v.1∧Bn v.2.1∧Bn v.2.2
def ZN(v:Nat×Nat×Nat×Nat):Prop:=v.1<256∧v.2.1<256∧v.2.2.1<256∧v.2.2.2<256
structure aic.Ok (d:aic):Prop where
 kind:d.kind<256
 A:YX d.A
 B:YX d.B
 N:Bn d.N
 K:ZN d.K
def hQ(z:Int):Rat:=mkRat z 2
theorem nf(z:Int):hQ z=(z:Rat) / 2:=by unfold hQ;rw[Rat.mkRat_eq_div];rfl
theorem Xl(a b:Int):hQ a+hQ b=hQ (a+b):=by
 rw[nf,nf,nf,Rat.intCast_add]
 grind
theorem ZA{a b:Int}(h:a≤b):hQ a≤hQ b:=by
 rw[nf,nf];have:(a:Rat)≤(b:Rat):=by exact_mod_cast h
 grind
variable{z:Int}
theorem WJ(h:z.natAbs<1000):dg 3 1 (hQ z):=mZ (by decide) h (by decide)
theorem CZ(h:z.natAbs<1000):(ax (hQ z)).length≤9:=by have Z:=WJ h;have X:big 3 (hQ z):=⟨Z.1,by have:=Z.2;omega⟩;have:=R8 (by decide) X;omega
def qH(Z:List Int):List Rat:=Z.map hQ
theorem A9(x:Int)(k:Nat)(hk:0<k): -(k:Int)<x.tmod k∧x.tmod k<k:=by have X:=Int.tmod_lt_of_pos x (show(0:Int)<(k:Int) by omega);have Z:=Int.tmod_lt_of_pos (-x) (show(0:Int)<(k:Int) by omega);rw[Int.neg_tmod] at Z;omega
end Go.Eng
