/- See R54. -/
import Derived.Test.YtgafjliihahjgaaGreatDoorR07
import Derived.Lib.Atoi
import Derived.Lib.Strings
import Derived.Lib.Bytealg
import Derived.Lib.IndexLaws
set_option linter.all false
namespace Go.Eng
def RT(k:Nat):UInt8:=UInt8.ofNat (48+k)
def isD(c:UInt8):Bool:=decide (48≤c.toNat)&&decide (c.toNat≤57)
def UQ:Nat→Nat→List UInt8→List UInt8
 |0,_,acc=>acc
 |f+1,u,acc=>if u<10 then RT u::acc else UQ f (u / 10) (RT (u%10)::acc)
def aQ(u:Nat):List UInt8:=UQ (u.log2+1) u []
theorem NA:∀(f u:Nat) (acc:List UInt8),u<2 ^ f→0<f→UQ f u acc=Lib.decDigits u++acc
 |0,u,acc,_,h=>by omega
 |f+1,u,acc,h,_=>by
  unfold UQ;by_cases Zv:u<10
  ·rw[if_pos Zv,Lib.decDigits,dif_pos Zv];rfl
  ·rw[if_neg Zv,Lib.decDigits,dif_neg Zv]
   have hf:0<f:=by
    cases f with
    |zero=>simp at h;omega
    |succ f=>omega
   rw[NA f (u / 10) _ (by rw[Nat.pow_succ] at h;omega) hf];simp[RT]
theorem tQ(u:Nat):aQ u=Lib.decDigits u:=by unfold aQ;rw[NA _ _ _ Nat.lt_log2_self (by omega)];simp
variable{u:Nat}
theorem jk(h:u<10):aQ u=[RT u]:=by rw[tQ,Lib.decDigits,dif_pos h];rfl
theorem rz(h:¬u<10):aQ u=aQ (u / 10)++[RT (u%10)]:=by
 have e:Lib.decDigits u=Lib.decDigits (u / 10)++[UInt8.ofNat (48+u%10)]:=by
  conv=>lhs;rw[Lib.decDigits]
  rw[dif_neg h]
 unfold RT;rw[tQ u,tQ (u / 10),e]
def wZ(a:Nat) (l:List UInt8):Nat:=l.foldl (fun a c=>10*a+(c.toNat-48)) a
theorem gn(a:Nat):wZ a []=a:=by unfold wZ;rw[List.foldl_nil]
theorem fK(a:Nat)(c:UInt8)(r:List UInt8):wZ a (c::r)=wZ (10*a+(c.toNat-48)) r:=by unfold wZ;rw[List.foldl_cons]
def lA(l:List UInt8):Nat:=wZ 0 l
theorem BE:∀(l r:List UInt8) (a:Nat),wZ a (l++r)=wZ (wZ a l) r
 | [],_,a=>by rw[List.nil_append,gn]
 |c::l,r,a=>by rw[List.cons_append,fK,fK,BE l r]
theorem vr(l:List UInt8)(c:UInt8):lA (l++[c])=10*lA l+(c.toNat-48):=by unfold lA;rw[BE,fK,gn]
variable{k:Nat}
theorem re(h:k<10):(RT k).toNat=48+k:=by unfold RT;simp[UInt8.toNat_ofNat'];omega
theorem Nh(h:k<10):isD (RT k)=true:=by unfold isD;rw[re h];simp;omega
variable{c:UInt8}
theorem AL(h:isD c=true):RT (c.toNat-48)=c:=by unfold isD at h;simp only[Bool.and_eq_true,decide_eq_true_eq] at h;unfold RT;apply UInt8.toNat_inj.1;simp[UInt8.toNat_ofNat'];omega
theorem xt(h:isD c=true):c.toNat-48<10:=by unfold isD at h;simp only[Bool.and_eq_true,decide_eq_true_eq] at h;omega
theorem vh{p:Nat→Prop}(h0:∀u,u<10→p u)(h1:∀u,¬u<10→p (u / 10)→p u)(u:Nat):p u:=by
 induction u using Nat.strongRecOn with
 |_ u ih=>
  by_cases h:u<10
  ·exact h0 u h
  ·exact h1 u h (ih (u / 10) (by omega))
theorem fY(u:Nat):lA (aQ u)=u:=by
 induction u using vh with
 |h0 u h=>
  rw[jk h];unfold lA;rw[fK,gn,re h];omega
 |h1 u h ih=>rw[rz h,vr,ih,re (by omega)];omega
theorem gl(u:Nat):(aQ u).all isD=true:=by
 induction u using vh with
 |h0 u h=>rw[jk h];simp[Nh h]
 |h1 u h ih=>rw[rz h,List.all_append,ih];simp[Nh (show u%10<10 by omega)]
theorem qz(u:Nat):aQ u≠[]:=by
 induction u using vh with
 |h0 u h=>rw[jk h];simp
 |h1 u h ih=>rw[rz h];simp
theorem vj(u:Nat):0<(aQ u).length:=List.length_pos_iff.2 (qz u)
theorem Kl(u:Nat)(hu:0<u):(aQ u).head? ≠some 48:=by
 induction u using vh with
 |h0 u h=>
  rw[jk h];simp only[List.head?_cons,ne_eq,Option.some.injEq];intro e;have:=congrArg UInt8.toNat e;rw[re h] at this;simp at this;omega
 |h1 u h ih=>
  rw[rz h,List.head?_append];have:=ih (by omega);cases hh:(aQ (u / 10)).head? with
  |none=>exact absurd (List.head?_eq_none_iff.1 hh) (qz _)
  |some x=>rw[hh] at this;simpa using this
theorem qA:aQ 0=[48]:=by rw[jk (by omega)];rfl
def jF(l:List UInt8):Bool:=match l with
 | []=>false
 |c::r=>isD c&&r.all isD&&(!(c==48)||r.isEmpty)
theorem Mf(u:Nat):jF (aQ u)=true:=by
 have h1:=gl u;have h2:=qz u;by_cases hu:u=0
 ·subst hu;rw[qA];rfl
 ·have h3:=Kl u (by omega)
  cases hl:aQ u with
  |nil=>exact absurd hl h2
  |cons c r=>
   rw[hl] at h1 h3;simp only[List.all_cons,Bool.and_eq_true] at h1;simp only[List.head?_cons,ne_eq,Option.some.injEq] at h3;simp[jF,h1.1,h1.2,h3]
variable{l:List UInt8}
theorem Me(hl:l≠[])(h:jF (l++[c])=true):jF l=true∧isD c=true∧l≠[48]:=by
 cases l with
 |nil=>exact absurd rfl hl
 |cons x r=>
  simp only[List.cons_append,jF,List.all_append,List.all_cons,List.all_nil,Bool.and_true,Bool.and_eq_true] at h;obtain⟨⟨h1,h2,h3⟩,h4⟩:=h;have h5:(x==48)=false:=by
   cases hx:x==48 with
   |false=>rfl
   |true=>rw[hx] at h4;simp at h4
  refine⟨by simp[jF,h1,h2,h5],h3,?_⟩;intro e;cases e;simp at h5
theorem Wo{p:List UInt8→Prop}(h0:p [])(h1:∀l c,p l→p (l++[c]))(l:List UInt8):p l:=by
 have:∀n (l:List UInt8),l.length=n→p l:=by
  intro n;induction n with
  |zero=>intro l hl;rw[List.eq_nil_of_length_eq_zero hl];exact h0
  |succ n ih=>
   intro l hl;have PP:l≠[]:=by intro e;rw[e] at hl;simp at hl
   rw[←List.dropLast_concat_getLast PP];exact h1 _ _ (ih _ (by simp[hl]))
 exact this _ l rfl
theorem Bh(h:jF l=true):aQ (lA l)=l:=by
 induction l using Wo with
 |h0=>cases h
 |h1 l c ih=>
  by_cases hl:l=[]
  ·subst hl
   simp only[List.nil_append,jF,List.all_nil,Bool.and_true,List.isEmpty_nil,Bool.or_true] at h;unfold lA;rw[List.nil_append,fK,gn,Nat.mul_zero,Nat.zero_add,jk (xt h),AL h]
  ·obtain⟨h1,h2,h3⟩:=Me hl h
   have hi:=ih h1;have hv:lA l≠0:=by intro e;rw[e,qA] at hi;exact h3 hi.symm
   have hd:=xt h2;rw[vr,rz (by omega),show(10*lA l+(c.toNat-48)) / 10=lA l by omega,show(10*lA l+(c.toNat-48))%10=c.toNat-48 by omega,hi,AL h2]
def y8(l:List UInt8):Option Nat:=if jF l then some (lA l) else none
theorem fX(u:Nat):y8 (aQ u)=some u:=by unfold y8;rw[if_pos (Mf u),fY]
theorem jH(h:y8 l=some u):l=aQ u:=by
 unfold y8 at h;split at h
 ·rename_i hc;cases h;exact(Bh hc).symm
 ·cases h
variable{v:Nat}
theorem NB(h:aQ u=aQ v):u=v:=by rw[←fY u,h,fY]
theorem Bl(u:Nat)(hu:0<u):10 ^ ((aQ u).length-1)≤u:=by
 induction u using vh with
 |h0 u h=>rw[jk h];simp;omega
 |h1 u h ih=>
  rw[rz h];have:=ih (by omega);have hp:=vj (u / 10);simp only[List.length_append,List.length_singleton,Nat.add_sub_cancel];have e:10 ^ (aQ (u / 10)).length=10 ^ ((aQ (u / 10)).length-1)*10:=by rw[←Nat.pow_succ];congr 1;omega
  rw[e];omega
theorem eI(u:Nat):u<10 ^ (aQ u).length:=by rw[tQ,Lib.decDigits_length];exact Lib.lt_pow_nDigits u
theorem br(hk:0<k)(h:u<10 ^ k):(aQ u).length≤k:=by
 by_cases hu:u=0
 ·subst hu;rw[qA];exact hk
 ·have h1:=Bl u (by omega)
  have h2:10 ^ ((aQ u).length-1)<10 ^ k:=by omega
  have:=(Nat.pow_lt_pow_iff_right (by omega:1<10)).1 h2;omega
def cf(n:Int):List UInt8:=match n with
 |.ofNat u=>aQ u
 |.negSucc u=>45::aQ (u+1)
theorem Sc(n:Int):cf n=Lib.itoa n:=by
 unfold Lib.itoa;cases n with
 |ofNat u=>rw[if_neg (by simp)];simp[cf,tQ]
 |negSucc u=>rw[if_pos (Int.negSucc_lt_zero u)];simp[cf,tQ]
def oT(l:List UInt8):Option Int:=match l with
 |45::r=>match y8 r with
  |some (u+1)=>some (.negSucc u)
  |_=>none
 |l=>match y8 l with
  |some u=>some (.ofNat u)
  |none=>none
theorem oc(u:Nat):(aQ u).head? ≠some 45:=by
 cases hl:aQ u with
 |nil=>simp
 |cons c r=>
  have:=gl u;rw[hl] at this;simp only[List.all_cons,Bool.and_eq_true] at this;simp only[List.head?_cons,ne_eq,Option.some.injEq];rintro rfl;exact absurd this.1 (by decide)
theorem cL(n:Int):oT (cf n)=some n:=by
 cases n with
 |ofNat u=>
  have h:=oc u;simp only[cf];unfold oT;split
  ·rename_i r hr
   rw[hr] at h;simp at h
  ·rw[fX]
 |negSucc u=>simp[cf,oT,fX]
theorem eG{n:Int}(h:oT l=some n):l=cf n:=by
 unfold oT at h;split at h
 ·split at h
  ·rename_i hr
   cases h;simp[cf,jH hr]
  ·cases h
 ·split at h
  ·rename_i hr
   cases h;simp[cf,jH hr]
  ·cases h
theorem UE{m n:Int}(h:cf m=cf n):m=n:=by have:=cL m;rw[h,cL] at this;exact(Option.some.inj this).symm
theorem mM(n:Int):Lib.hasPrefix (cf n) [45]=decide (n<0):=by
 cases n with
 |ofNat u=>
  have h:=oc u;simp only[cf];cases hl:aQ u with
  |nil=>exact absurd hl (qz u)
  |cons c r=>
   rw[hl] at h;simp only[List.head?_cons,ne_eq,Option.some.injEq] at h;rw[show decide (Int.ofNat u<0)=false by simp];have h' :¬(45:UInt8)=c:=fun e=>h e.symm
   simp[Lib.hasPrefix,List.isPrefixOf,h']
 |negSucc u=>simp[cf,Lib.hasPrefix,List.isPrefixOf,Int.negSucc_lt_zero]
theorem ly(n:Int):Lib.trimPrefix (cf n) [45]=aQ n.natAbs:=by
 unfold Lib.trimPrefix;rw[mM];cases n with
 |ofNat u=>
  rw[show decide (Int.ofNat u<0)=false by simp];rfl
 |negSucc u=>simp[cf,Int.negSucc_lt_zero,Int.natAbs]
theorem JS(h:isD c=true):Lib.digitVal c=some (c.toNat-48):=by unfold isD at h;simp only[Bool.and_eq_true,decide_eq_true_eq] at h;unfold Lib.digitVal;rw[if_pos h]
theorem xn:∀(l:List UInt8) (a:Nat),l.all isD=true→Lib.decFrom a l=some (wZ a l)
 | [],a,_=>by rw[gn];rfl
 |c::r,a,h=>by simp only[List.all_cons,Bool.and_eq_true] at h;unfold Lib.decFrom;rw[JS h.1,fK];simp only;rw[xn r _ h.2,Nat.mul_comm]
theorem AK(u:Nat):Lib.decNat (aQ u)=some u:=by
 unfold Lib.decNat
 have h:(aQ u).isEmpty=false:=by
  cases hl:aQ u with
  |nil=>exact absurd hl (qz u)
  |cons=>rfl
 rw[h];simp only[Bool.false_eq_true,if_false];rw[xn _ _ (gl u)];exact congrArg some (fY u)
theorem nh(n:Int):Lib.atoi (cf n)=some n:=by
 cases n with
 |ofNat u=>
  have h1:=oc u;have h2:=gl u;have h3:=AK u;simp only[cf];cases hl:aQ u with
  |nil=>exact absurd hl (qz u)
  |cons c r=>
   rw[hl] at h1 h2 h3;simp only[List.head?_cons,ne_eq,Option.some.injEq] at h1;simp only[List.all_cons,Bool.and_eq_true] at h2;have hc:¬c=43:=by rintro rfl;exact absurd h2.1 (by decide)
   simp[Lib.atoi,h1,hc,h3]
 |negSucc u=>
  simp[cf,Lib.atoi,AK,Int.negSucc_eq]
theorem nr(h:(aQ u).length<(aQ v).length):u<v:=by
 have h1:=eI u;have hv:0<v:=by
  by_cases hv:v=0
  ·subst hv
   rw[qA] at h;have:=vj u;simp only[List.length_singleton] at h;omega
  ·omega
 have h2:=Bl v hv;have h3:10 ^ (aQ u).length≤10 ^ ((aQ v).length-1):=Nat.pow_le_pow_right (by omega) (by omega);exact Nat.lt_of_lt_of_le h1 (Nat.le_trans h3 h2)
def JN(u v:Nat):Int:=if u<v then -1 else if v<u then 1 else 0
theorem tZ:∀(l:List UInt8) (a:Nat),l.all isD=true→wZ a l<(a+1)*10 ^ l.length
 | [],a,_=>by rw[gn];simp
 |c::r,a,h=>by simp only[List.all_cons,Bool.and_eq_true] at h;have hd:=xt h.1;have:=tZ r (10*a+(c.toNat-48)) h.2;rw[fK];refine Nat.lt_of_lt_of_le this ?_;rw[List.length_cons,Nat.pow_succ,Nat.mul_comm (10 ^ r.length) 10,←Nat.mul_assoc];exact Nat.mul_le_mul_right _ (by omega)
theorem Sq:∀(l:List UInt8) (a:Nat),a*10 ^ l.length≤wZ a l
 | [],a=>by rw[gn];simp
 |c::r,a=>by have:=Sq r (10*a+(c.toNat-48));rw[fK];refine Nat.le_trans ?_ this;rw[List.length_cons,Nat.pow_succ,Nat.mul_comm (10 ^ r.length) 10,←Nat.mul_assoc];exact Nat.mul_le_mul_right _ (by omega)
theorem nj:∀(l r:List UInt8) (a:Nat),l.length=r.length→l.all isD=true→r.all isD=true→Lib.compareBytes l r=JN (wZ a l) (wZ a r)
 | [],[],a,_,_,_=>by
  rw[gn];show(0:Int)=JN a a
  unfold JN;rw[if_neg (by omega),if_neg (by omega)]
 | [],_::_,_,h,_,_=>by simp at h
 |_::_,[],_,h,_,_=>by simp at h
 |c::l,d::r,a,h,h1,h2=>by
  simp only[List.length_cons,Nat.add_right_cancel_iff] at h;simp only[List.all_cons,Bool.and_eq_true] at h1 h2;have key:∀{x y:UInt8}{l r:List UInt8},isD x=true→isD y=true→l.all isD=true→l.length=r.length→x<y→wZ (10*a+(x.toNat-48)) l<wZ (10*a+(y.toNat-48)) r:=by intro x y l r hx hy hl hlr hxy;have e1:=tZ l (10*a+(x.toNat-48)) hl;have e2:=Sq r (10*a+(y.toNat-48));have aem :x.toNat<y.toNat:=hxy;unfold isD at hx hy;simp only[Bool.and_eq_true,decide_eq_true_eq] at hx hy;rw[hlr] at e1;have:(10*a+(x.toNat-48)+1)*10 ^ r.length≤(10*a+(y.toNat-48))*10 ^ r.length:=Nat.mul_le_mul_right _ (by omega);omega
  unfold Lib.compareBytes;rw[fK,fK];by_cases hcd:c<d
  ·rw[if_pos hcd]
   have:=key h1.1 h2.1 h1.2 h hcd;unfold JN;rw[if_pos this]
  ·rw[if_neg hcd]
   by_cases hdc:d<c
   ·rw[if_pos hdc]
    have:=key h2.1 h1.1 h2.2 h.symm hdc;unfold JN;rw[if_neg (by omega),if_pos this]
   ·rw[if_neg hdc]
    have Za:¬c.toNat<d.toNat:=hcd;have hn2:¬d.toNat<c.toNat:=hdc;have e:c.toNat=d.toNat:=by omega
    rw[e];exact nj l r _ h h1.2 h2.2
theorem wD(h:(aQ u).length=(aQ v).length):Lib.compareBytes (aQ u) (aQ v)=JN u v:=by
 have:=nj (aQ u) (aQ v) 0 h (gl u) (gl v);rw[this];show JN (lA (aQ u)) (lA (aQ v))=_
 rw[fY,fY]
def mw(n:Int):Int:=if n<0 then -1 else if n=0 then 0 else 1
def JM(m n:Int):Int:=if m<n then -1 else if n<m then 1 else 0
theorem Se(n:Int):cf n=[48]↔n=0:=by
 constructor
 ·intro h;exact UE (h.trans (by rfl))
 ·rintro rfl;rfl
theorem jW(n:Int):(cf n==[48])=decide (n=0):=by rw[Bool.eq_iff_iff];simp[Se]
theorem qp(n:Int):0<(cf n).length:=by
 cases n with
 |ofNat u=>exact vj u
 |negSucc u=>simp[cf]
theorem qq{n:Int}(h:0<n):cf (-n)=45::cf n:=by
 cases n with
 |ofNat u=>
  cases u with
  |zero=>simp at h
  |succ u=>rfl
 |negSucc u=>exact absurd h (by have:=Int.negSucc_lt_zero u;omega)
theorem Fi{n:Int}(h:n<0):(cf n).drop 1=cf (-n):=by have:=qq (n:= -n) (by omega);rw[Int.neg_neg] at this;rw[this];rfl
theorem n9{n:Int}(h:0≤n):cf n=aQ n.natAbs:=by
 cases n with
 |ofNat u=>rfl
 |negSucc u=>exact absurd h (by have:=Int.negSucc_lt_zero u;omega)
theorem VM(a b:Int):JM a b=if mw a≠mw b then (if mw a<mw b then -1 else 1) else
  if (aQ a.natAbs).length≠(aQ b.natAbs).length then (if (aQ a.natAbs).length<(aQ b.natAbs).length then-mw a else mw a) else mw a*JN a.natAbs b.natAbs:=by
 by_cases hs:mw a≠mw b
 ·rw[if_pos hs]
  unfold mw at hs ⊢;unfold JM
  repeat' split
  all_goals first | rfl | omega
 ·rw[if_neg hs]
  by_cases hl:(aQ a.natAbs).length≠(aQ b.natAbs).length
  ·rw[if_pos hl]
   by_cases A':(aQ a.natAbs).length<(aQ b.natAbs).length
   ·rw[if_pos A']
    have:=nr A';unfold mw at hs ⊢;unfold JM
    repeat' split
    all_goals first | rfl | omega
   ·rw[if_neg A']
    have:=nr (u:=b.natAbs) (v:=a.natAbs) (by omega);unfold mw at hs ⊢;unfold JM
    repeat' split
    all_goals first | rfl | omega
  ·rw[if_neg hl]
   unfold mw at hs ⊢;unfold JM JN
   repeat' split
   all_goals first | rfl | omega
def aw(q:Rat):List UInt8:=if q.den=1 then cf q.num else cf q.num++47::aQ q.den
theorem vi(u:Nat):(47:UInt8)∉aQ u:=by intro h;have:=List.all_eq_true.1 (gl u) _ h;exact absurd this (by decide)
theorem jX(n:Int):(47:UInt8)∉cf n:=by
 cases n with
 |ofNat u=>exact vi u
 |negSucc u=>
  simp only[cf,List.mem_cons,not_or];exact⟨by decide,vi _⟩
theorem np:∀(l:List UInt8) (c:UInt8),c∉l→Lib.indexByte l c= -1
 | [],_,_=>rfl
 |b::l,c,h=>by simp only[List.mem_cons,not_or] at h;unfold Lib.indexByte;rw[if_neg (by simpa using fun e=>h.1 e.symm),np l c h.2];rfl
theorem xr:∀(l r:List UInt8) (c:UInt8),c∉l→Lib.indexByte (l++c::r) c=l.length
 | [],r,c,_=>by simp[Lib.indexByte]
 |b::l,r,c,h=>by
  simp only[List.mem_cons,not_or] at h;rw[List.cons_append];unfold Lib.indexByte;rw[if_neg (by simpa using fun e=>h.1 e.symm),xr l r c h.2];have hn:¬(((l.length:Int)== -1)=true):=by rw[beq_iff_eq];omega
  rw[if_neg hn];rfl
theorem Cv(q:Rat):Lib.indexByte (aw q) 47=if q.den=1 then -1 else ((cf q.num).length:Int):=by
 unfold aw;split
 ·exact np _ _ (jX _)
 ·exact xr _ _ _ (jX _)
def PX(n:Int) (d:Nat):Option Rat:=if h:1<d∧n.natAbs.gcd d=1 then some ⟨n,d,by omega,h.2⟩ else none
def dJ(l:List UInt8):Option Rat:=match l.idxOf? 47 with
 |none=>match oT l with
  |some n=>some ⟨n,1,by decide,Nat.gcd_one_right _⟩
  |none=>none
 |some i=>match oT (l.take i),y8 (l.drop (i+1)) with
  |some n,some d=>PX n d
  |_,_=>none
theorem PE(h:c∉l):l.idxOf? c=none:=List.idxOf?_eq_none_iff.2 h
theorem UC{r:List UInt8}(h:c∉l):(l++c::r).idxOf? c=some l.length:=by rw[List.idxOf?_eq_some_iff];refine⟨by simp,by simp,fun j hj=>?_⟩;rw[List.getElem_append_left hj];intro e;exact h (e▸List.getElem_mem hj)
theorem aB(q:Rat):dJ (aw q)=some q:=by
 unfold dJ aw;by_cases h:q.den=1
 ·rw[if_pos h,PE (jX _)]
  simp only[cL];congr 1;apply Rat.ext
  ·rfl
  ·exact h.symm
 ·have h1:List.drop ((cf q.num).length+1) (cf q.num++47::aQ q.den)=aQ q.den:=by rw[List.drop_append];simp
  have h2:List.take (cf q.num).length (cf q.num++47::aQ q.den)=cf q.num:=List.take_left' rfl;have hd:1<q.den:=by have:=q.den_nz;omega
  have hr:q.num.natAbs.gcd q.den=1:=q.reduced;rw[if_neg h,UC (jX _)];simp only;rw[h1,h2,cL,fX];simp only[PX];rw[dif_pos ⟨hd,hr⟩]
variable{q:Rat}
theorem aA(h:dJ l=some q):l=aw q:=by
 unfold dJ at h;split at h
 ·split at h
  ·rename_i n hn
   cases h;unfold aw;rw[if_pos rfl];exact eG hn
  ·cases h
 ·rename_i i hi
  split at h
  ·rename_i n d hn hd
   unfold PX at h;split at h
   ·rename_i hc
    cases h;unfold aw;rw[if_neg (by show¬d=1;omega)];obtain⟨A',Yk,_⟩:=List.idxOf?_eq_some_iff.1 hi;show l=cf n++47::aQ d
    rw[←eG hn,←jH hd];have:l.drop i=47::l.drop (i+1):=by rw[List.drop_eq_getElem_cons A',Yk]
    rw[←this,List.take_append_drop]
   ·cases h
  ·cases h
theorem gO{p:Rat}(h:aw p=aw q):p=q:=by have:=aB p;rw[h,aB] at this;exact(Option.some.inj this).symm
theorem Ky(q:Rat):aw q=[48]↔q=0:=by
 constructor
 ·intro h;exact gO (h.trans (by rfl))
 ·rintro rfl;rfl
theorem bT(q:Rat):(aw q==[48])=decide (q=0):=by rw[Bool.eq_iff_iff];simp[Ky]
theorem neg_num(q:Rat):(-q).num= -q.num:=rfl
theorem Wa(q:Rat):(-q).den=q.den:=rfl
theorem qK(h:0<q.num):aw (-q)=45::aw q:=by unfold aw;rw[neg_num,Wa,qq h];split<;>rfl
theorem og(h:q.num<0):aw q=45::aw (-q):=by
 have:=qK (q:= -q) (by rw[neg_num];omega)
 rwa [Rat.neg_neg] at this
theorem za:q.num=0↔q=0:=by
 constructor
 ·intro h
  apply Rat.ext
  ·exact h
  ·have:=q.reduced
   rw[h] at this;simpa [Nat.Coprime] using this
 ·rintro rfl;rfl
theorem qJ(h:0≤q.num):∃c r,aw q=c::r∧isD c=true:=by
 have h1:∃c r,cf q.num=c::r∧isD c=true:=by
  rw[n9 h];have:=gl q.num.natAbs;cases hl:aQ q.num.natAbs with
  |nil=>exact absurd hl (qz _)
  |cons c r=>
   rw[hl] at this;simp only[List.all_cons,Bool.and_eq_true] at this;exact⟨c,r,rfl,this.1⟩
 obtain⟨c,r,e,hc⟩:=h1;unfold aw;split
 ·exact⟨c,r,e,hc⟩
 ·exact⟨c,r++47::aQ q.den,by rw[e];rfl,hc⟩
theorem gx(h:isD c=true):¬((c.toNat:Int)=45):=by unfold isD at h;simp only[Bool.and_eq_true,decide_eq_true_eq] at h;omega
def mP(q:Rat):Int:=mw q.num
def big(k:Nat) (q:Rat):Prop:=q.num.natAbs<10 ^ k∧q.den<10 ^ k
variable{d:Nat}
theorem UO(n:Int)(hd:d≠0):(mkRat n d).num.natAbs≤n.natAbs∧(mkRat n d).den≤d:=by rw[Rat.num_mkRat,Rat.den_mkRat,if_neg hd,if_neg hd];refine⟨?_,Nat.div_le_self _ _⟩;exact Int.natAbs_ediv_le_natAbs _ _
theorem fm(n:Int):(cf n).length≤(aQ n.natAbs).length+1:=by
 cases n with
 |ofNat u=>simp[cf]
 |negSucc u=>simp[cf]
theorem C8(hk:0<k)(h:big k q):(aw q).length≤2*k+2:=by
 have h1:=br hk h.1;have h2:=br hk h.2;have h3:=fm q.num;unfold aw;split
 ·omega
 ·simp only[List.length_append,List.length_cons];omega
theorem EZ(h:(aw q).length≤k):big k q:=by
 have h1:=eI q.num.natAbs;have h2:=eI q.den;have h3:(aQ q.num.natAbs).length≤(cf q.num).length:=by
  cases q.num with
  |ofNat u=>exact Nat.le_refl _
  |negSucc u=>simp[cf]
 have hp:=qp q.num;have h4:(aQ q.num.natAbs).length≤k∧(aQ q.den).length≤k:=by
  unfold aw at h;split at h
  ·rename_i hd
   refine⟨by omega,?_⟩;rw[hd];show 1≤k
   omega
  ·simp only[List.length_append,List.length_cons] at h
   omega
 have h5:10 ^ (aQ q.num.natAbs).length≤10 ^ k:=Nat.pow_le_pow_right (by omega) h4.1;have h6:10 ^ (aQ q.den).length≤10 ^ k:=Nat.pow_le_pow_right (by omega) h4.2;exact⟨by omega,by omega⟩
def asc:List (Rat×Rat)→Prop
 |a::b::l=>a.1<b.1∧asc (b::l)
 |_=>True
def bS(l:List (Rat×Rat)) (u:Rat):Nat:=match l with
 | []=>0
 |k::r=>(if k.1≤u then 1 else 0)+bS r u
def DI(a b:Rat×Rat):Rat:=(b.2-a.2) / (b.1-a.1)
def tL(l:List (Rat×Rat)) (n:Nat):Rat×Rat:=
 if l=[] then (0,0) else if n=0 then ((l.getD 0 (0,0)).2,0) else if n=l.length then ((l.getD (n-1) (0,0)).2,0) else
  ((l.getD (n-1) (0,0)).2-DI (l.getD (n-1) (0,0)) (l.getD n (0,0))*(l.getD (n-1) (0,0)).1,DI (l.getD (n-1) (0,0)) (l.getD n (0,0)))
def fL(l:List (Rat×Rat)) (u:Rat):Rat:=(tL l (bS l u)).1+(tL l (bS l u)).2*u
variable{a:Rat×Rat}
theorem EX{l:List (Rat×Rat)}(h:asc (a::l)):asc l:=by
 cases l with
 |nil=>trivial
 |cons b l=>exact h.2
theorem ns(l:List (Rat×Rat))(u:Rat):bS l u≤l.length:=by
 induction l with
 |nil=>exact Nat.le_refl _
 |cons k r ih=>simp only[bS,List.length_cons];split<;>omega
theorem qG{l:List (Rat×Rat)}{u:Rat}(h:asc l)(h0:∀a∈l.head?,u<a.1):bS l u=0:=by
 induction l with
 |nil=>rfl
 |cons k r ih=>
  have hk:u<k.1:=h0 k (by simp);have:¬k.1≤u:=Rat.not_le.2 hk;simp only[bS,if_neg this];rw[ih (EX h) ?_];intro a ha;cases r with
  |nil=>simp at ha
  |cons b r=>
   simp at ha;subst ha;have:=h.1
   grind
variable{n:Nat}
theorem PK{l:List (Rat×Rat)}(hl:l≠[])(hn:n≠0):tL (a::l) (n+1)=tL l n:=by
 obtain⟨m,rfl⟩:∃m,n=m+1:=⟨n-1,by omega⟩
 unfold tL;simp[hl]
theorem MY{b:Rat×Rat}{l:List (Rat×Rat)}{u:Rat}(h:asc (a::b::l))(hu:b.1≤u):fL (a::b::l) u=fL (b::l) u:=by
 have ha:a.1≤u:=by have:=h.1;grind
 have e:bS (a::b::l) u=bS (b::l) u+1:=by rw[bS,if_pos ha,Nat.add_comm]
 have hn:bS (b::l) u≠0:=by rw[bS,if_pos hu];omega
 unfold fL;rw[e,PK (by simp) hn]
theorem KR{b:Rat×Rat}{l:List (Rat×Rat)}{u:Rat}(h:asc (a::b::l))(ha:a.1≤u)(hu:u<b.1):fL (a::b::l) u=a.2+(u-a.1) / (b.1-a.1)*(b.2-a.2):=by
 have e:bS (a::b::l) u=1:=by rw[bS,if_pos ha,qG (EX h) (by simpa using hu)]
 have hd:b.1-a.1≠0:=by have:=h.1;grind
 unfold fL;rw[e];have e2:tL (a::b::l) 1=(a.2-DI a b*a.1,DI a b):=by simp[tL]
 rw[e2];simp only[DI,Rat.div_def]
 grind
variable{x:Int}
theorem fc{y:Int}{a b:Nat}(h1:x.natAbs<a)(h2:y.natAbs<b):(x*y).natAbs<a*b:=by rw[Int.natAbs_mul];exact Nat.mul_lt_mul'' h1 h2
def dg(n d:Nat) (q:Rat):Prop:=q.num.natAbs<10 ^ n∧q.den<10 ^ d
variable{d' n' :Nat}
theorem dg.mono(h:dg n d q)(hn:n≤n')(hd:d≤d'):dg n' d' q:=by have h1:10 ^ n≤10 ^ n' :=Nat.pow_le_pow_right (by omega) hn;have h2:10 ^ d≤10 ^ d' :=Nat.pow_le_pow_right (by omega) hd;exact⟨by have:=h.1;omega,by have:=h.2;omega⟩
theorem ra{y:Nat}(hy:y≠0)(h1:x.natAbs<10 ^ n)(h2:y<10 ^ d):dg n d (mkRat x y):=by have:=UO x hy;exact⟨by omega,by omega⟩
variable{m:Nat}
theorem nq{a b:Nat}(h1:a<10 ^ k)(h2:b<10 ^ m):a*b<10 ^ (k+m):=by rw[Nat.pow_add];exact Nat.mul_lt_mul'' h1 h2
variable{b:Rat}
theorem JR{a:Rat}(ha:dg n d a)(hb:dg n' d' b):dg (n+n') (d+d') (a*b):=by rw[Rat.mul_def'];refine ra (Nat.mul_ne_zero a.den_nz b.den_nz) ?_ (nq ha.2 hb.2);rw[Int.natAbs_mul];exact nq ha.1 hb.1
theorem RS{a:Rat}(ha:dg n d a)(hb:dg n' d' b)(h1:n+d' ≤m)(h2:n' +d≤m):dg (m+1) (d+d') (a+b):=by rw[Rat.add_def'];refine ra (Nat.mul_ne_zero a.den_nz b.den_nz) ?_ (nq ha.2 hb.2);have h4:=nq ha.1 hb.2;have h5:=nq hb.1 ha.2;have h6:=Int.natAbs_add_le (a.num*b.den) (b.num*a.den);rw[Int.natAbs_mul,Int.natAbs_mul,Int.natAbs_natCast,Int.natAbs_natCast] at h6;have e1:10 ^ (n+d')≤10 ^ m:=Nat.pow_le_pow_right (by omega) h1;have e2:10 ^ (n' +d)≤10 ^ m:=Nat.pow_le_pow_right (by omega) h2;have e3:10 ^ (m+1)=10 ^ m*10:=Nat.pow_succ ..;omega
theorem WG{a:Rat}(ha:dg n d a):dg n d (-a):=by refine⟨?_,ha.2⟩;rw[Rat.neg_num,Int.natAbs_neg];exact ha.1
theorem Ng{a:Rat}(ha:dg n d a)(hb:dg n' d' b)(h1:n+d' ≤m)(h2:n' +d≤m):dg (m+1) (d+d') (a-b):=by rw[Rat.sub_eq_add_neg];exact RS ha (WG hb) h1 h2
theorem WE(h:x.natAbs<10 ^ n):dg n 1 (x:Rat):=⟨by simpa using h,by show(1:Nat)<10;decide⟩
theorem dg.lens(h:dg n d q)(hn:0<n)(hd:0<d):(aQ q.num.natAbs).length≤n∧(aQ q.den).length≤d:=
 ⟨br hn h.1,br hd h.2⟩
def stC(l:List (List UInt8)):List AV:=l.map .str
theorem bU(l:List (List UInt8)):(stC l).length=l.length:=by simp[stC]
theorem P8(l r:List (List UInt8)):stC (l++r)=stC l++stC r:=by simp[stC]
theorem kx:∀l:List (List UInt8),AV.aeG (stC l)=true
 | []=>rfl
 |x::l=>by have:=kx l;simp only[stC] at this;simp[stC,AV.aeG,AV.closed,this]
variable{i:Nat}
theorem sj{l:List (List UInt8)}{s:List UInt8}(h:l[i]? =some s):(stC l)[i]? =some (.str s):=by simp[stC,h]
theorem U7(l:List (List UInt8)):(stC l).take l.length=stC l:=List.take_of_length_le (by rw[bU];omega)
def stP:List AV→Option (List (List UInt8))
 | []=>some []
 |.str a::l=>match stP l with
  |some r=>some (a::r)
  |none=>none
 |_=>none
theorem Bz:∀L:List (List UInt8),stP (stC L)=some L
 | []=>rfl
 |k::L=>by have:=Bz L;simp only[stC] at this;simp[stC,stP,this]
theorem NP:∀{cs:List AV}{L:List (List UInt8)},stP cs=some L→cs=stC L
 | [],L,h=>by cases h;rfl
 |v::l,L,h=>by
  unfold stP at h;split at h
  ·rename_i h1;cases h1
  ·rename_i a l' h1
   cases h1;split at h
   ·rename_i r hr
    cases h;have:=NP hr;simp only[stC] at this ⊢;rw[this];rfl
   ·cases h
  ·cases h
def sts(M:Mem) (x:AV):Option (List (List UInt8)):=match JF 1 M x with
 |some cs=>stP cs
 |none=>none
theorem rD{M:Mem}{x:AV}{L:List (List UInt8)}(h:sts M x=some L):Xi 1 M x L.length (stC L)∨(x=.kK∧L=[]):=by
 unfold sts at h;split at h
 ·rename_i cs YO
  have hc:=NP h;subst hc;rcases Mg YO with⟨n,hn,hr⟩ | ⟨rfl,hn⟩
  ·have:n=L.length:=by rw[bU] at hn;omega
   subst this;exact .inl hr
  ·refine .inr ⟨rfl,?_⟩
   cases L with
   |nil=>rfl
   |cons a l=>simp[stC] at hn
 ·cases h
abbrev P2:=Rat×Rat
def pA(p:P2):AV:=.agg [.str (aw p.1),.str (aw p.2)]
def pDg(n:Nat) (p:P2):Prop:=dg n 1 p.1∧dg n 1 p.2
def cT(a b c:P2):Rat:=(b.1-a.1)*(c.2-a.2)-(b.2-a.2)*(c.1-a.1)
def pC:List P2→List AV
 | []=>[]
 |p::l=>.str (aw p.1)::.str (aw p.2)::pC l
theorem vm:∀l:List P2,(pC l).length=l.length*2
 | []=>rfl
 |_::l=>by simp only[pC,List.length_cons,vm l];omega
theorem dQ:∀l:List P2,AV.aeG (pC l)=true
 | []=>rfl
 |p::l=>by simp[pC,AV.aeG,AV.closed,dQ l]
theorem dV(n:Nat):∀l:List P2,AV.aeR n (pC l)=[]
 | []=>rfl
 |p::l=>by simp[pC,AV.aeR,AV.refs,dV n l]
theorem gA(f:Nat→Option Nat)(l:List P2):AV.aeM f (pC l)=pC l:=bQ (dQ l)
theorem WZ:pC []=[]:=rfl
theorem Bk(f:Nat→Bool):∀l:List P2,AV.aeB f (pC l)=true
 | []=>rfl
 |p::l=>by simp[pC,AV.aeB,AV.y9,Bk f l]
theorem Bj:∀l r:List P2,pC (l++r)=pC l++pC r
 | [],_=>rfl
 |p::l,r=>by simp[pC,Bj l r]
theorem SQ:∀(l:List P2) (i:Nat),(pC l).drop (i*2)=pC (l.drop i)
 |l,0=>by simp
 | [],i+1=>by simp[pC]
 |p::l,i+1=>by
  have:(i+1)*2=i*2+1+1:=by omega
  rw[this];simp only[pC,List.drop_succ_cons];exact SQ l i
theorem MJ{l:List P2}{p:P2}(h:l[i]? =some p):
  ((pC l).drop (i*2)).take 2=[.str (aw p.1),.str (aw p.2)]∧(pC l)[i*2]? =some (.str (aw p.1))∧(pC l)[i*2+1]? =some (.str (aw p.2))∧i*2+2≤(pC l).length:=by
 have A':=(gL h);have hd:l.drop i=p::l.drop (i+1):=by rw[List.getElem?_eq_some_iff] at h;obtain⟨h1,h2⟩:=h;rw[←h2];exact List.drop_eq_getElem_cons h1
 have e:=SQ l i;rw[hd] at e;refine⟨by rw[e];rfl,?_,?_,by rw[vm];omega⟩
 ·have:(pC l)[i*2]? =((pC l).drop (i*2))[0]? :=by rw[List.getElem?_drop];rfl
  rw[this,e];rfl
 ·have:(pC l)[i*2+1]? =((pC l).drop (i*2))[1]? :=by rw[List.getElem?_drop]
  rw[this,e];rfl
abbrev Tr:=Nat×Nat×Nat
def tC:List Tr→List AV
 | []=>[]
 |t::l=>.int .i64 (t.1:Int)::.int .i64 (t.2.1:Int)::.int .i64 (t.2.2:Int)::tC l
theorem BC:∀l:List Tr,(tC l).length=l.length*3
 | []=>rfl
 |_::l=>by simp only[tC,List.length_cons,BC l];omega
theorem fJ:∀l:List Tr,AV.aeG (tC l)=true
 | []=>rfl
 |p::l=>by simp[tC,AV.aeG,AV.closed,fJ l]
theorem eO(n:Nat):∀l:List Tr,AV.aeR n (tC l)=[]
 | []=>rfl
 |p::l=>by simp[tC,AV.aeR,AV.refs,eO n l]
theorem iS(f:Nat→Option Nat)(l:List Tr):AV.aeM f (tC l)=tC l:=bQ (fJ l)
theorem wW(f:Nat→Bool):∀l:List Tr,AV.aeB f (tC l)=true
 | []=>rfl
 |p::l=>by simp[tC,AV.aeB,AV.y9,wW f l]
theorem Te:∀(l:List Tr) (i:Nat),(tC l).drop (i*3)=tC (l.drop i)
 |l,0=>by simp
 | [],i+1=>by simp[tC]
 |p::l,i+1=>by
  have:(i+1)*3=i*3+1+1+1:=by omega
  rw[this];simp only[tC,List.drop_succ_cons];exact Te l i
theorem U8{l:List Tr}{t:Tr}(h:l[i]? =some t):
  ((tC l).drop (i*3)).take 3=[.int .i64 (t.1:Int),.int .i64 (t.2.1:Int),.int .i64 (t.2.2:Int)]∧i*3+3≤(tC l).length:=by
 have A':=(gL h);have hd:l.drop i=t::l.drop (i+1):=by rw[List.getElem?_eq_some_iff] at h;obtain⟨h1,h2⟩:=h;rw[←h2];exact List.drop_eq_getElem_cons h1
 have e:=Te l i;rw[hd] at e;exact⟨by rw[e];rfl,by rw[BC];omega⟩
def pmE(p:P2):AV×AV:=(pA p,.bool true)
theorem Fx(n:Nat):∀l:List P2,(l.map pmE).flatMap (fun e=>e.1.refs n++e.2.refs n)=[]
 | []=>rfl
 |p::l=>by simp[pmE,pA,AV.refs,AV.aeR,Fx n l]
def sqI:List (Int×Int):=[(0,0),(4,0),(4,4),(0,4)]
def dx:Nat→List (Int×Int)
 |0=>sqI
 |1=>sqI
 |2=>[(0,0),(4,0),(4,4),(0,4),(2,1)]
 |3=>[(0,0),(6,0),(0,4)]
 |4=>[(0,0),(2,0),(4,0),(0,2),(2,2),(4,2)]
 |5=>[(1,4),(5,3),(4,0),(0,0)]
 |6=>[(0,0),(4,0),(4,4),(0,4),(2,0)]
 |_=>[(0,0),(6,0),(0,6),(2,2)]
def bD:Nat→List Tr
 |0=>[(0,1,2),(0,2,3)]
 |1=>[(0,1,3),(1,2,3)]
 |2=>[(0,1,4),(1,2,4),(2,3,4),(3,0,4)]
 |3=>[(2,0,1)]
 |4=>[(0,1,4),(0,4,3),(1,2,5),(1,5,4)]
 |5=>[(3,2,1),(3,1,0)]
 |6=>[(0,4,3),(4,2,3),(4,1,2)]
 |_=>[(0,1,3),(1,2,3),(2,0,3)]
def lh:Nat→List Nat
 |2=>[0,1,2,3]
 |3=>[0,1,2]
 |4=>[0,1,2,5,4,3]
 |5=>[0,3,2,1]
 |6=>[0,4,1,2,3]
 |7=>[0,1,2]
 |_=>[0,1,2,3]
def iP:List (Int×Int)→List AV
 | []=>[]
 |p::l=>.int .i64 p.1::.int .i64 p.2::iP l
theorem J7:∀l:List (Int×Int),(iP l).length=l.length*2
 | []=>rfl
 |_::l=>by simp only[iP,List.length_cons,J7 l];omega
theorem Ms(n:Nat):∀l:List (Int×Int),AV.aeR n (iP l)=[]
 | []=>rfl
 |p::l=>by simp[iP,AV.aeR,AV.refs,Ms n l]
theorem J6:∀l:List (Int×Int),AV.aeG (iP l)=true
 | []=>rfl
 |p::l=>by simp[iP,AV.aeG,AV.closed,J6 l]
theorem R9(f:Nat→Option Nat)(l:List (Int×Int)):AV.aeM f (iP l)=iP l:=bQ (J6 l)
theorem R8:∀(l:List (Int×Int)) (i:Nat),(iP l).drop (i*2)=iP (l.drop i)
 |l,0=>by simp
 | [],i+1=>by simp[iP]
 |p::l,i+1=>by
  have:(i+1)*2=i*2+1+1:=by omega
  rw[this];simp only[iP,List.drop_succ_cons];exact R8 l i
theorem Xx{l:List (Int×Int)}{p:Int×Int}(h:l[i]? =some p):
  (iP l)[i*2]? =some (.int .i64 p.1)∧(iP l)[i*2+1]? =some (.int .i64 p.2)∧i*2+2≤(iP l).length:=by
 have A':=(gL h);have hd:l.drop i=p::l.drop (i+1):=by rw[List.getElem?_eq_some_iff] at h;obtain⟨h1,h2⟩:=h;rw[←h2];exact List.drop_eq_getElem_cons h1
 have e:=R8 l i;rw[hd] at e;refine⟨?_,?_,by rw[J7];omega⟩
 ·have:(iP l)[i*2]? =((iP l).drop (i*2))[0]? :=by rw[List.getElem?_drop];rfl
  rw[this,e];rfl
 ·have:(iP l)[i*2+1]? =((iP l).drop (i*2))[1]? :=by rw[List.getElem?_drop]
  rw[this,e];rfl
structure aeE where
 kind:Nat
 sx:Int
 sy:Int
 half:Bool
structure aeE.Ok (s:aeE):Prop where
 kind:s.kind<256
 x0: -128≤s.sx
 x1:s.sx≤127
 y0: -128≤s.sy
 y1:s.sy≤127
def aeE.av(s:aeE):AV:=.agg [.int .u8 s.kind,.int .i8 s.sx,.int .i8 s.sy,.bool s.half]
def aeE.pt(s:aeE) (k:Nat) (x y:Int):P2:=
 (mkRat (x+s.sx.tmod 8*k) ((if s.half then 2 else 1)*k),mkRat (y+s.sy.tmod 8*k) ((if s.half then 2 else 1)*k))
def aeE.P(s:aeE):List P2:=(dx (s.kind%8)).map fun p=>s.pt 1 p.1 p.2
def aeE.T(s:aeE):List Tr:=bD (s.kind%8)
theorem Tj{n:Int}(h0: -128≤n)(h1:n≤127):IntKind.i8.wrap n=n:=by simp only[IntKind.wrap,IntKind.bits,IntKind.signed,Bool.true_and];split<;>simp_all<;>omega
theorem CA(x:Int): -7≤x.tmod 8∧x.tmod 8≤7:=by
 have h1:=Int.tmod_lt_of_pos x (show(0:Int)<8 by decide);have h2: -8<x.tmod 8:=by have:=Int.tmod_lt_of_pos (-x) (show(0:Int)<8 by decide);rw[Int.neg_tmod] at this;omega
 omega
def qC(Q:List Rat):List AV:=Q.map fun q=>.str (aw q)
theorem Kv(Q:List Rat):(qC Q).length=Q.length:=by simp[qC]
theorem jJ:∀Q:List Rat,AV.aeG (qC Q)=true
 | []=>rfl
 |q::Q=>by have:=jJ Q;simp only[qC] at this;simp[qC,AV.aeG,AV.closed,this]
theorem gg(n:Nat):∀Q:List Rat,AV.aeR n (qC Q)=[]
 | []=>rfl
 |q::Q=>by have:=gg n Q;simp only[qC] at this;simp[qC,AV.aeR,AV.refs,this]
theorem Kw(f:Nat→Bool):∀Q:List Rat,AV.aeB f (qC Q)=true
 | []=>rfl
 |q::Q=>by have:=Kw f Q;simp only[qC] at this;simp[qC,AV.aeB,AV.y9,this]
theorem eJ(f:Nat→Option Nat)(Q:List Rat):AV.aeM f (qC Q)=qC Q:=bQ (jJ Q)
theorem W2{Q:List Rat}(h:Q[i]? =some q):(qC Q)[i]? =some (.str (aw q)):=by simp[qC,h]
structure aeN where
 kind:Nat
 A:Int×Int×Int
 B:Int×Int×Int
 N:Int
 K:Nat×Nat×Nat×Nat
def aeN.cells(d:aeN):List AV:=[.int .u8 d.kind,.int .i8 d.A.1,.int .i8 d.A.2.1,.int .i8 d.A.2.2,.int .i8 d.B.1,.int .i8 d.B.2.1,.int .i8 d.B.2.2,.int .i8 d.N,.int .u8 d.K.1,.int .u8 d.K.2.1,.int .u8 d.K.2.2.1,.int .u8 d.K.2.2.2]
def yY(n:Int):Prop:= -128≤n∧n≤127
def UB(v:Int×Int×Int):Prop:=yY v.1∧yY v.2.1∧yY v.2.2
def Xe(v:Nat×Nat×Nat×Nat):Prop:=v.1<256∧v.2.1<256∧v.2.2.1<256∧v.2.2.2<256
structure aeN.Ok (d:aeN):Prop where
 kind:d.kind<256
 A:UB d.A
 B:UB d.B
 N:yY d.N
 K:Xe d.K
def Vo(v:Int×Int×Int) (k:Nat):Int:=if k=0 then v.1 else if k=1 then v.2.1 else v.2.2
def Kp(v:Nat×Nat×Nat×Nat) (k:Nat):Nat:=if k=0 then v.1 else if k=1 then v.2.1 else if k=2 then v.2.2.1 else v.2.2.2
def hQ(z:Int):Rat:=mkRat z 2
theorem xq(z:Int):hQ z=(z:Rat) / 2:=by unfold hQ;rw[Rat.mkRat_eq_div];rfl
theorem WL(n a:Int):(n:Rat)+hQ a=hQ (2*n+a):=by
 rw[xq,xq,Rat.intCast_add,Rat.intCast_mul];have:((2:Int):Rat)=2:=rfl;rw[this]
 grind
theorem Vh(a b:Int):hQ a+hQ b=hQ (a+b):=by
 rw[xq,xq,xq,Rat.intCast_add]
 grind
theorem Xw{a b:Int}(h:a≤b):hQ a≤hQ b:=by
 rw[xq,xq];have:(a:Rat)≤(b:Rat):=by exact_mod_cast h
 grind
variable{z:Int}
theorem R6(h:z.natAbs<1000):dg 3 1 (hQ z):=ra (by decide) h (by decide)
theorem AT(h:z.natAbs<1000):(aw (hQ z)).length≤9:=by have h1:=R6 h;have h2:big 3 (hQ z):=⟨h1.1,by have:=h1.2;omega⟩;have:=C8 (by decide) h2;omega
def Mb(d:aeN) (k:Nat):Int:=2*d.N.tmod 4+(Vo d.A (k%3)).tmod 3
def bE(d:aeN) (n:Nat):List Int:=(List.range n).map (Mb d)
theorem Pp(d:aeN)(n:Nat):bE d (n+1)=bE d n++[Mb d n]:=by simp[bE,List.range_succ]
theorem dG(d:aeN)(n:Nat):(bE d n).length=n:=by simp[bE]
def KK(d:aeN) (j k:Nat):Int:=((Kp d.K ((j+k)%4)%4:Nat):Int)
def cg(d:aeN) (j:Nat) (L:List Int) (n:Nat):List Int:=(List.range n).map fun k=>L.getD k 0+KK d j k
theorem DL(d:aeN)(j:Nat)(L:List Int)(n:Nat):cg d j L (n+1)=cg d j L n++[L.getD n 0+KK d j n]:=by simp[cg,List.range_succ]
theorem eh(d:aeN)(j:Nat)(L:List Int)(n:Nat):(cg d j L n).length=n:=by simp[cg]
def qH(Z:List Int):List Rat:=Z.map hQ
theorem nv(x:Int)(k:Nat)(hk:0<k): -(k:Int)<x.tmod k∧x.tmod k<k:=by have h1:=Int.tmod_lt_of_pos x (show(0:Int)<(k:Int) by omega);have h2:=Int.tmod_lt_of_pos (-x) (show(0:Int)<(k:Int) by omega);rw[Int.neg_tmod] at h2;omega
end Go.Eng
