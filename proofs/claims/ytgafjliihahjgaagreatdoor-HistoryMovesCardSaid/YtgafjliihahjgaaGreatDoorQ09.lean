/- See Q54. -/
import Derived.Test.YtgafjliihahjgaaGreatDoorQ07
import Derived.Lib.Atoi
import Derived.Lib.Strings
import Derived.Lib.Bytealg
import Derived.Lib.IndexLaws
set_option linter.all false
namespace Go.Eng
def O0(k:Nat):UInt8:=UInt8.ofNat (48+k)
def isD(c:UInt8):Bool:=decide (48≤c.toNat)&&decide (c.toNat≤57)
def Rt:Nat→Nat→List UInt8→List UInt8
 |0,_,acc=>acc
 |f+1,u,acc=>if u<10 then O0 u::acc else Rt f (u / 10) (O0 (u%10)::acc)
def aJ(u:Nat):List UInt8:=Rt (u.log2+1) u []
theorem KV:∀(f u:Nat) (acc:List UInt8),u<2 ^ f→0<f→Rt f u acc=Lib.decDigits u++acc
 |0,u,acc,_,h=>by omega
 |f+1,u,acc,h,_=>by
  unfold Rt;by_cases h10:u<10
  ·rw[if_pos h10,Lib.decDigits,dif_pos h10];rfl
  ·rw[if_neg h10,Lib.decDigits,dif_neg h10]
   have hf:0<f:=by
    cases f with
    |zero=>simp at h;omega
    |succ f=>omega
   rw[KV f (u / 10) _ (by rw[Nat.pow_succ] at h;omega) hf];simp[O0]
theorem ru(u:Nat):aJ u=Lib.decDigits u:=by unfold aJ;rw[KV _ _ _ Nat.lt_log2_self (by omega)];simp
theorem ij{u:Nat}(h:u<10):aJ u=[O0 u]:=by rw[ru,Lib.decDigits,dif_pos h];rfl
theorem pB{u:Nat}(h:¬u<10):aJ u=aJ (u / 10)++[O0 (u%10)]:=by
 have e:Lib.decDigits u=Lib.decDigits (u / 10)++[UInt8.ofNat (48+u%10)]:=by
  conv=>lhs;rw[Lib.decDigits]
  rw[dif_neg h]
 unfold O0;rw[ru u,ru (u / 10),e]
def uN(a:Nat) (l:List UInt8):Nat:=l.foldl (fun a c=>10*a+(c.toNat-48)) a
theorem fA(a:Nat):uN a []=a:=by unfold uN;rw[List.foldl_nil]
theorem eL(a:Nat) (c:UInt8) (r:List UInt8):uN a (c::r)=uN (10*a+(c.toNat-48)) r:=by unfold uN;rw[List.foldl_cons]
def jK(l:List UInt8):Nat:=uN 0 l
theorem zL:∀(l r:List UInt8) (a:Nat),uN a (l++r)=uN (uN a l) r
 | [],_,a=>by rw[List.nil_append,fA]
 |c::l,r,a=>by rw[List.cons_append,eL,eL,zL l r]
theorem tf(l:List UInt8) (c:UInt8):jK (l++[c])=10*jK l+(c.toNat-48):=by unfold jK;rw[zL,eL,fA]
theorem pg{k:Nat}(h:k<10):(O0 k).toNat=48+k:=by unfold O0;simp[UInt8.toNat_ofNat'];omega
theorem KK{k:Nat}(h:k<10):isD (O0 k)=true:=by unfold isD;rw[pg h];simp;omega
theorem yP{c:UInt8}(h:isD c=true):O0 (c.toNat-48)=c:=by unfold isD at h;simp only[Bool.and_eq_true,decide_eq_true_eq] at h;unfold O0;apply UInt8.toNat_inj.1;simp[UInt8.toNat_ofNat'];omega
theorem vd{c:UInt8}(h:isD c=true):c.toNat-48<10:=by unfold isD at h;simp only[Bool.and_eq_true,decide_eq_true_eq] at h;omega
theorem sO{p:Nat→Prop}(h0:∀u,u<10→p u) (h1:∀u,¬u<10→p (u / 10)→p u) (u:Nat):p u:=by
 induction u using Nat.strongRecOn with
 |_ u ih=>
  by_cases h:u<10
  ·exact h0 u h
  ·exact h1 u h (ih (u / 10) (by omega))
theorem ff(u:Nat):jK (aJ u)=u:=by
 induction u using sO with
 |h0 u h=>
  rw[ij h];unfold jK;rw[eL,fA,pg h];omega
 |h1 u h ih=>rw[pB h,tf,ih,pg (by omega)];omega
theorem fy(u:Nat):(aJ u).all isD=true:=by
 induction u using sO with
 |h0 u h=>rw[ij h];simp[KK h]
 |h1 u h ih=>rw[pB h,List.all_append,ih];simp[KK (show u%10<10 by omega)]
theorem oF(u:Nat):aJ u≠[]:=by
 induction u using sO with
 |h0 u h=>rw[ij h];simp
 |h1 u h ih=>rw[pB h];simp
theorem sQ(u:Nat):0<(aJ u).length:=List.length_pos_iff.2 (oF u)
theorem HO(u:Nat) (hu:0<u):(aJ u).head? ≠some 48:=by
 induction u using sO with
 |h0 u h=>
  rw[ij h];simp only[List.head?_cons,ne_eq,Option.some.injEq];intro e;have:=congrArg UInt8.toNat e;rw[pg h] at this;simp at this;omega
 |h1 u h ih=>
  rw[pB h,List.head?_append];have:=ih (by omega);cases hh:(aJ (u / 10)).head? with
  |none=>exact absurd (List.head?_eq_none_iff.1 hh) (oF _)
  |some x=>rw[hh] at this;simpa using this
theorem oG:aJ 0=[48]:=by rw[ij (by omega)];rfl
def iG(l:List UInt8):Bool:=match l with
 | []=>false
 |c::r=>isD c&&r.all isD&&(!(c==48)||r.isEmpty)
theorem JO(u:Nat):iG (aJ u)=true:=by
 have h1:=fy u;have h2:=oF u;by_cases hu:u=0
 ·subst hu;rw[oG];rfl
 ·have h3:=HO u (by omega)
  cases hl:aJ u with
  |nil=>exact absurd hl h2
  |cons c r=>
   rw[hl] at h1 h3;simp only[List.all_cons,Bool.and_eq_true] at h1;simp only[List.head?_cons,ne_eq,Option.some.injEq] at h3;simp[iG,h1.1,h1.2,h3]
theorem JN{l:List UInt8}{c:UInt8}(hl:l≠[]) (h:iG (l++[c])=true):iG l=true∧isD c=true∧l≠[48]:=by
 cases l with
 |nil=>exact absurd rfl hl
 |cons x r=>
  simp only[List.cons_append,iG,List.all_append,List.all_cons,List.all_nil,Bool.and_true,Bool.and_eq_true] at h;obtain⟨⟨h1,h2,h3⟩,h4⟩:=h;have h5:(x==48)=false:=by
   cases hx:x==48 with
   |false=>rfl
   |true=>rw[hx] at h4;simp at h4
  refine⟨by simp[iG,h1,h2,h5],h3,?_⟩;intro e;cases e;simp at h5
theorem SD{p:List UInt8→Prop}(h0:p []) (h1:∀l c,p l→p (l++[c])) (l:List UInt8):p l:=by
 have:∀n (l:List UInt8),l.length=n→p l:=by
  intro n;induction n with
  |zero=>intro l hl;rw[List.eq_nil_of_length_eq_zero hl];exact h0
  |succ n ih=>
   intro l hl;have hne:l≠[]:=by intro e;rw[e] at hl;simp at hl
   rw[←List.dropLast_concat_getLast hne];exact h1 _ _ (ih _ (by simp[hl]))
 exact this _ l rfl
theorem zl{l:List UInt8}(h:iG l=true):aJ (jK l)=l:=by
 induction l using SD with
 |h0=>cases h
 |h1 l c ih=>
  by_cases hl:l=[]
  ·subst hl
   simp only[List.nil_append,iG,List.all_nil,Bool.and_true,List.isEmpty_nil,Bool.or_true] at h;unfold jK;rw[List.nil_append,eL,fA,Nat.mul_zero,Nat.zero_add,ij (vd h),yP h]
  ·obtain⟨h1,h2,h3⟩:=JN hl h
   have hi:=ih h1;have hv:jK l≠0:=by intro e;rw[e,oG] at hi;exact h3 hi.symm
   have hd:=vd h2;rw[tf,pB (by omega),show(10*jK l+(c.toNat-48)) / 10=jK l by omega,show(10*jK l+(c.toNat-48))%10=c.toNat-48 by omega,hi,yP h2]
def xk(l:List UInt8):Option Nat:=if iG l then some (jK l) else none
theorem fe(u:Nat):xk (aJ u)=some u:=by unfold xk;rw[if_pos (JO u),ff]
theorem iH{l:List UInt8}{u:Nat}(h:xk l=some u):l=aJ u:=by
 unfold xk at h;split at h
 ·rename_i hc;cases h;exact(zl hc).symm
 ·cases h
theorem KW{u v:Nat}(h:aJ u=aJ v):u=v:=by rw[←ff u,h,ff]
theorem zp(u:Nat) (hu:0<u):10 ^ ((aJ u).length-1)≤u:=by
 induction u using sO with
 |h0 u h=>rw[ij h];simp;omega
 |h1 u h ih=>
  rw[pB h];have:=ih (by omega);have hp:=sQ (u / 10);simp only[List.length_append,List.length_singleton,Nat.add_sub_cancel];have e:10 ^ (aJ (u / 10)).length=10 ^ ((aJ (u / 10)).length-1)*10:=by rw[←Nat.pow_succ];congr 1;omega
  rw[e];omega
theorem dJ(u:Nat):u<10 ^ (aJ u).length:=by rw[ru,Lib.decDigits_length];exact Lib.lt_pow_nDigits u
theorem bf{u k:Nat}(hk:0<k) (h:u<10 ^ k):(aJ u).length≤k:=by
 by_cases hu:u=0
 ·subst hu;rw[oG];exact hk
 ·have h1:=zp u (by omega)
  have h2:10 ^ ((aJ u).length-1)<10 ^ k:=by omega
  have:=(Nat.pow_lt_pow_iff_right (by omega:1<10)).1 h2;omega
def bT(n:Int):List UInt8:=match n with
 |.ofNat u=>aJ u
 |.negSucc u=>45::aJ (u+1)
theorem Pe(n:Int):bT n=Lib.itoa n:=by
 unfold Lib.itoa;cases n with
 |ofNat u=>rw[if_neg (by simp)];simp[bT,ru]
 |negSucc u=>rw[if_pos (Int.negSucc_lt_zero u)];simp[bT,ru]
def nn(l:List UInt8):Option Int:=match l with
 |45::r=>match xk r with
  |some (u+1)=>some (.negSucc u)
  |_=>none
 |l=>match xk l with
  |some u=>some (.ofNat u)
  |none=>none
theorem mJ(u:Nat):(aJ u).head? ≠some 45:=by
 cases hl:aJ u with
 |nil=>simp
 |cons c r=>
  have:=fy u;rw[hl] at this;simp only[List.all_cons,Bool.and_eq_true] at this;simp only[List.head?_cons,ne_eq,Option.some.injEq];rintro rfl;exact absurd this.1 (by decide)
theorem cz(n:Int):nn (bT n)=some n:=by
 cases n with
 |ofNat u=>
  have h:=mJ u;simp only[bT];unfold nn;split
  ·rename_i r hr
   rw[hr] at h;simp at h
  ·rw[fe]
 |negSucc u=>simp[bT,nn,fe]
theorem dI{l:List UInt8}{n:Int}(h:nn l=some n):l=bT n:=by
 unfold nn at h;split at h
 ·split at h
  ·rename_i hr
   cases h;simp[bT,iH hr]
  ·cases h
 ·split at h
  ·rename_i hr
   cases h;simp[bT,iH hr]
  ·cases h
theorem Rh{m n:Int}(h:bT m=bT n):m=n:=by have:=cz m;rw[h,cz] at this;exact(Option.some.inj this).symm
theorem kU(n:Int):Lib.hasPrefix (bT n) [45]=decide (n<0):=by
 cases n with
 |ofNat u=>
  have h:=mJ u;simp only[bT];cases hl:aJ u with
  |nil=>exact absurd hl (oF u)
  |cons c r=>
   rw[hl] at h;simp only[List.head?_cons,ne_eq,Option.some.injEq] at h;rw[show decide (Int.ofNat u<0)=false by simp];have h' :¬(45:UInt8)=c:=fun e=>h e.symm
   simp[Lib.hasPrefix,List.isPrefixOf,h']
 |negSucc u=>simp[bT,Lib.hasPrefix,List.isPrefixOf,Int.negSucc_lt_zero]
theorem jJ(n:Int):Lib.trimPrefix (bT n) [45]=aJ n.natAbs:=by
 unfold Lib.trimPrefix;rw[kU];cases n with
 |ofNat u=>
  rw[show decide (Int.ofNat u<0)=false by simp];rfl
 |negSucc u=>simp[bT,Int.negSucc_lt_zero,Int.natAbs]
theorem Hu{c:UInt8}(h:isD c=true):Lib.digitVal c=some (c.toNat-48):=by unfold isD at h;simp only[Bool.and_eq_true,decide_eq_true_eq] at h;unfold Lib.digitVal;rw[if_pos h]
theorem u7:∀(l:List UInt8) (a:Nat),l.all isD=true→Lib.decFrom a l=some (uN a l)
 | [],a,_=>by rw[fA];rfl
 |c::r,a,h=>by simp only[List.all_cons,Bool.and_eq_true] at h;unfold Lib.decFrom;rw[Hu h.1,eL];simp only;rw[u7 r _ h.2,Nat.mul_comm]
theorem yO(u:Nat):Lib.decNat (aJ u)=some u:=by
 unfold Lib.decNat
 have h:(aJ u).isEmpty=false:=by
  cases hl:aJ u with
  |nil=>exact absurd hl (oF u)
  |cons=>rfl
 rw[h];simp only[Bool.false_eq_true,if_false];rw[u7 _ _ (fy u)];exact congrArg some (ff u)
theorem lD(n:Int):Lib.atoi (bT n)=some n:=by
 cases n with
 |ofNat u=>
  have h1:=mJ u;have h2:=fy u;have h3:=yO u;simp only[bT];cases hl:aJ u with
  |nil=>exact absurd hl (oF u)
  |cons c r=>
   rw[hl] at h1 h2 h3;simp only[List.head?_cons,ne_eq,Option.some.injEq] at h1;simp only[List.all_cons,Bool.and_eq_true] at h2;have hc:¬c=43:=by rintro rfl;exact absurd h2.1 (by decide)
   simp[Lib.atoi,h1,hc,h3]
 |negSucc u=>
  simp[bT,Lib.atoi,yO,Int.negSucc_eq]
theorem lM{u v:Nat}(h:(aJ u).length<(aJ v).length):u<v:=by
 have h1:=dJ u;have hv:0<v:=by
  by_cases hv:v=0
  ·subst hv
   rw[oG] at h;have:=sQ u;simp only[List.length_singleton] at h;omega
  ·omega
 have h2:=zp v hv;have h3:10 ^ (aJ u).length≤10 ^ ((aJ v).length-1):=Nat.pow_le_pow_right (by omega) (by omega);exact Nat.lt_of_lt_of_le h1 (Nat.le_trans h3 h2)
def Hp(u v:Nat):Int:=if u<v then -1 else if v<u then 1 else 0
theorem rG:∀(l:List UInt8) (a:Nat),l.all isD=true→uN a l<(a+1)*10 ^ l.length
 | [],a,_=>by rw[fA];simp
 |c::r,a,h=>by simp only[List.all_cons,Bool.and_eq_true] at h;have hd:=vd h.1;have:=rG r (10*a+(c.toNat-48)) h.2;rw[eL];refine Nat.lt_of_lt_of_le this ?_;rw[List.length_cons,Nat.pow_succ,Nat.mul_comm (10 ^ r.length) 10,←Nat.mul_assoc];exact Nat.mul_le_mul_right _ (by omega)
theorem Pp:∀(l:List UInt8) (a:Nat),a*10 ^ l.length≤uN a l
 | [],a=>by rw[fA];simp
 |c::r,a=>by have:=Pp r (10*a+(c.toNat-48));rw[eL];refine Nat.le_trans ?_ this;rw[List.length_cons,Nat.pow_succ,Nat.mul_comm (10 ^ r.length) 10,←Nat.mul_assoc];exact Nat.mul_le_mul_right _ (by omega)
theorem lG:∀(l r:List UInt8) (a:Nat),l.length=r.length→l.all isD=true→r.all isD=true→Lib.compareBytes l r=Hp (uN a l) (uN a r)
 | [],[],a,_,_,_=>by
  rw[fA];show(0:Int)=Hp a a
  unfold Hp;rw[if_neg (by omega),if_neg (by omega)]
 | [],_::_,_,h,_,_=>by simp at h
 |_::_,[],_,h,_,_=>by simp at h
 |c::l,d::r,a,h,h1,h2=>by
  simp only[List.length_cons,Nat.add_right_cancel_iff] at h;simp only[List.all_cons,Bool.and_eq_true] at h1 h2;have key:∀{x y:UInt8}{l r:List UInt8},isD x=true→isD y=true→l.all isD=true→l.length=r.length→x<y→uN (10*a+(x.toNat-48)) l<uN (10*a+(y.toNat-48)) r:=by intro x y l r hx hy hl hlr hxy;have e1:=rG l (10*a+(x.toNat-48)) hl;have e2:=Pp r (10*a+(y.toNat-48));have hxy' :x.toNat<y.toNat:=hxy;unfold isD at hx hy;simp only[Bool.and_eq_true,decide_eq_true_eq] at hx hy;rw[hlr] at e1;have:(10*a+(x.toNat-48)+1)*10 ^ r.length≤(10*a+(y.toNat-48))*10 ^ r.length:=Nat.mul_le_mul_right _ (by omega);omega
  unfold Lib.compareBytes;rw[eL,eL];by_cases hcd:c<d
  ·rw[if_pos hcd]
   have:=key h1.1 h2.1 h1.2 h hcd;unfold Hp;rw[if_pos this]
  ·rw[if_neg hcd]
   by_cases hdc:d<c
   ·rw[if_pos hdc]
    have:=key h2.1 h1.1 h2.2 h.symm hdc;unfold Hp;rw[if_neg (by omega),if_pos this]
   ·rw[if_neg hdc]
    have hn1:¬c.toNat<d.toNat:=hcd;have hn2:¬d.toNat<c.toNat:=hdc;have e:c.toNat=d.toNat:=by omega
    rw[e];exact lG l r _ h h1.2 h2.2
theorem um{u v:Nat}(h:(aJ u).length=(aJ v).length):Lib.compareBytes (aJ u) (aJ v)=Hp u v:=by
 have:=lG (aJ u) (aJ v) 0 h (fy u) (fy v);rw[this];show Hp (jK (aJ u)) (jK (aJ v))=_
 rw[ff,ff]
def kW(n:Int):Int:=if n<0 then -1 else if n=0 then 0 else 1
def Ho(m n:Int):Int:=if m<n then -1 else if n<m then 1 else 0
theorem Pf(n:Int):bT n=[48]↔n=0:=by
 constructor
 ·intro h;exact Rh (h.trans (by rfl))
 ·rintro rfl;rfl
theorem iX(n:Int):(bT n==[48])=decide (n=0):=by rw[Bool.eq_iff_iff];simp[Pf]
theorem ov(n:Int):0<(bT n).length:=by
 cases n with
 |ofNat u=>exact sQ u
 |negSucc u=>simp[bT]
theorem ow{n:Int}(h:0<n):bT (-n)=45::bT n:=by
 cases n with
 |ofNat u=>
  cases u with
  |zero=>simp at h
  |succ u=>rfl
 |negSucc u=>exact absurd h (by have:=Int.negSucc_lt_zero u;omega)
theorem De{n:Int}(h:n<0):(bT n).drop 1=bT (-n):=by have:=ow (n:= -n) (by omega);rw[Int.neg_neg] at this;rw[this];rfl
theorem mE{n:Int}(h:0≤n):bT n=aJ n.natAbs:=by
 cases n with
 |ofNat u=>rfl
 |negSucc u=>exact absurd h (by have:=Int.negSucc_lt_zero u;omega)
theorem R4(a b:Int):Ho a b=if kW a≠kW b then (if kW a<kW b then -1 else 1) else
  if (aJ a.natAbs).length≠(aJ b.natAbs).length then (if (aJ a.natAbs).length<(aJ b.natAbs).length then-kW a else kW a) else kW a*Hp a.natAbs b.natAbs:=by
 by_cases hs:kW a≠kW b
 ·rw[if_pos hs]
  unfold kW at hs ⊢;unfold Ho
  repeat' split
  all_goals first | rfl | omega
 ·rw[if_neg hs]
  by_cases hl:(aJ a.natAbs).length≠(aJ b.natAbs).length
  ·rw[if_pos hl]
   by_cases hlt:(aJ a.natAbs).length<(aJ b.natAbs).length
   ·rw[if_pos hlt]
    have:=lM hlt;unfold kW at hs ⊢;unfold Ho
    repeat' split
    all_goals first | rfl | omega
   ·rw[if_neg hlt]
    have:=lM (u:=b.natAbs) (v:=a.natAbs) (by omega);unfold kW at hs ⊢;unfold Ho
    repeat' split
    all_goals first | rfl | omega
  ·rw[if_neg hl]
   unfold kW at hs ⊢;unfold Ho Hp
   repeat' split
   all_goals first | rfl | omega
def ah(q:Rat):List UInt8:=if q.den=1 then bT q.num else bT q.num++47::aJ q.den
theorem sP(u:Nat):(47:UInt8)∉aJ u:=by intro h;have:=List.all_eq_true.1 (fy u) _ h;exact absurd this (by decide)
theorem iY(n:Int):(47:UInt8)∉bT n:=by
 cases n with
 |ofNat u=>exact sP u
 |negSucc u=>
  simp only[bT,List.mem_cons,not_or];exact⟨by decide,sP _⟩
theorem lK:∀(l:List UInt8) (c:UInt8),c∉l→Lib.indexByte l c= -1
 | [],_,_=>rfl
 |b::l,c,h=>by simp only[List.mem_cons,not_or] at h;unfold Lib.indexByte;rw[if_neg (by simpa using fun e=>h.1 e.symm),lK l c h.2];rfl
theorem vc:∀(l r:List UInt8) (c:UInt8),c∉l→Lib.indexByte (l++c::r) c=l.length
 | [],r,c,_=>by simp[Lib.indexByte]
 |b::l,r,c,h=>by
  simp only[List.mem_cons,not_or] at h;rw[List.cons_append];unfold Lib.indexByte;rw[if_neg (by simpa using fun e=>h.1 e.symm),vc l r c h.2];have hn:¬(((l.length:Int)== -1)=true):=by rw[beq_iff_eq];omega
  rw[if_neg hn];rfl
theorem AA(q:Rat):Lib.indexByte (ah q) 47=if q.den=1 then -1 else ((bT q.num).length:Int):=by
 unfold ah;split
 ·exact lK _ _ (iY _)
 ·exact vc _ _ _ (iY _)
def Nh(n:Int) (d:Nat):Option Rat:=if h:1<d∧n.natAbs.gcd d=1 then some ⟨n,d,by omega,h.2⟩ else none
def cV(l:List UInt8):Option Rat:=match l.idxOf? 47 with
 |none=>match nn l with
  |some n=>some ⟨n,1,by decide,Nat.gcd_one_right _⟩
  |none=>none
 |some i=>match nn (l.take i),xk (l.drop (i+1)) with
  |some n,some d=>Nh n d
  |_,_=>none
theorem MW{l:List UInt8}{c:UInt8}(h:c∉l):l.idxOf? c=none:=List.idxOf?_eq_none_iff.2 h
theorem Rf{l r:List UInt8}{c:UInt8}(h:c∉l):(l++c::r).idxOf? c=some l.length:=by rw[List.idxOf?_eq_some_iff];refine⟨by simp,by simp,fun j hj=>?_⟩;rw[List.getElem_append_left hj];intro e;exact h (e▸List.getElem_mem hj)
theorem ay(q:Rat):cV (ah q)=some q:=by
 unfold cV ah;by_cases h:q.den=1
 ·rw[if_pos h,MW (iY _)]
  simp only[cz];congr 1;apply Rat.ext
  ·rfl
  ·exact h.symm
 ·have h1:List.drop ((bT q.num).length+1) (bT q.num++47::aJ q.den)=aJ q.den:=by rw[List.drop_append];simp
  have h2:List.take (bT q.num).length (bT q.num++47::aJ q.den)=bT q.num:=List.take_left' rfl;have hd:1<q.den:=by have:=q.den_nz;omega
  have hr:q.num.natAbs.gcd q.den=1:=q.reduced;rw[if_neg h,Rf (iY _)];simp only;rw[h1,h2,cz,fe];simp only[Nh];rw[dif_pos ⟨hd,hr⟩]
theorem au{l:List UInt8}{q:Rat}(h:cV l=some q):l=ah q:=by
 unfold cV at h;split at h
 ·split at h
  ·rename_i n hn
   cases h;unfold ah;rw[if_pos rfl];exact dI hn
  ·cases h
 ·rename_i i hi
  split at h
  ·rename_i n d hn hd
   unfold Nh at h;split at h
   ·rename_i hc
    cases h;unfold ah;rw[if_neg (by show¬d=1;omega)];obtain⟨hlt,hget,_⟩:=List.idxOf?_eq_some_iff.1 hi;show l=bT n++47::aJ d
    rw[←dI hn,←iH hd];have:l.drop i=47::l.drop (i+1):=by rw[List.drop_eq_getElem_cons hlt,hget]
    rw[←this,List.take_append_drop]
   ·cases h
  ·cases h
theorem xm{p q:Rat}(h:ah p=ah q):p=q:=by have:=ay p;rw[h,ay] at this;exact(Option.some.inj this).symm
theorem H4(q:Rat):ah q=[48]↔q=0:=by
 constructor
 ·intro h;exact xm (h.trans (by rfl))
 ·rintro rfl;rfl
theorem bL(q:Rat):(ah q==[48])=decide (q=0):=by rw[Bool.eq_iff_iff];simp[H4]
theorem neg_num(q:Rat):(-q).num= -q.num:=rfl
theorem Sp(q:Rat):(-q).den=q.den:=rfl
theorem oO{q:Rat}(h:0<q.num):ah (-q)=45::ah q:=by unfold ah;rw[neg_num,Sp,ow h];split<;>rfl
theorem mK{q:Rat}(h:q.num<0):ah q=45::ah (-q):=by
 have:=oO (q:= -q) (by rw[neg_num];omega)
 rwa [Rat.neg_neg] at this
theorem xl{q:Rat}:q.num=0↔q=0:=by
 constructor
 ·intro h
  apply Rat.ext
  ·exact h
  ·have:=q.reduced
   rw[h] at this;simpa [Nat.Coprime] using this
 ·rintro rfl;rfl
theorem oM{q:Rat}(h:0≤q.num):∃c r,ah q=c::r∧isD c=true:=by
 have h1:∃c r,bT q.num=c::r∧isD c=true:=by
  rw[mE h];have:=fy q.num.natAbs;cases hl:aJ q.num.natAbs with
  |nil=>exact absurd hl (oF _)
  |cons c r=>
   rw[hl] at this;simp only[List.all_cons,Bool.and_eq_true] at this;exact⟨c,r,rfl,this.1⟩
 obtain⟨c,r,e,hc⟩:=h1;unfold ah;split
 ·exact⟨c,r,e,hc⟩
 ·exact⟨c,r++47::aJ q.den,by rw[e];rfl,hc⟩
theorem fJ{c:UInt8}(h:isD c=true):¬((c.toNat:Int)=45):=by unfold isD at h;simp only[Bool.and_eq_true,decide_eq_true_eq] at h;omega
def Ko(q:Rat):Int:=kW q.num
def big(k:Nat) (q:Rat):Prop:=q.num.natAbs<10 ^ k∧q.den<10 ^ k
theorem big.mono{k m:Nat}{q:Rat}(h:big k q) (hm:k≤m):big m q:=by have:10 ^ k≤10 ^ m:=Nat.pow_le_pow_right (by omega) hm;exact⟨by have:=h.1;omega,by have:=h.2;omega⟩
theorem Rr(n:Int) {d:Nat}(hd:d≠0):(mkRat n d).num.natAbs≤n.natAbs∧(mkRat n d).den≤d:=by rw[Rat.num_mkRat,Rat.den_mkRat,if_neg hd,if_neg hd];refine⟨?_,Nat.div_le_self _ _⟩;exact Int.natAbs_ediv_le_natAbs _ _
theorem ef(n:Int):(bT n).length≤(aJ n.natAbs).length+1:=by
 cases n with
 |ofNat u=>simp[bT]
 |negSucc u=>simp[bT]
theorem Ba{k:Nat}(hk:0<k) {q:Rat}(h:big k q):(ah q).length≤2*k+2:=by
 have h1:=bf hk h.1;have h2:=bf hk h.2;have h3:=ef q.num;unfold ah;split
 ·omega
 ·simp only[List.length_append,List.length_cons];omega
theorem CY{k:Nat}{q:Rat}(h:(ah q).length≤k):big k q:=by
 have h1:=dJ q.num.natAbs;have h2:=dJ q.den;have h3:(aJ q.num.natAbs).length≤(bT q.num).length:=by
  cases q.num with
  |ofNat u=>exact Nat.le_refl _
  |negSucc u=>simp[bT]
 have hp:=ov q.num;have h4:(aJ q.num.natAbs).length≤k∧(aJ q.den).length≤k:=by
  unfold ah at h;split at h
  ·rename_i hd
   refine⟨by omega,?_⟩;rw[hd];show 1≤k
   omega
  ·simp only[List.length_append,List.length_cons] at h
   omega
 have h5:10 ^ (aJ q.num.natAbs).length≤10 ^ k:=Nat.pow_le_pow_right (by omega) h4.1;have h6:10 ^ (aJ q.den).length≤10 ^ k:=Nat.pow_le_pow_right (by omega) h4.2;exact⟨by omega,by omega⟩
def asc:List (Rat×Rat)→Prop
 |a::b::l=>a.1<b.1∧asc (b::l)
 |_=>True
def bh(l:List (Rat×Rat)) (u:Rat):Nat:=match l with
 | []=>0
 |k::r=>(if k.1≤u then 1 else 0)+bh r u
def zH(a b:Rat×Rat):Rat:=(b.2-a.2) / (b.1-a.1)
def jO(l:List (Rat×Rat)) (n:Nat):Rat×Rat:=
 if l=[] then (0,0) else if n=0 then ((l.getD 0 (0,0)).2,0) else if n=l.length then ((l.getD (n-1) (0,0)).2,0) else
  ((l.getD (n-1) (0,0)).2-zH (l.getD (n-1) (0,0)) (l.getD n (0,0))*(l.getD (n-1) (0,0)).1,zH (l.getD (n-1) (0,0)) (l.getD n (0,0)))
def dM(l:List (Rat×Rat)) (u:Rat):Rat:=(jO l (bh l u)).1+(jO l (bh l u)).2*u
theorem CW{a:Rat×Rat}{l:List (Rat×Rat)}(h:asc (a::l)):asc l:=by
 cases l with
 |nil=>trivial
 |cons b l=>exact h.2
theorem iq(l:List (Rat×Rat)) (u:Rat):bh l u≤l.length:=by
 induction l with
 |nil=>exact Nat.le_refl _
 |cons k r ih=>simp only[bh,List.length_cons];split<;>omega
theorem oL{l:List (Rat×Rat)}{u:Rat}(h:asc l) (h0:∀a∈l.head?,u<a.1):bh l u=0:=by
 induction l with
 |nil=>rfl
 |cons k r ih=>
  have hk:u<k.1:=h0 k (by simp);have:¬k.1≤u:=Rat.not_le.2 hk;simp only[bh,if_neg this];rw[ih (CW h) ?_];intro a ha;cases r with
  |nil=>simp at ha
  |cons b r=>
   simp at ha;subst ha;have:=h.1
   grind
theorem M4{a:Rat×Rat}{l:List (Rat×Rat)}{n:Nat}(hl:l≠[]) (hn:n≠0):jO (a::l) (n+1)=jO l n:=by
 obtain⟨m,rfl⟩:∃m,n=m+1:=⟨n-1,by omega⟩
 unfold jO;simp[hl]
theorem Kv{a b:Rat×Rat}{l:List (Rat×Rat)}{u:Rat}(h:asc (a::b::l)) (hu:b.1≤u):dM (a::b::l) u=dM (b::l) u:=by
 have ha:a.1≤u:=by have:=h.1;grind
 have e:bh (a::b::l) u=bh (b::l) u+1:=by rw[bh,if_pos ha,Nat.add_comm]
 have hn:bh (b::l) u≠0:=by rw[bh,if_pos hu];omega
 unfold dM;rw[e,M4 (by simp) hn]
theorem Ip{a b:Rat×Rat}{l:List (Rat×Rat)}{u:Rat}(h:asc (a::b::l)) (ha:a.1≤u) (hu:u<b.1):dM (a::b::l) u=a.2+(u-a.1) / (b.1-a.1)*(b.2-a.2):=by
 have e:bh (a::b::l) u=1:=by rw[bh,if_pos ha,oL (CW h) (by simpa using hu)]
 have hd:b.1-a.1≠0:=by have:=h.1;grind
 unfold dM;rw[e];have e2:jO (a::b::l) 1=(a.2-zH a b*a.1,zH a b):=by simp[jO]
 rw[e2];simp only[zH,Rat.div_def]
 grind
theorem dX{x y:Int}{a b:Nat}(h1:x.natAbs<a) (h2:y.natAbs<b):(x*y).natAbs<a*b:=by rw[Int.natAbs_mul];exact Nat.mul_lt_mul'' h1 h2
def dg(n d:Nat) (q:Rat):Prop:=q.num.natAbs<10 ^ n∧q.den<10 ^ d
theorem dg.mono{n d n' d' :Nat}{q:Rat}(h:dg n d q) (hn:n≤n') (hd:d≤d'):dg n' d' q:=by have h1:10 ^ n≤10 ^ n' :=Nat.pow_le_pow_right (by omega) hn;have h2:10 ^ d≤10 ^ d' :=Nat.pow_le_pow_right (by omega) hd;exact⟨by have:=h.1;omega,by have:=h.2;omega⟩
theorem pf{n d:Nat}{x:Int}{y:Nat}(hy:y≠0) (h1:x.natAbs<10 ^ n) (h2:y<10 ^ d):dg n d (mkRat x y):=by have:=Rr x hy;exact⟨by omega,by omega⟩
theorem lL{a b k m:Nat}(h1:a<10 ^ k) (h2:b<10 ^ m):a*b<10 ^ (k+m):=by rw[Nat.pow_add];exact Nat.mul_lt_mul'' h1 h2
theorem Ht{n d n' d' :Nat}{a b:Rat}(ha:dg n d a) (hb:dg n' d' b):dg (n+n') (d+d') (a*b):=by rw[Rat.mul_def'];refine pf (Nat.mul_ne_zero a.den_nz b.den_nz) ?_ (lL ha.2 hb.2);rw[Int.natAbs_mul];exact lL ha.1 hb.1
theorem OZ{n d n' d' m:Nat}{a b:Rat}(ha:dg n d a) (hb:dg n' d' b) (h1:n+d' ≤m) (h2:n' +d≤m):dg (m+1) (d+d') (a+b):=by rw[Rat.add_def'];refine pf (Nat.mul_ne_zero a.den_nz b.den_nz) ?_ (lL ha.2 hb.2);have h4:=lL ha.1 hb.2;have h5:=lL hb.1 ha.2;have h6:=Int.natAbs_add_le (a.num*b.den) (b.num*a.den);rw[Int.natAbs_mul,Int.natAbs_mul,Int.natAbs_natCast,Int.natAbs_natCast] at h6;have e1:10 ^ (n+d')≤10 ^ m:=Nat.pow_le_pow_right (by omega) h1;have e2:10 ^ (n' +d)≤10 ^ m:=Nat.pow_le_pow_right (by omega) h2;have e3:10 ^ (m+1)=10 ^ m*10:=Nat.pow_succ ..;omega
theorem SQ{n d:Nat}{a:Rat}(ha:dg n d a):dg n d (-a):=by refine⟨?_,ha.2⟩;rw[Rat.neg_num,Int.natAbs_neg];exact ha.1
theorem KJ{n d n' d' m:Nat}{a b:Rat}(ha:dg n d a) (hb:dg n' d' b) (h1:n+d' ≤m) (h2:n' +d≤m):dg (m+1) (d+d') (a-b):=by rw[Rat.sub_eq_add_neg];exact OZ ha (SQ hb) h1 h2
theorem SO{n:Nat}{x:Int}(h:x.natAbs<10 ^ n):dg n 1 (x:Rat):=⟨by simpa using h,by show(1:Nat)<10;decide⟩
theorem dg.lens{n d:Nat}{q:Rat}(h:dg n d q) (hn:0<n) (hd:0<d):(aJ q.num.natAbs).length≤n∧(aJ q.den).length≤d:=
 ⟨bf hn h.1,bf hd h.2⟩
def stC(l:List (List UInt8)):List AV:=l.map .str
theorem eJ(l:List (List UInt8)):(stC l).length=l.length:=by simp[stC]
theorem Nq(l r:List (List UInt8)):stC (l++r)=stC l++stC r:=by simp[stC]
theorem jn:∀l:List (List UInt8),AV.closeds (stC l)=true
 | []=>rfl
 |x::l=>by have:=jn l;simp only[stC] at this;simp[stC,AV.closeds,AV.closed,this]
theorem BI{l:List (List UInt8)}{i:Nat}{s:List UInt8}(h:l[i]? =some s):(stC l)[i]? =some (.str s):=by simp[stC,h]
theorem RE(l:List (List UInt8)):(stC l).take l.length=stC l:=List.take_of_length_le (by rw[eJ];omega)
def stP:List AV→Option (List (List UInt8))
 | []=>some []
 |.str a::l=>match stP l with
  |some r=>some (a::r)
  |none=>none
 |_=>none
theorem zI:∀L:List (List UInt8),stP (stC L)=some L
 | []=>rfl
 |k::L=>by have:=zI L;simp only[stC] at this;simp[stC,stP,this]
theorem K9:∀{cs:List AV}{L:List (List UInt8)},stP cs=some L→cs=stC L
 | [],L,h=>by cases h;rfl
 |v::l,L,h=>by
  unfold stP at h;split at h
  ·rename_i h1;cases h1
  ·rename_i a l' h1
   cases h1;split at h
   ·rename_i r hr
    cases h;have:=K9 hr;simp only[stC] at this ⊢;rw[this];rfl
   ·cases h
  ·cases h
def sts(M:Mem) (x:AV):Option (List (List UInt8)):=match Hj 1 M x with
 |some cs=>stP cs
 |none=>none
theorem sX{M:Mem}{x:AV}{L:List (List UInt8)}(h:sts M x=some L):Tn 1 M x L.length (stC L)∨(x=.nilslice∧L=[]):=by
 unfold sts at h;split at h
 ·rename_i cs hcs
  have hc:=K9 h;subst hc;rcases JP hcs with⟨n,hn,hr⟩ | ⟨rfl,hn⟩
  ·have:n=L.length:=by rw[eJ] at hn;omega
   subst this;exact .inl hr
  ·refine .inr ⟨rfl,?_⟩
   cases L with
   |nil=>rfl
   |cons a l=>simp[stC] at hn
 ·cases h
abbrev P2:=Rat×Rat
def pA(p:P2):AV:=.agg [.str (ah p.1),.str (ah p.2)]
def pDg(n:Nat) (p:P2):Prop:=dg n 1 p.1∧dg n 1 p.2
theorem pDg.mono{n m:Nat}{p:P2}(h:pDg n p) (hm:n≤m):pDg m p:=⟨h.1.mono hm (Nat.le_refl 1),h.2.mono hm (Nat.le_refl 1)⟩
def wR(a b c:P2):Rat:=(b.1-a.1)*(c.2-a.2)-(b.2-a.2)*(c.1-a.1)
def pC:List P2→List AV
 | []=>[]
 |p::l=>.str (ah p.1)::.str (ah p.2)::pC l
theorem sS:∀l:List P2,(pC l).length=l.length*2
 | []=>rfl
 |_::l=>by simp only[pC,List.length_cons,sS l];omega
theorem dr:∀l:List P2,AV.closeds (pC l)=true
 | []=>rfl
 |p::l=>by simp[pC,AV.closeds,AV.closed,dr l]
theorem dK(n:Nat):∀l:List P2,AV.refsL n (pC l)=[]
 | []=>rfl
 |p::l=>by simp[pC,AV.refsL,AV.refs,dK n l]
theorem fz(f:Nat→Option Nat) (l:List P2):AV.rens f (pC l)=pC l:=bH (dr l)
theorem S8:pC []=[]:=rfl
theorem zo(f:Nat→Bool):∀l:List P2,AV.refsOkL f (pC l)=true
 | []=>rfl
 |p::l=>by simp[pC,AV.refsOkL,AV.refsOk,zo f l]
theorem zn:∀l r:List P2,pC (l++r)=pC l++pC r
 | [],_=>rfl
 |p::l,r=>by simp[pC,zn l r]
theorem PM:∀(l:List P2) (i:Nat),(pC l).drop (i*2)=pC (l.drop i)
 |l,0=>by simp
 | [],i+1=>by simp[pC]
 |p::l,i+1=>by
  have:(i+1)*2=i*2+1+1:=by omega
  rw[this];simp only[pC,List.drop_succ_cons];exact PM l i
theorem PL{l:List P2}{i:Nat}{p:P2}(h:l[i]? =some p):
  ((pC l).drop (i*2)).take 2=[.str (ah p.1),.str (ah p.2)]∧(pC l)[i*2]? =some (.str (ah p.1))∧(pC l)[i*2+1]? =some (.str (ah p.2))∧i*2+2≤(pC l).length:=by
 have hlt:=(List.getElem?_eq_some_iff.1 h).1;have hd:l.drop i=p::l.drop (i+1):=by rw[List.getElem?_eq_some_iff] at h;obtain⟨h1,h2⟩:=h;rw[←h2];exact List.drop_eq_getElem_cons h1
 have e:=PM l i;rw[hd] at e;refine⟨by rw[e];rfl,?_,?_,by rw[sS];omega⟩
 ·have:(pC l)[i*2]? =((pC l).drop (i*2))[0]? :=by rw[List.getElem?_drop];rfl
  rw[this,e];rfl
 ·have:(pC l)[i*2+1]? =((pC l).drop (i*2))[1]? :=by rw[List.getElem?_drop]
  rw[this,e];rfl
abbrev Tr:=Nat×Nat×Nat
def tC:List Tr→List AV
 | []=>[]
 |t::l=>.int .i64 (t.1:Int)::.int .i64 (t.2.1:Int)::.int .i64 (t.2.2:Int)::tC l
theorem Ig:∀l:List Tr,(tC l).length=l.length*3
 | []=>rfl
 |_::l=>by simp only[tC,List.length_cons,Ig l];omega
theorem eK:∀l:List Tr,AV.closeds (tC l)=true
 | []=>rfl
 |p::l=>by simp[tC,AV.closeds,AV.closed,eK l]
theorem dT(n:Nat):∀l:List Tr,AV.refsL n (tC l)=[]
 | []=>rfl
 |p::l=>by simp[tC,AV.refsL,AV.refs,dT n l]
theorem gG(f:Nat→Option Nat) (l:List Tr):AV.rens f (tC l)=tC l:=bH (eK l)
theorem zK(f:Nat→Bool):∀l:List Tr,AV.refsOkL f (tC l)=true
 | []=>rfl
 |p::l=>by simp[tC,AV.refsOkL,AV.refsOk,zK f l]
theorem P7:∀(l:List Tr) (i:Nat),(tC l).drop (i*3)=tC (l.drop i)
 |l,0=>by simp
 | [],i+1=>by simp[tC]
 |p::l,i+1=>by
  have:(i+1)*3=i*3+1+1+1:=by omega
  rw[this];simp only[tC,List.drop_succ_cons];exact P7 l i
theorem Ti{l:List Tr}{i:Nat}{t:Tr}(h:l[i]? =some t):
  ((tC l).drop (i*3)).take 3=[.int .i64 (t.1:Int),.int .i64 (t.2.1:Int),.int .i64 (t.2.2:Int)]∧i*3+3≤(tC l).length:=by
 have hlt:=(List.getElem?_eq_some_iff.1 h).1;have hd:l.drop i=t::l.drop (i+1):=by rw[List.getElem?_eq_some_iff] at h;obtain⟨h1,h2⟩:=h;rw[←h2];exact List.drop_eq_getElem_cons h1
 have e:=P7 l i;rw[hd] at e;exact⟨by rw[e];rfl,by rw[Ig];omega⟩
def pmE(p:P2):AV×AV:=(pA p,.bool true)
theorem Ds(n:Nat):∀l:List P2,(l.map pmE).flatMap (fun e=>e.1.refs n++e.2.refs n)=[]
 | []=>rfl
 |p::l=>by simp[pmE,pA,AV.refs,AV.refsL,Ds n l]
def sqI:List (Int×Int):=[(0,0),(4,0),(4,4),(0,4)]
def cW:Nat→List (Int×Int)
 |0=>sqI
 |1=>sqI
 |2=>[(0,0),(4,0),(4,4),(0,4),(2,1)]
 |3=>[(0,0),(6,0),(0,4)]
 |4=>[(0,0),(2,0),(4,0),(0,2),(2,2),(4,2)]
 |5=>[(1,4),(5,3),(4,0),(0,0)]
 |6=>[(0,0),(4,0),(4,4),(0,4),(2,0)]
 |_=>[(0,0),(6,0),(0,6),(2,2)]
def bp:Nat→List Tr
 |0=>[(0,1,2),(0,2,3)]
 |1=>[(0,1,3),(1,2,3)]
 |2=>[(0,1,4),(1,2,4),(2,3,4),(3,0,4)]
 |3=>[(2,0,1)]
 |4=>[(0,1,4),(0,4,3),(1,2,5),(1,5,4)]
 |5=>[(3,2,1),(3,1,0)]
 |6=>[(0,4,3),(4,2,3),(4,1,2)]
 |_=>[(0,1,3),(1,2,3),(2,0,3)]
def jI:Nat→List Nat
 |2=>[0,1,2,3]
 |3=>[0,1,2]
 |4=>[0,1,2,5,4,3]
 |5=>[0,3,2,1]
 |6=>[0,4,1,2,3]
 |7=>[0,1,2]
 |_=>[0,1,2,3]
def iP:List (Int×Int)→List AV
 | []=>[]
 |p::l=>.int .i64 p.1::.int .i64 p.2::iP l
theorem HE:∀l:List (Int×Int),(iP l).length=l.length*2
 | []=>rfl
 |_::l=>by simp only[iP,List.length_cons,HE l];omega
theorem JZ(n:Nat):∀l:List (Int×Int),AV.refsL n (iP l)=[]
 | []=>rfl
 |p::l=>by simp[iP,AV.refsL,AV.refs,JZ n l]
theorem HD:∀l:List (Int×Int),AV.closeds (iP l)=true
 | []=>rfl
 |p::l=>by simp[iP,AV.closeds,AV.closed,HD l]
theorem Pb(f:Nat→Option Nat) (l:List (Int×Int)):AV.rens f (iP l)=iP l:=bH (HD l)
theorem Pa:∀(l:List (Int×Int)) (i:Nat),(iP l).drop (i*2)=iP (l.drop i)
 |l,0=>by simp
 | [],i+1=>by simp[iP]
 |p::l,i+1=>by
  have:(i+1)*2=i*2+1+1:=by omega
  rw[this];simp only[iP,List.drop_succ_cons];exact Pa l i
theorem TF{l:List (Int×Int)}{i:Nat}{p:Int×Int}(h:l[i]? =some p):
  (iP l)[i*2]? =some (.int .i64 p.1)∧(iP l)[i*2+1]? =some (.int .i64 p.2)∧i*2+2≤(iP l).length:=by
 have hlt:=(List.getElem?_eq_some_iff.1 h).1;have hd:l.drop i=p::l.drop (i+1):=by rw[List.getElem?_eq_some_iff] at h;obtain⟨h1,h2⟩:=h;rw[←h2];exact List.drop_eq_getElem_cons h1
 have e:=Pa l i;rw[hd] at e;refine⟨?_,?_,by rw[HE];omega⟩
 ·have:(iP l)[i*2]? =((iP l).drop (i*2))[0]? :=by rw[List.getElem?_drop];rfl
  rw[this,e];rfl
 ·have:(iP l)[i*2+1]? =((iP l).drop (i*2))[1]? :=by rw[List.getElem?_drop]
  rw[this,e];rfl
structure Sheet where
 kind:Nat
 sx:Int
 sy:Int
 half:Bool
structure Sheet.Ok (s:Sheet):Prop where
 kind:s.kind<256
 x0: -128≤s.sx
 x1:s.sx≤127
 y0: -128≤s.sy
 y1:s.sy≤127
def Sheet.av(s:Sheet):AV:=.agg [.int .u8 s.kind,.int .i8 s.sx,.int .i8 s.sy,.bool s.half]
def Sheet.pt(s:Sheet) (k:Nat) (x y:Int):P2:=
 (mkRat (x+s.sx.tmod 8*k) ((if s.half then 2 else 1)*k),mkRat (y+s.sy.tmod 8*k) ((if s.half then 2 else 1)*k))
def Sheet.P(s:Sheet):List P2:=(cW (s.kind%8)).map fun p=>s.pt 1 p.1 p.2
def Sheet.T(s:Sheet):List Tr:=bp (s.kind%8)
theorem Qc{n:Int}(h0: -128≤n) (h1:n≤127):IntKind.i8.wrap n=n:=by simp only[IntKind.wrap,IntKind.bits,IntKind.signed,Bool.true_and];split<;>simp_all<;>omega
theorem Ih(x:Int): -7≤x.tmod 8∧x.tmod 8≤7:=by
 have h1:=Int.tmod_lt_of_pos x (show(0:Int)<8 by decide);have h2: -8<x.tmod 8:=by have:=Int.tmod_lt_of_pos (-x) (show(0:Int)<8 by decide);rw[Int.neg_tmod] at this;omega
 omega
def qC(Q:List Rat):List AV:=Q.map fun q=>.str (ah q)
theorem H0(Q:List Rat):(qC Q).length=Q.length:=by simp[qC]
theorem iJ:∀Q:List Rat,AV.closeds (qC Q)=true
 | []=>rfl
 |q::Q=>by have:=iJ Q;simp only[qC] at this;simp[qC,AV.closeds,AV.closed,this]
theorem fm(n:Nat):∀Q:List Rat,AV.refsL n (qC Q)=[]
 | []=>rfl
 |q::Q=>by have:=fm n Q;simp only[qC] at this;simp[qC,AV.refsL,AV.refs,this]
theorem H2(f:Nat→Bool):∀Q:List Rat,AV.refsOkL f (qC Q)=true
 | []=>rfl
 |q::Q=>by have:=H2 f Q;simp only[qC] at this;simp[qC,AV.refsOkL,AV.refsOk,this]
theorem dL(f:Nat→Option Nat) (Q:List Rat):AV.rens f (qC Q)=qC Q:=bH (iJ Q)
theorem Ta{Q:List Rat}{i:Nat}{q:Rat}(h:Q[i]? =some q):(qC Q)[i]? =some (.str (ah q)):=by simp[qC,h]
structure Deed where
 kind:Nat
 A:Int×Int×Int
 B:Int×Int×Int
 N:Int
 K:Nat×Nat×Nat×Nat
def Deed.cells(d:Deed):List AV:=[.int .u8 d.kind,.int .i8 d.A.1,.int .i8 d.A.2.1,.int .i8 d.A.2.2,.int .i8 d.B.1,.int .i8 d.B.2.1,.int .i8 d.B.2.2,.int .i8 d.N,.int .u8 d.K.1,.int .u8 d.K.2.1,.int .u8 d.K.2.2.1,.int .u8 d.K.2.2.2]
def xh(n:Int):Prop:= -128≤n∧n≤127
def Re(v:Int×Int×Int):Prop:=xh v.1∧xh v.2.1∧xh v.2.2
def Tk(v:Nat×Nat×Nat×Nat):Prop:=v.1<256∧v.2.1<256∧v.2.2.1<256∧v.2.2.2<256
structure Deed.Ok (d:Deed):Prop where
 kind:d.kind<256
 A:Re d.A
 B:Re d.B
 N:xh d.N
 K:Tk d.K
def RS(v:Int×Int×Int) (k:Nat):Int:=if k=0 then v.1 else if k=1 then v.2.1 else v.2.2
def HT(v:Nat×Nat×Nat×Nat) (k:Nat):Nat:=if k=0 then v.1 else if k=1 then v.2.1 else if k=2 then v.2.2.1 else v.2.2.2
def hQ(z:Int):Rat:=mkRat z 2
theorem vb(z:Int):hQ z=(z:Rat) / 2:=by unfold hQ;rw[Rat.mkRat_eq_div];rfl
theorem SU(n a:Int):(n:Rat)+hQ a=hQ (2*n+a):=by
 rw[vb,vb,Rat.intCast_add,Rat.intCast_mul];have:((2:Int):Rat)=2:=rfl;rw[this]
 grind
theorem RN(a b:Int):hQ a+hQ b=hQ (a+b):=by
 rw[vb,vb,vb,Rat.intCast_add]
 grind
theorem TE{a b:Int}(h:a≤b):hQ a≤hQ b:=by
 rw[vb,vb];have:(a:Rat)≤(b:Rat):=by exact_mod_cast h
 grind
theorem O7{z:Int}(h:z.natAbs<1000):dg 3 1 (hQ z):=pf (by decide) h (by decide)
theorem yW{z:Int}(h:z.natAbs<1000):(ah (hQ z)).length≤9:=by have h1:=O7 h;have h2:big 3 (hQ z):=⟨h1.1,by have:=h1.2;omega⟩;have:=Ba (by decide) h2;omega
def JK(d:Deed) (k:Nat):Int:=2*d.N.tmod 4+(RS d.A (k%3)).tmod 3
def bo(d:Deed) (n:Nat):List Int:=(List.range n).map (JK d)
theorem MK(d:Deed) (n:Nat):bo d (n+1)=bo d n++[JK d n]:=by simp[bo,List.range_succ]
theorem da(d:Deed) (n:Nat):(bo d n).length=n:=by simp[bo]
def Ie(d:Deed) (j k:Nat):Int:=((HT d.K ((j+k)%4)%4:Nat):Int)
def bU(d:Deed) (j:Nat) (L:List Int) (n:Nat):List Int:=(List.range n).map fun k=>L.getD k 0+Ie d j k
theorem BJ(d:Deed) (j:Nat) (L:List Int) (n:Nat):bU d j L (n+1)=bU d j L n++[L.getD n 0+Ie d j n]:=by simp[bU,List.range_succ]
theorem dE(d:Deed) (j:Nat) (L:List Int) (n:Nat):(bU d j L n).length=n:=by simp[bU]
def qH(Z:List Int):List Rat:=Z.map hQ
theorem lQ(x:Int) (k:Nat) (hk:0<k): -(k:Int)<x.tmod k∧x.tmod k<k:=by have h1:=Int.tmod_lt_of_pos x (show(0:Int)<(k:Int) by omega);have h2:=Int.tmod_lt_of_pos (-x) (show(0:Int)<(k:Int) by omega);rw[Int.neg_tmod] at h2;omega
end Go.Eng
