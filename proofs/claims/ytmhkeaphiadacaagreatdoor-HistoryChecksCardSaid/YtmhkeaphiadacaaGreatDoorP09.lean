/- See P53. -/
import Derived.Test.YtmhkeaphiadacaaGreatDoorP07
import Derived.Lib.Atoi
import Derived.Lib.Strings
import Derived.Lib.Bytealg
import Derived.Lib.IndexLaws
set_option linter.all false
namespace Go.Eng
def Ru(k:Nat):UInt8:=UInt8.ofNat (48+k)
def isD(c:UInt8):Bool:=decide (48≤c.toNat)&&decide (c.toNat≤57)
def TY:Nat→Nat→List UInt8→List UInt8
 |0,_,acc=>acc
 |f+1,u,acc=>if u<10 then Ru u::acc else TY f (u / 10) (Ru (u%10)::acc)
def aS(u:Nat):List UInt8:=TY (u.log2+1) u []
theorem NW:∀(f u:Nat) (acc:List UInt8),u<2 ^ f→0<f→TY f u acc=Lib.decDigits u++acc
 |0,u,acc,_,h=>by omega
 |f+1,u,acc,h,_=>by
  unfold TY;by_cases h10:u<10
  ·rw[if_pos h10,Lib.decDigits,dif_pos h10];rfl
  ·rw[if_neg h10,Lib.decDigits,dif_neg h10]
   have hf:0<f:=by
    cases f with
    |zero=>simp at h;omega
    |succ f=>omega
   rw[NW f (u / 10) _ (by rw[Nat.pow_succ] at h;omega) hf];simp[Ru]
theorem ue(u:Nat):aS u=Lib.decDigits u:=by unfold aS;rw[NW _ _ _ Nat.lt_log2_self (by omega)];simp
variable{u:Nat}
theorem jg(h:u<10):aS u=[Ru u]:=by rw[ue,Lib.decDigits,dif_pos h];rfl
theorem sa(h:¬u<10):aS u=aS (u / 10)++[Ru (u%10)]:=by
 have e:Lib.decDigits u=Lib.decDigits (u / 10)++[UInt8.ofNat (48+u%10)]:=by
  conv=>lhs;rw[Lib.decDigits]
  rw[dif_neg h]
 unfold Ru;rw[ue u,ue (u / 10),e]
def xc(a:Nat) (l:List UInt8):Nat:=l.foldl (fun a c=>10*a+(c.toNat-48)) a
theorem gg(a:Nat):xc a []=a:=by unfold xc;rw[List.foldl_nil]
theorem fx(a:Nat)(c:UInt8)(r:List UInt8):xc a (c::r)=xc (10*a+(c.toNat-48)) r:=by unfold xc;rw[List.foldl_cons]
def kW(l:List UInt8):Nat:=xc 0 l
theorem BC:∀(l r:List UInt8) (a:Nat),xc a (l++r)=xc (xc a l) r
 | [],_,a=>by rw[List.nil_append,gg]
 |c::l,r,a=>by rw[List.cons_append,fx,fx,BC l r]
theorem vF(l:List UInt8)(c:UInt8):kW (l++[c])=10*kW l+(c.toNat-48):=by unfold kW;rw[BC,fx,gg]
variable{k:Nat}
theorem rU(h:k<10):(Ru k).toNat=48+k:=by unfold Ru;simp[UInt8.toNat_ofNat'];omega
theorem NM(h:k<10):isD (Ru k)=true:=by unfold isD;rw[rU h];simp;omega
variable{c:UInt8}
theorem AW(h:isD c=true):Ru (c.toNat-48)=c:=by unfold isD at h;simp only[Bool.and_eq_true,decide_eq_true_eq] at h;unfold Ru;apply UInt8.toNat_inj.1;simp[UInt8.toNat_ofNat'];omega
theorem xE(h:isD c=true):c.toNat-48<10:=by unfold isD at h;simp only[Bool.and_eq_true,decide_eq_true_eq] at h;omega
theorem vn{p:Nat→Prop}(h0:∀u,u<10→p u)(h1:∀u,¬u<10→p (u / 10)→p u)(u:Nat):p u:=by
 induction u using Nat.strongRecOn with
 |_ u ih=>
  by_cases h:u<10
  ·exact h0 u h
  ·exact h1 u h (ih (u / 10) (by omega))
theorem fT(u:Nat):kW (aS u)=u:=by
 induction u using vn with
 |h0 u h=>
  rw[jg h];unfold kW;rw[fx,gg,rU h];omega
 |h1 u h ih=>rw[sa h,vF,ih,rU (by omega)];omega
theorem gf(u:Nat):(aS u).all isD=true:=by
 induction u using vn with
 |h0 u h=>rw[jg h];simp[NM h]
 |h1 u h ih=>rw[sa h,List.all_append,ih];simp[NM (show u%10<10 by omega)]
theorem qT(u:Nat):aS u≠[]:=by
 induction u using vn with
 |h0 u h=>rw[jg h];simp
 |h1 u h ih=>rw[sa h];simp
theorem vp(u:Nat):0<(aS u).length:=List.length_pos_iff.2 (qT u)
theorem KC(u:Nat)(hu:0<u):(aS u).head? ≠some 48:=by
 induction u using vn with
 |h0 u h=>
  rw[jg h];simp only[List.head?_cons,ne_eq,Option.some.injEq];intro e;have:=congrArg UInt8.toNat e;rw[rU h] at this;simp at this;omega
 |h1 u h ih=>
  rw[sa h,List.head?_append];have:=ih (by omega);cases hh:(aS (u / 10)).head? with
  |none=>exact absurd (List.head?_eq_none_iff.1 hh) (qT _)
  |some x=>rw[hh] at this;simpa using this
theorem qU:aS 0=[48]:=by rw[jg (by omega)];rfl
def jw(l:List UInt8):Bool:=match l with
 | []=>false
 |c::r=>isD c&&r.all isD&&(!(c==48)||r.isEmpty)
theorem MR(u:Nat):jw (aS u)=true:=by
 have h1:=gf u;have h2:=qT u;by_cases hu:u=0
 ·subst hu;rw[qU];rfl
 ·have h3:=KC u (by omega)
  cases hl:aS u with
  |nil=>exact absurd hl h2
  |cons c r=>
   rw[hl] at h1 h3;simp only[List.all_cons,Bool.and_eq_true] at h1;simp only[List.head?_cons,ne_eq,Option.some.injEq] at h3;simp[jw,h1.1,h1.2,h3]
variable{l:List UInt8}
theorem MQ(hl:l≠[])(h:jw (l++[c])=true):jw l=true∧isD c=true∧l≠[48]:=by
 cases l with
 |nil=>exact absurd rfl hl
 |cons x r=>
  simp only[List.cons_append,jw,List.all_append,List.all_cons,List.all_nil,Bool.and_true,Bool.and_eq_true] at h;obtain⟨⟨h1,h2,h3⟩,h4⟩:=h;have h5:(x==48)=false:=by
   cases hx:x==48 with
   |false=>rfl
   |true=>rw[hx] at h4;simp at h4
  refine⟨by simp[jw,h1,h2,h5],h3,?_⟩;intro e;cases e;simp at h5
theorem U6{p:List UInt8→Prop}(h0:p [])(h1:∀l c,p l→p (l++[c]))(l:List UInt8):p l:=by
 have:∀n (l:List UInt8),l.length=n→p l:=by
  intro n;induction n with
  |zero=>intro l hl;rw[List.eq_nil_of_length_eq_zero hl];exact h0
  |succ n ih=>
   intro l hl;have H':l≠[]:=by intro e;rw[e] at hl;simp at hl
   rw[←List.dropLast_concat_getLast H'];exact h1 _ _ (ih _ (by simp[hl]))
 exact this _ l rfl
theorem Bm(h:jw l=true):aS (kW l)=l:=by
 induction l using U6 with
 |h0=>cases h
 |h1 l c ih=>
  by_cases hl:l=[]
  ·subst hl
   simp only[List.nil_append,jw,List.all_nil,Bool.and_true,List.isEmpty_nil,Bool.or_true] at h;unfold kW;rw[List.nil_append,fx,gg,Nat.mul_zero,Nat.zero_add,jg (xE h),AW h]
  ·obtain⟨h1,h2,h3⟩:=MQ hl h
   have hi:=ih h1;have hv:kW l≠0:=by intro e;rw[e,qU] at hi;exact h3 hi.symm
   have hd:=xE h2;rw[vF,sa (by omega),show(10*kW l+(c.toNat-48)) / 10=kW l by omega,show(10*kW l+(c.toNat-48))%10=c.toNat-48 by omega,hi,AW h2]
def Bn(l:List UInt8):Option Nat:=if jw l then some (kW l) else none
theorem ig(u:Nat):Bn (aS u)=some u:=by unfold Bn;rw[if_pos (MR u),fT]
theorem kG(h:Bn l=some u):l=aS u:=by
 unfold Bn at h;split at h
 ·rename_i hc;cases h;exact(Bm hc).symm
 ·cases h
variable{v:Nat}
theorem NX(h:aS u=aS v):u=v:=by rw[←fT u,h,fT]
theorem Bp(u:Nat)(hu:0<u):10 ^ ((aS u).length-1)≤u:=by
 induction u using vn with
 |h0 u h=>rw[jg h];simp;omega
 |h1 u h ih=>
  rw[sa h];have:=ih (by omega);have hp:=vp (u / 10);simp only[List.length_append,List.length_singleton,Nat.add_sub_cancel];have e:10 ^ (aS (u / 10)).length=10 ^ ((aS (u / 10)).length-1)*10:=by rw[←Nat.pow_succ];congr 1;omega
  rw[e];omega
theorem eF(u:Nat):u<10 ^ (aS u).length:=by rw[ue,Lib.decDigits_length];exact Lib.lt_pow_nDigits u
theorem bC(hk:0<k)(h:u<10 ^ k):(aS u).length≤k:=by
 by_cases hu:u=0
 ·subst hu;rw[qU];exact hk
 ·have h1:=Bp u (by omega)
  have h2:10 ^ ((aS u).length-1)<10 ^ k:=by omega
  have:=(Nat.pow_lt_pow_iff_right (by omega:1<10)).1 h2;omega
def cN(n:Int):List UInt8:=match n with
 |.ofNat u=>aS u
 |.negSucc u=>45::aS (u+1)
theorem RH(n:Int):cN n=Lib.itoa n:=by
 unfold Lib.itoa;cases n with
 |ofNat u=>rw[if_neg (by simp)];simp[cN,ue]
 |negSucc u=>rw[if_pos (Int.negSucc_lt_zero u)];simp[cN,ue]
def pq(l:List UInt8):Option Int:=match l with
 |45::r=>match Bn r with
  |some (u+1)=>some (.negSucc u)
  |_=>none
 |l=>match Bn l with
  |some u=>some (.ofNat u)
  |none=>none
theorem oG(u:Nat):(aS u).head? ≠some 45:=by
 cases hl:aS u with
 |nil=>simp
 |cons c r=>
  have:=gf u;rw[hl] at this;simp only[List.all_cons,Bool.and_eq_true] at this;simp only[List.head?_cons,ne_eq,Option.some.injEq];rintro rfl;exact absurd this.1 (by decide)
theorem di(n:Int):pq (cN n)=some n:=by
 cases n with
 |ofNat u=>
  have h:=oG u;simp only[cN];unfold pq;split
  ·rename_i r hr
   rw[hr] at h;simp at h
  ·rw[ig]
 |negSucc u=>simp[cN,pq,ig]
variable{n:Int}
theorem eR(h:pq l=some n):l=cN n:=by
 unfold pq at h;split at h
 ·split at h
  ·rename_i hr
   cases h;simp[cN,kG hr]
  ·cases h
 ·split at h
  ·rename_i hr
   cases h;simp[cN,kG hr]
  ·cases h
theorem TO{m:Int}(h:cN m=cN n):m=n:=by have:=di m;rw[h,di] at this;exact(Option.some.inj this).symm
theorem mz(n:Int):Lib.hasPrefix (cN n) [45]=decide (n<0):=by
 cases n with
 |ofNat u=>
  have h:=oG u;simp only[cN];cases hl:aS u with
  |nil=>exact absurd hl (qT u)
  |cons c r=>
   rw[hl] at h;simp only[List.head?_cons,ne_eq,Option.some.injEq] at h;rw[show decide (Int.ofNat u<0)=false by simp];have h' :¬(45:UInt8)=c:=fun e=>h e.symm
   simp[Lib.hasPrefix,List.isPrefixOf,h']
 |negSucc u=>simp[cN,Lib.hasPrefix,List.isPrefixOf,Int.negSucc_lt_zero]
theorem kV(n:Int):Lib.trimPrefix (cN n) [45]=aS n.natAbs:=by
 unfold Lib.trimPrefix;rw[mz];cases n with
 |ofNat u=>
  rw[show decide (Int.ofNat u<0)=false by simp];rfl
 |negSucc u=>simp[cN,Int.negSucc_lt_zero,Int.natAbs]
theorem Kj(h:isD c=true):Lib.digitVal c=some (c.toNat-48):=by unfold isD at h;simp only[Bool.and_eq_true,decide_eq_true_eq] at h;unfold Lib.digitVal;rw[if_pos h]
theorem xz:∀(l:List UInt8) (a:Nat),l.all isD=true→Lib.decFrom a l=some (xc a l)
 | [],a,_=>by rw[gg];rfl
 |c::r,a,h=>by simp only[List.all_cons,Bool.and_eq_true] at h;unfold Lib.decFrom;rw[Kj h.1,fx];simp only;rw[xz r _ h.2,Nat.mul_comm]
theorem AU(u:Nat):Lib.decNat (aS u)=some u:=by
 unfold Lib.decNat
 have h:(aS u).isEmpty=false:=by
  cases hl:aS u with
  |nil=>exact absurd hl (qT u)
  |cons=>rfl
 rw[h];simp only[Bool.false_eq_true,if_false];rw[xz _ _ (gf u)];exact congrArg some (fT u)
theorem mY(n:Int):Lib.atoi (cN n)=some n:=by
 cases n with
 |ofNat u=>
  have h1:=oG u;have h2:=gf u;have h3:=AU u;simp only[cN];cases hl:aS u with
  |nil=>exact absurd hl (qT u)
  |cons c r=>
   rw[hl] at h1 h2 h3;simp only[List.head?_cons,ne_eq,Option.some.injEq] at h1;simp only[List.all_cons,Bool.and_eq_true] at h2;have hc:¬c=43:=by rintro rfl;exact absurd h2.1 (by decide)
   simp[Lib.atoi,h1,hc,h3]
 |negSucc u=>
  simp[cN,Lib.atoi,AU,Int.negSucc_eq]
theorem nk(h:(aS u).length<(aS v).length):u<v:=by
 have h1:=eF u;have hv:0<v:=by
  by_cases hv:v=0
  ·subst hv
   rw[qU] at h;have:=vp u;simp only[List.length_singleton] at h;omega
  ·omega
 have h2:=Bp v hv;have h3:10 ^ (aS u).length≤10 ^ ((aS v).length-1):=Nat.pow_le_pow_right (by omega) (by omega);exact Nat.lt_of_lt_of_le h1 (Nat.le_trans h3 h2)
def Kd(u v:Nat):Int:=if u<v then -1 else if v<u then 1 else 0
theorem um:∀(l:List UInt8) (a:Nat),l.all isD=true→xc a l<(a+1)*10 ^ l.length
 | [],a,_=>by rw[gg];simp
 |c::r,a,h=>by simp only[List.all_cons,Bool.and_eq_true] at h;have hd:=xE h.1;have:=um r (10*a+(c.toNat-48)) h.2;rw[fx];refine Nat.lt_of_lt_of_le this ?_;rw[List.length_cons,Nat.pow_succ,Nat.mul_comm (10 ^ r.length) 10,←Nat.mul_assoc];exact Nat.mul_le_mul_right _ (by omega)
theorem RP:∀(l:List UInt8) (a:Nat),a*10 ^ l.length≤xc a l
 | [],a=>by rw[gg];simp
 |c::r,a=>by have:=RP r (10*a+(c.toNat-48));rw[fx];refine Nat.le_trans ?_ this;rw[List.length_cons,Nat.pow_succ,Nat.mul_comm (10 ^ r.length) 10,←Nat.mul_assoc];exact Nat.mul_le_mul_right _ (by omega)
theorem nb:∀(l r:List UInt8) (a:Nat),l.length=r.length→l.all isD=true→r.all isD=true→Lib.compareBytes l r=Kd (xc a l) (xc a r)
 | [],[],a,_,_,_=>by
  rw[gg];show(0:Int)=Kd a a
  unfold Kd;rw[if_neg (by omega),if_neg (by omega)]
 | [],_::_,_,h,_,_=>by simp at h
 |_::_,[],_,h,_,_=>by simp at h
 |c::l,d::r,a,h,h1,h2=>by
  simp only[List.length_cons,Nat.add_right_cancel_iff] at h;simp only[List.all_cons,Bool.and_eq_true] at h1 h2;have key:∀{x y:UInt8}{l r:List UInt8},isD x=true→isD y=true→l.all isD=true→l.length=r.length→x<y→xc (10*a+(x.toNat-48)) l<xc (10*a+(y.toNat-48)) r:=by intro x y l r hx hy hl hlr hxy;have e1:=um l (10*a+(x.toNat-48)) hl;have e2:=RP r (10*a+(y.toNat-48));have hxy' :x.toNat<y.toNat:=hxy;unfold isD at hx hy;simp only[Bool.and_eq_true,decide_eq_true_eq] at hx hy;rw[hlr] at e1;have:(10*a+(x.toNat-48)+1)*10 ^ r.length≤(10*a+(y.toNat-48))*10 ^ r.length:=Nat.mul_le_mul_right _ (by omega);omega
  unfold Lib.compareBytes;rw[fx,fx];by_cases hcd:c<d
  ·rw[if_pos hcd]
   have:=key h1.1 h2.1 h1.2 h hcd;unfold Kd;rw[if_pos this]
  ·rw[if_neg hcd]
   by_cases hdc:d<c
   ·rw[if_pos hdc]
    have:=key h2.1 h1.1 h2.2 h.symm hdc;unfold Kd;rw[if_neg (by omega),if_pos this]
   ·rw[if_neg hdc]
    have Xi:¬c.toNat<d.toNat:=hcd;have hn2:¬d.toNat<c.toNat:=hdc;have e:c.toNat=d.toNat:=by omega
    rw[e];exact nb l r _ h h1.2 h2.2
theorem wE(h:(aS u).length=(aS v).length):Lib.compareBytes (aS u) (aS v)=Kd u v:=by
 have:=nb (aS u) (aS v) 0 h (gf u) (gf v);rw[this];show Kd (kW (aS u)) (kW (aS v))=_
 rw[fT,fT]
def ns(n:Int):Int:=if n<0 then -1 else if n=0 then 0 else 1
def Lc(m n:Int):Int:=if m<n then -1 else if n<m then 1 else 0
theorem RI(n:Int):cN n=[48]↔n=0:=by
 constructor
 ·intro h;exact TO (h.trans (by rfl))
 ·rintro rfl;rfl
theorem jK(n:Int):(cN n==[48])=decide (n=0):=by rw[Bool.eq_iff_iff];simp[RI]
theorem qM(n:Int):0<(cN n).length:=by
 cases n with
 |ofNat u=>exact vp u
 |negSucc u=>simp[cN]
theorem qN(h:0<n):cN (-n)=45::cN n:=by
 cases n with
 |ofNat u=>
  cases u with
  |zero=>simp at h
  |succ u=>rfl
 |negSucc u=>exact absurd h (by have:=Int.negSucc_lt_zero u;omega)
theorem Fy(h:n<0):(cN n).drop 1=cN (-n):=by have:=qN (n:= -n) (by omega);rw[Int.neg_neg] at this;rw[this];rfl
theorem oB(h:0≤n):cN n=aS n.natAbs:=by
 cases n with
 |ofNat u=>rfl
 |negSucc u=>exact absurd h (by have:=Int.negSucc_lt_zero u;omega)
theorem UE(a b:Int):Lc a b=if ns a≠ns b then (if ns a<ns b then -1 else 1) else
  if (aS a.natAbs).length≠(aS b.natAbs).length then (if (aS a.natAbs).length<(aS b.natAbs).length then-ns a else ns a) else ns a*Kd a.natAbs b.natAbs:=by
 by_cases hs:ns a≠ns b
 ·rw[if_pos hs]
  unfold ns at hs ⊢;unfold Lc
  repeat' split
  all_goals first | rfl | omega
 ·rw[if_neg hs]
  by_cases hl:(aS a.natAbs).length≠(aS b.natAbs).length
  ·rw[if_pos hl]
   by_cases AC:(aS a.natAbs).length<(aS b.natAbs).length
   ·rw[if_pos AC]
    have:=nk AC;unfold ns at hs ⊢;unfold Lc
    repeat' split
    all_goals first | rfl | omega
   ·rw[if_neg AC]
    have:=nk (u:=b.natAbs) (v:=a.natAbs) (by omega);unfold ns at hs ⊢;unfold Lc
    repeat' split
    all_goals first | rfl | omega
  ·rw[if_neg hl]
   unfold ns at hs ⊢;unfold Lc Kd
   repeat' split
   all_goals first | rfl | omega
def aN(q:Rat):List UInt8:=if q.den=1 then cN q.num else cN q.num++47::aS q.den
theorem vo(u:Nat):(47:UInt8)∉aS u:=by intro h;have:=List.all_eq_true.1 (gf u) _ h;exact absurd this (by decide)
theorem jL(n:Int):(47:UInt8)∉cN n:=by
 cases n with
 |ofNat u=>exact vo u
 |negSucc u=>
  simp only[cN,List.mem_cons,not_or];exact⟨by decide,vo _⟩
theorem ni:∀(l:List UInt8) (c:UInt8),c∉l→Lib.indexByte l c= -1
 | [],_,_=>rfl
 |b::l,c,h=>by simp only[List.mem_cons,not_or] at h;unfold Lib.indexByte;rw[if_neg (by simpa using fun e=>h.1 e.symm),ni l c h.2];rfl
theorem xD:∀(l r:List UInt8) (c:UInt8),c∉l→Lib.indexByte (l++c::r) c=l.length
 | [],r,c,_=>by simp[Lib.indexByte]
 |b::l,r,c,h=>by
  simp only[List.mem_cons,not_or] at h;rw[List.cons_append];unfold Lib.indexByte;rw[if_neg (by simpa using fun e=>h.1 e.symm),xD l r c h.2];have hn:¬(((l.length:Int)== -1)=true):=by rw[beq_iff_eq];omega
  rw[if_neg hn];rfl
theorem CA(q:Rat):Lib.indexByte (aN q) 47=if q.den=1 then -1 else ((cN q.num).length:Int):=by
 unfold aN;split
 ·exact ni _ _ (jL _)
 ·exact xD _ _ _ (jL _)
def Qb(n:Int) (d:Nat):Option Rat:=if h:1<d∧n.natAbs.gcd d=1 then some ⟨n,d,by omega,h.2⟩ else none
def ef(l:List UInt8):Option Rat:=match l.idxOf? 47 with
 |none=>match pq l with
  |some n=>some ⟨n,1,by decide,Nat.gcd_one_right _⟩
  |none=>none
 |some i=>match pq (l.take i),Bn (l.drop (i+1)) with
  |some n,some d=>Qb n d
  |_,_=>none
theorem PV(h:c∉l):l.idxOf? c=none:=List.idxOf?_eq_none_iff.2 h
theorem TL{r:List UInt8}(h:c∉l):(l++c::r).idxOf? c=some l.length:=by rw[List.idxOf?_eq_some_iff];refine⟨by simp,by simp,fun j hj=>?_⟩;rw[List.getElem_append_left hj];intro e;exact h (e▸List.getElem_mem hj)
theorem aM(q:Rat):ef (aN q)=some q:=by
 unfold ef aN;by_cases h:q.den=1
 ·rw[if_pos h,PV (jL _)]
  simp only[di];congr 1;apply Rat.ext
  ·rfl
  ·exact h.symm
 ·have h1:List.drop ((cN q.num).length+1) (cN q.num++47::aS q.den)=aS q.den:=by rw[List.drop_append];simp
  have h2:List.take (cN q.num).length (cN q.num++47::aS q.den)=cN q.num:=List.take_left' rfl;have hd:1<q.den:=by have:=q.den_nz;omega
  have hr:q.num.natAbs.gcd q.den=1:=q.reduced;rw[if_neg h,TL (jL _)];simp only;rw[h1,h2,di,ig];simp only[Qb];rw[dif_pos ⟨hd,hr⟩]
variable{q:Rat}
theorem aA(h:ef l=some q):l=aN q:=by
 unfold ef at h;split at h
 ·split at h
  ·rename_i n hn
   cases h;unfold aN;rw[if_pos rfl];exact eR hn
  ·cases h
 ·rename_i i hi
  split at h
  ·rename_i n d hn hd
   unfold Qb at h;split at h
   ·rename_i hc
    cases h;unfold aN;rw[if_neg (by show¬d=1;omega)];obtain⟨AC,WY,_⟩:=List.idxOf?_eq_some_iff.1 hi;show l=cN n++47::aS d
    rw[←eR hn,←kG hd];have:l.drop i=47::l.drop (i+1):=by rw[List.drop_eq_getElem_cons AC,WY]
    rw[←this,List.take_append_drop]
   ·cases h
  ·cases h
theorem mf{p:Rat}(h:aN p=aN q):p=q:=by have:=aM p;rw[h,aM] at this;exact(Option.some.inj this).symm
theorem KM(q:Rat):aN q=[48]↔q=0:=by
 constructor
 ·intro h;exact mf (h.trans (by rfl))
 ·rintro rfl;rfl
theorem bT(q:Rat):(aN q==[48])=decide (q=0):=by rw[Bool.eq_iff_iff];simp[KM]
theorem neg_num(q:Rat):(-q).num= -q.num:=rfl
theorem UR(q:Rat):(-q).den=q.den:=rfl
theorem rf(h:0<q.num):aN (-q)=45::aN q:=by unfold aN;rw[neg_num,UR,qN h];split<;>rfl
theorem oJ(h:q.num<0):aN q=45::aN (-q):=by
 have:=rf (q:= -q) (by rw[neg_num];omega)
 rwa [Rat.neg_neg] at this
theorem zr:q.num=0↔q=0:=by
 constructor
 ·intro h
  apply Rat.ext
  ·exact h
  ·have:=q.reduced
   rw[h] at this;simpa [Nat.Coprime] using this
 ·rintro rfl;rfl
theorem rb(h:0≤q.num):∃c r,aN q=c::r∧isD c=true:=by
 have h1:∃c r,cN q.num=c::r∧isD c=true:=by
  rw[oB h];have:=gf q.num.natAbs;cases hl:aS q.num.natAbs with
  |nil=>exact absurd hl (qT _)
  |cons c r=>
   rw[hl] at this;simp only[List.all_cons,Bool.and_eq_true] at this;exact⟨c,r,rfl,this.1⟩
 obtain⟨c,r,e,hc⟩:=h1;unfold aN;split
 ·exact⟨c,r,e,hc⟩
 ·exact⟨c,r++47::aS q.den,by rw[e];rfl,hc⟩
theorem gu(h:isD c=true):¬((c.toNat:Int)=45):=by unfold isD at h;simp only[Bool.and_eq_true,decide_eq_true_eq] at h;omega
def nq(q:Rat):Int:=ns q.num
def big(k:Nat) (q:Rat):Prop:=q.num.natAbs<10 ^ k∧q.den<10 ^ k
theorem TX(n:Int){d:Nat}(hd:d≠0):(mkRat n d).num.natAbs≤n.natAbs∧(mkRat n d).den≤d:=by rw[Rat.num_mkRat,Rat.den_mkRat,if_neg hd,if_neg hd];refine⟨?_,Nat.div_le_self _ _⟩;exact Int.natAbs_ediv_le_natAbs _ _
theorem fK(n:Int):(cN n).length≤(aS n.natAbs).length+1:=by
 cases n with
 |ofNat u=>simp[cN]
 |negSucc u=>simp[cN]
theorem Dg(hk:0<k)(h:big k q):(aN q).length≤2*k+2:=by
 have h1:=bC hk h.1;have h2:=bC hk h.2;have h3:=fK q.num;unfold aN;split
 ·omega
 ·simp only[List.length_append,List.length_cons];omega
theorem Fk(h:(aN q).length≤k):big k q:=by
 have h1:=eF q.num.natAbs;have h2:=eF q.den;have h3:(aS q.num.natAbs).length≤(cN q.num).length:=by
  cases q.num with
  |ofNat u=>exact Nat.le_refl _
  |negSucc u=>simp[cN]
 have hp:=qM q.num;have h4:(aS q.num.natAbs).length≤k∧(aS q.den).length≤k:=by
  unfold aN at h;split at h
  ·rename_i hd
   refine⟨by omega,?_⟩;rw[hd];show 1≤k
   omega
  ·simp only[List.length_append,List.length_cons] at h
   omega
 have h5:10 ^ (aS q.num.natAbs).length≤10 ^ k:=Nat.pow_le_pow_right (by omega) h4.1;have h6:10 ^ (aS q.den).length≤10 ^ k:=Nat.pow_le_pow_right (by omega) h4.2;exact⟨by omega,by omega⟩
end Go.Eng
namespace Go.Eng
variable{x:Int}
theorem eW{y:Int}{a b:Nat}(h1:x.natAbs<a)(h2:y.natAbs<b):(x*y).natAbs<a*b:=by rw[Int.natAbs_mul];exact Nat.mul_lt_mul'' h1 h2
def dg(n d:Nat) (q:Rat):Prop:=q.num.natAbs<10 ^ n∧q.den<10 ^ d
theorem dg.mono{n d n' d' :Nat}{q:Rat}(h:dg n d q)(hn:n≤n')(hd:d≤d'):dg n' d' q:=by have h1:10 ^ n≤10 ^ n' :=Nat.pow_le_pow_right (by omega) hn;have h2:10 ^ d≤10 ^ d' :=Nat.pow_le_pow_right (by omega) hd;exact⟨by have:=h.1;omega,by have:=h.2;omega⟩
theorem vd{n d:Nat}{y:Nat}(hy:y≠0)(h1:x.natAbs<10 ^ n)(h2:y<10 ^ d):dg n d (mkRat x y):=by have:=TX x hy;exact⟨by omega,by omega⟩
theorem nj{a b k m:Nat}(h1:a<10 ^ k)(h2:b<10 ^ m):a*b<10 ^ (k+m):=by rw[Nat.pow_add];exact Nat.mul_lt_mul'' h1 h2
variable{a b:Rat}
theorem Kh{n d n' d' :Nat}(ha:dg n d a)(hb:dg n' d' b):dg (n+n') (d+d') (a*b):=by rw[Rat.mul_def'];refine vd (Nat.mul_ne_zero a.den_nz b.den_nz) ?_ (nj ha.2 hb.2);rw[Int.natAbs_mul];exact nj ha.1 hb.1
theorem Rt{n d n' d' m:Nat}(ha:dg n d a)(hb:dg n' d' b)(h1:n+d' ≤m)(h2:n' +d≤m):dg (m+1) (d+d') (a+b):=by rw[Rat.add_def'];refine vd (Nat.mul_ne_zero a.den_nz b.den_nz) ?_ (nj ha.2 hb.2);have h4:=nj ha.1 hb.2;have h5:=nj hb.1 ha.2;have h6:=Int.natAbs_add_le (a.num*b.den) (b.num*a.den);rw[Int.natAbs_mul,Int.natAbs_mul,Int.natAbs_natCast,Int.natAbs_natCast] at h6;have e1:10 ^ (n+d')≤10 ^ m:=Nat.pow_le_pow_right (by omega) h1;have e2:10 ^ (n' +d)≤10 ^ m:=Nat.pow_le_pow_right (by omega) h2;have e3:10 ^ (m+1)=10 ^ m*10:=Nat.pow_succ ..;omega
theorem Vy{n d:Nat}(ha:dg n d a):dg n d (-a):=by refine⟨?_,ha.2⟩;rw[Rat.neg_num,Int.natAbs_neg];exact ha.1
theorem NL{n d n' d' m:Nat}(ha:dg n d a)(hb:dg n' d' b)(h1:n+d' ≤m)(h2:n' +d≤m):dg (m+1) (d+d') (a-b):=by rw[Rat.sub_eq_add_neg];exact Rt ha (Vy hb) h1 h2
theorem Vx{n:Nat}(h:x.natAbs<10 ^ n):dg n 1 (x:Rat):=⟨by simpa using h,by show(1:Nat)<10;decide⟩
theorem dg.lens{n d:Nat}{q:Rat}(h:dg n d q)(hn:0<n)(hd:0<d):(aS q.num.natAbs).length≤n∧(aS q.den).length≤d:=
 ⟨bC hn h.1,bC hd h.2⟩
def stC(l:List (List UInt8)):List AV:=l.map .str
theorem dB(l:List (List UInt8)):(stC l).length=l.length:=by simp[stC]
theorem Qi(l r:List (List UInt8)):stC (l++r)=stC l++stC r:=by simp[stC]
theorem dA:∀l:List (List UInt8),AV.aag (stC l)=true
 | []=>rfl
 |x::l=>by have:=dA l;simp only[stC] at this;simp[stC,AV.aag,AV.closed,this]
variable{i:Nat}
theorem sJ{l:List (List UInt8)}{s:List UInt8}(h:l[i]? =some s):(stC l)[i]? =some (.str s):=by simp[stC,h]
theorem T6(l:List (List UInt8)):(stC l).take l.length=stC l:=List.take_of_length_le (by rw[dB];omega)
def stP:List AV→Option (List (List UInt8))
 | []=>some []
 |.str a::l=>match stP l with
  |some r=>some (a::r)
  |none=>none
 |_=>none
theorem Bz:∀L:List (List UInt8),stP (stC L)=some L
 | []=>rfl
 |k::L=>by have:=Bz L;simp only[stC] at this;simp[stC,stP,this]
theorem N9:∀{cs:List AV}{L:List (List UInt8)},stP cs=some L→cs=stC L
 | [],L,h=>by cases h;rfl
 |v::l,L,h=>by
  unfold stP at h;split at h
  ·rename_i h1;cases h1
  ·rename_i a l' h1
   cases h1;split at h
   ·rename_i r hr
    cases h;have:=N9 hr;simp only[stC] at this ⊢;rw[this];rfl
   ·cases h
  ·cases h
def sts(M:Mem) (x:AV):Option (List (List UInt8)):=match J8 1 M x with
 |some cs=>stP cs
 |none=>none
theorem oP{M:Mem}{x:AV}{L:List (List UInt8)}(h:sts M x=some L):Ue 1 M x L.length (stC L)∨(x=.kO∧L=[]):=by
 unfold sts at h;split at h
 ·rename_i cs XJ
  have hc:=N9 h;subst hc;rcases MS XJ with⟨n,hn,hr⟩ | ⟨rfl,hn⟩
  ·have:n=L.length:=by rw[dB] at hn;omega
   subst this;exact .inl hr
  ·refine .inr ⟨rfl,?_⟩
   cases L with
   |nil=>rfl
   |cons a l=>simp[stC] at hn
 ·cases h
abbrev P2:=Rat×Rat
def pA(p:P2):AV:=.agg [.str (aN p.1),.str (aN p.2)]
def pDg(n:Nat) (p:P2):Prop:=dg n 1 p.1∧dg n 1 p.2
def gr(a b c:P2):Rat:=(b.1-a.1)*(c.2-a.2)-(b.2-a.2)*(c.1-a.1)
def pC:List P2→List AV
 | []=>[]
 |p::l=>.str (aN p.1)::.str (aN p.2)::pC l
theorem gy:∀l:List P2,(pC l).length=l.length*2
 | []=>rfl
 |_::l=>by simp only[pC,List.length_cons,gy l];omega
theorem bV:∀l:List P2,AV.aag (pC l)=true
 | []=>rfl
 |p::l=>by simp[pC,AV.aag,AV.closed,bV l]
theorem be(n:Nat):∀l:List P2,AV.aas n (pC l)=[]
 | []=>rfl
 |p::l=>by simp[pC,AV.aas,AV.refs,be n l]
theorem cz(f:Nat→Option Nat)(l:List P2):AV.aal f (pC l)=pC l:=bR (bV l)
theorem VM:pC []=[]:=rfl
theorem oI(f:Nat→Bool):∀l:List P2,AV.aaa f (pC l)=true
 | []=>rfl
 |p::l=>by simp[pC,AV.aaa,AV.HK,oI f l]
theorem gx:∀l r:List P2,pC (l++r)=pC l++pC r
 | [],_=>rfl
 |p::l,r=>by simp[pC,gx l r]
theorem R5:∀(l:List P2) (i:Nat),(pC l).drop (i*2)=pC (l.drop i)
 |l,0=>by simp
 | [],i+1=>by simp[pC]
 |p::l,i+1=>by
  have:(i+1)*2=i*2+1+1:=by omega
  rw[this];simp only[pC,List.drop_succ_cons];exact R5 l i
theorem wS{l:List P2}{p:P2}(h:l[i]? =some p):
  ((pC l).drop (i*2)).take 2=[.str (aN p.1),.str (aN p.2)]∧(pC l)[i*2]? =some (.str (aN p.1))∧(pC l)[i*2+1]? =some (.str (aN p.2))∧i*2+2≤(pC l).length:=by
 have AC:=(List.getElem?_eq_some_iff.1 h).1;have hd:l.drop i=p::l.drop (i+1):=by rw[List.getElem?_eq_some_iff] at h;obtain⟨h1,h2⟩:=h;rw[←h2];exact List.drop_eq_getElem_cons h1
 have e:=R5 l i;rw[hd] at e;refine⟨by rw[e];rfl,?_,?_,by rw[gy];omega⟩
 ·have:(pC l)[i*2]? =((pC l).drop (i*2))[0]? :=by rw[List.getElem?_drop];rfl
  rw[this,e];rfl
 ·have:(pC l)[i*2+1]? =((pC l).drop (i*2))[1]? :=by rw[List.getElem?_drop]
  rw[this,e];rfl
abbrev Tr:=Nat×Nat×Nat
def tC:List Tr→List AV
 | []=>[]
 |t::l=>.int .i64 (t.1:Int)::.int .i64 (t.2.1:Int)::.int .i64 (t.2.2:Int)::tC l
theorem vB:∀l:List Tr,(tC l).length=l.length*3
 | []=>rfl
 |_::l=>by simp only[tC,List.length_cons,vB l];omega
theorem dp:∀l:List Tr,AV.aag (tC l)=true
 | []=>rfl
 |p::l=>by simp[tC,AV.aag,AV.closed,dp l]
theorem bM(n:Nat):∀l:List Tr,AV.aas n (tC l)=[]
 | []=>rfl
 |p::l=>by simp[tC,AV.aas,AV.refs,bM n l]
theorem iQ(f:Nat→Option Nat)(l:List Tr):AV.aal f (tC l)=tC l:=bR (dp l)
theorem BB(f:Nat→Bool):∀l:List Tr,AV.aaa f (tC l)=true
 | []=>rfl
 |p::l=>by simp[tC,AV.aaa,AV.HK,BB f l]
theorem Nu:∀(l:List Tr) (i:Nat),(tC l).drop (i*3)=tC (l.drop i)
 |l,0=>by simp
 | [],i+1=>by simp[tC]
 |p::l,i+1=>by
  have:(i+1)*3=i*3+1+1+1:=by omega
  rw[this];simp only[tC,List.drop_succ_cons];exact Nu l i
theorem U7{l:List Tr}{t:Tr}(h:l[i]? =some t):
  ((tC l).drop (i*3)).take 3=[.int .i64 (t.1:Int),.int .i64 (t.2.1:Int),.int .i64 (t.2.2:Int)]∧i*3+3≤(tC l).length:=by
 have AC:=(List.getElem?_eq_some_iff.1 h).1;have hd:l.drop i=t::l.drop (i+1):=by rw[List.getElem?_eq_some_iff] at h;obtain⟨h1,h2⟩:=h;rw[←h2];exact List.drop_eq_getElem_cons h1
 have e:=Nu l i;rw[hd] at e;exact⟨by rw[e];rfl,by rw[vB];omega⟩
def pmE(p:P2):AV×AV:=(pA p,.bool true)
theorem vv(n:Nat):∀l:List P2,(l.map pmE).flatMap (fun e=>e.1.refs n++e.2.refs n)=[]
 | []=>rfl
 |p::l=>by simp[pmE,pA,AV.refs,AV.aas,vv n l]
def sqI:List (Int×Int):=[(0,0),(4,0),(4,4),(0,4)]
def cD:Nat→List (Int×Int)
 |0=>sqI
 |1=>sqI
 |2=>[(0,0),(4,0),(4,4),(0,4),(2,1)]
 |3=>[(0,0),(6,0),(0,4)]
 |4=>[(0,0),(2,0),(4,0),(0,2),(2,2),(4,2)]
 |5=>[(1,4),(5,3),(4,0),(0,0)]
 |6=>[(0,0),(4,0),(4,4),(0,4),(2,0)]
 |_=>[(0,0),(6,0),(0,6),(2,2)]
def aI:Nat→List Tr
 |0=>[(0,1,2),(0,2,3)]
 |1=>[(0,1,3),(1,2,3)]
 |2=>[(0,1,4),(1,2,4),(2,3,4),(3,0,4)]
 |3=>[(2,0,1)]
 |4=>[(0,1,4),(0,4,3),(1,2,5),(1,5,4)]
 |5=>[(3,2,1),(3,1,0)]
 |6=>[(0,4,3),(4,2,3),(4,1,2)]
 |_=>[(0,1,3),(1,2,3),(2,0,3)]
def kU:Nat→List Nat
 |2=>[0,1,2,3]
 |3=>[0,1,2]
 |4=>[0,1,2,5,4,3]
 |5=>[0,3,2,1]
 |6=>[0,4,1,2,3]
 |7=>[0,1,2]
 |_=>[0,1,2,3]
def iP:List (Int×Int)→List AV
 | []=>[]
 |p::l=>.int .i64 p.1::.int .i64 p.2::iP l
theorem Ku:∀l:List (Int×Int),(iP l).length=l.length*2
 | []=>rfl
 |_::l=>by simp only[iP,List.length_cons,Ku l];omega
theorem MZ(n:Nat):∀l:List (Int×Int),AV.aas n (iP l)=[]
 | []=>rfl
 |p::l=>by simp[iP,AV.aas,AV.refs,MZ n l]
theorem Kt:∀l:List (Int×Int),AV.aag (iP l)=true
 | []=>rfl
 |p::l=>by simp[iP,AV.aag,AV.closed,Kt l]
theorem RD(f:Nat→Option Nat)(l:List (Int×Int)):AV.aal f (iP l)=iP l:=bR (Kt l)
theorem RC:∀(l:List (Int×Int)) (i:Nat),(iP l).drop (i*2)=iP (l.drop i)
 |l,0=>by simp
 | [],i+1=>by simp[iP]
 |p::l,i+1=>by
  have:(i+1)*2=i*2+1+1:=by omega
  rw[this];simp only[iP,List.drop_succ_cons];exact RC l i
theorem Wf{l:List (Int×Int)}{p:Int×Int}(h:l[i]? =some p):
  (iP l)[i*2]? =some (.int .i64 p.1)∧(iP l)[i*2+1]? =some (.int .i64 p.2)∧i*2+2≤(iP l).length:=by
 have AC:=(List.getElem?_eq_some_iff.1 h).1;have hd:l.drop i=p::l.drop (i+1):=by rw[List.getElem?_eq_some_iff] at h;obtain⟨h1,h2⟩:=h;rw[←h2];exact List.drop_eq_getElem_cons h1
 have e:=RC l i;rw[hd] at e;refine⟨?_,?_,by rw[Ku];omega⟩
 ·have:(iP l)[i*2]? =((iP l).drop (i*2))[0]? :=by rw[List.getElem?_drop];rfl
  rw[this,e];rfl
 ·have:(iP l)[i*2+1]? =((iP l).drop (i*2))[1]? :=by rw[List.getElem?_drop]
  rw[this,e];rfl
structure aaf where
 kind:Nat
 sx:Int
 sy:Int
 half:Bool
structure aaf.Ok (s:aaf):Prop where
 kind:s.kind<256
 x0: -128≤s.sx
 x1:s.sx≤127
 y0: -128≤s.sy
 y1:s.sy≤127
def aaf.av(s:aaf):AV:=.agg [.int .u8 s.kind,.int .i8 s.sx,.int .i8 s.sy,.bool s.half]
def aaf.pt(s:aaf) (k:Nat) (x y:Int):P2:=
 (mkRat (x+s.sx.tmod 8*k) ((if s.half then 2 else 1)*k),mkRat (y+s.sy.tmod 8*k) ((if s.half then 2 else 1)*k))
def aaf.P(s:aaf):List P2:=(cD (s.kind%8)).map fun p=>s.pt 1 p.1 p.2
def aaf.T(s:aaf):List Tr:=aI (s.kind%8)
theorem Sr{n:Int}(h0: -128≤n)(h1:n≤127):IntKind.i8.wrap n=n:=by simp only[IntKind.wrap,IntKind.bits,IntKind.signed,Bool.true_and];split<;>simp_all<;>omega
theorem Ql(x:Int): -7≤x.tmod 8∧x.tmod 8≤7:=by
 have h1:=Int.tmod_lt_of_pos x (show(0:Int)<8 by decide);have h2: -8<x.tmod 8:=by have:=Int.tmod_lt_of_pos (-x) (show(0:Int)<8 by decide);rw[Int.neg_tmod] at this;omega
 omega
def qC(Q:List Rat):List AV:=Q.map fun q=>.str (aN q)
theorem KJ(Q:List Rat):(qC Q).length=Q.length:=by simp[qC]
theorem jx:∀Q:List Rat,AV.aag (qC Q)=true
 | []=>rfl
 |q::Q=>by have:=jx Q;simp only[qC] at this;simp[qC,AV.aag,AV.closed,this]
theorem fY(n:Nat):∀Q:List Rat,AV.aas n (qC Q)=[]
 | []=>rfl
 |q::Q=>by have:=fY n Q;simp only[qC] at this;simp[qC,AV.aas,AV.refs,this]
theorem KK(f:Nat→Bool):∀Q:List Rat,AV.aaa f (qC Q)=true
 | []=>rfl
 |q::Q=>by have:=KK f Q;simp only[qC] at this;simp[qC,AV.aaa,AV.HK,this]
theorem eG(f:Nat→Option Nat)(Q:List Rat):AV.aal f (qC Q)=qC Q:=bR (jx Q)
theorem VN{Q:List Rat}{q:Rat}(h:Q[i]? =some q):(qC Q)[i]? =some (.str (aN q)):=by simp[qC,h]
structure aao where
 kind:Nat
 A:Int×Int×Int
 B:Int×Int×Int
 N:Int
 K:Nat×Nat×Nat×Nat
def aao.cells(d:aao):List AV:=[.int .u8 d.kind,.int .i8 d.A.1,.int .i8 d.A.2.1,.int .i8 d.A.2.2,.int .i8 d.B.1,.int .i8 d.B.2.1,.int .i8 d.B.2.2,.int .i8 d.N,.int .u8 d.K.1,.int .u8 d.K.2.1,.int .u8 d.K.2.2.1,.int .u8 d.K.2.2.2]
def Lf(n:Int):Prop:= -128≤n∧n≤127
def TK(v:Int×Int×Int):Prop:=Lf v.1∧Lf v.2.1∧Lf v.2.2
def VV(v:Nat×Nat×Nat×Nat):Prop:=v.1<256∧v.2.1<256∧v.2.2.1<256∧v.2.2.2<256
structure aao.Ok (d:aao):Prop where
 kind:d.kind<256
 A:TK d.A
 B:TK d.B
 N:Lf d.N
 K:VV d.K
def Uk(v:Int×Int×Int) (k:Nat):Int:=if k=0 then v.1 else if k=1 then v.2.1 else v.2.2
def Lg(v:Nat×Nat×Nat×Nat) (k:Nat):Nat:=if k=0 then v.1 else if k=1 then v.2.1 else if k=2 then v.2.2.1 else v.2.2.2
def hQ(z:Int):Rat:=mkRat z 2
theorem xC(z:Int):hQ z=(z:Rat) / 2:=by unfold hQ;rw[Rat.mkRat_eq_div];rfl
theorem VA(n a:Int):(n:Rat)+hQ a=hQ (2*n+a):=by
 rw[xC,xC,Rat.intCast_add,Rat.intCast_mul];have:((2:Int):Rat)=2:=rfl;rw[this]
 grind
theorem Uh(a b:Int):hQ a+hQ b=hQ (a+b):=by
 rw[xC,xC,xC,Rat.intCast_add]
 grind
theorem We{a b:Int}(h:a≤b):hQ a≤hQ b:=by
 rw[xC,xC];have:(a:Rat)≤(b:Rat):=by exact_mod_cast h
 grind
variable{z:Int}
theorem RA(h:z.natAbs<1000):dg 3 1 (hQ z):=vd (by decide) h (by decide)
theorem A6(h:z.natAbs<1000):(aN (hQ z)).length≤9:=by have h1:=RA h;have h2:big 3 (hQ z):=⟨h1.1,by have:=h1.2;omega⟩;have:=Dg (by decide) h2;omega
def MO(d:aao) (k:Nat):Int:=2*d.N.tmod 4+(Uk d.A (k%3)).tmod 3
def bw(d:aao) (n:Nat):List Int:=(List.range n).map (MO d)
theorem PG(d:aao)(n:Nat):bw d (n+1)=bw d n++[MO d n]:=by simp[bw,List.range_succ]
theorem dF(d:aao)(n:Nat):(bw d n).length=n:=by simp[bw]
def K0(d:aao) (j k:Nat):Int:=((Lg d.K ((j+k)%4)%4:Nat):Int)
def cd(d:aao) (j:Nat) (L:List Int) (n:Nat):List Int:=(List.range n).map fun k=>L.getD k 0+K0 d j k
theorem DO(d:aao)(j:Nat)(L:List Int)(n:Nat):cd d j L (n+1)=cd d j L n++[L.getD n 0+K0 d j n]:=by simp[cd,List.range_succ]
theorem ed(d:aao)(j:Nat)(L:List Int)(n:Nat):(cd d j L n).length=n:=by simp[cd]
def qH(Z:List Int):List Rat:=Z.map hQ
theorem ru(x:Int)(k:Nat)(hk:0<k): -(k:Int)<x.tmod k∧x.tmod k<k:=by have h1:=Int.tmod_lt_of_pos x (show(0:Int)<(k:Int) by omega);have h2:=Int.tmod_lt_of_pos (-x) (show(0:Int)<(k:Int) by omega);rw[Int.neg_tmod] at h2;omega
end Go.Eng
