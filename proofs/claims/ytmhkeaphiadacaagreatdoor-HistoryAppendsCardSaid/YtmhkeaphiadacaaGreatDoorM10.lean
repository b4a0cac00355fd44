/- See M58. -/
import Derived.Lib.ItoaNum
import Derived.Lib.Atoi
import Derived.Lib.Strings
import Derived.Lib.Bytealg
import Derived.Lib.IndexLaws
set_option linter.all false
namespace Go.Eng
def MJ(k:Nat):UInt8:=UInt8.ofNat (48+k)
def isD(c:UInt8):Bool:=decide (48≤c.toNat)&&decide (c.toNat≤57)
def OE:Nat→Nat→List UInt8→List UInt8
 |0,_,acc=>acc
 |f+1,u,acc=>if u<10 then MJ u::acc else OE f (u / 10) (MJ (u%10)::acc)
def aI(u:Nat):List UInt8:=OE (u.log2+1) u []
theorem JD:∀(f u:Nat) (acc:List UInt8),u<2 ^ f→0<f→OE f u acc=Lib.decDigits u++acc
 |0,u,acc,_,h=>by omega
 |f+1,u,acc,h,_=>by
  unfold OE
  by_cases h10:u<10
  ·rw[if_pos h10,Lib.decDigits,dif_pos h10];rfl
  ·rw[if_neg h10,Lib.decDigits,dif_neg h10]
   have hf:0<f:=by
    cases f with
    |zero=>simp at h;omega
    |succ f=>omega
   rw[JD f (u / 10) _ (by rw[Nat.pow_succ] at h;omega) hf]
   simp[MJ]
theorem qt(u:Nat):aI u=Lib.decDigits u:=by
 unfold aI
 rw[JD _ _ _ Nat.lt_log2_self (by omega)]
 simp
theorem gE{u:Nat}(h:u<10):aI u=[MJ u]:=by rw[qt,Lib.decDigits,dif_pos h];rfl
theorem pd{u:Nat}(h:¬u<10):aI u=aI (u / 10)++[MJ (u%10)]:=by
 have e:Lib.decDigits u=Lib.decDigits (u / 10)++[UInt8.ofNat (48+u%10)]:=by
  conv=>lhs;rw[Lib.decDigits]
  rw[dif_neg h]
 unfold MJ
 rw[qt u,qt (u / 10),e]
def sj(a:Nat) (l:List UInt8):Nat:=l.foldl (fun a c=>10*a+(c.toNat-48)) a
theorem eR(a:Nat):sj a []=a:=by unfold sj;rw[List.foldl_nil]
theorem dV(a:Nat) (c:UInt8) (r:List UInt8):sj a (c::r)=sj (10*a+(c.toNat-48)) r:=by unfold sj;rw[List.foldl_cons]
def jv(l:List UInt8):Nat:=sj 0 l
theorem wk:∀(l r:List UInt8) (a:Nat),sj a (l++r)=sj (sj a l) r
 | [],_,a=>by rw[List.nil_append,eR]
 |c::l,r,a=>by rw[List.cons_append,dV,dV,wk l r]
theorem rn(l:List UInt8) (c:UInt8):jv (l++[c])=10*jv l+(c.toNat-48):=by
 unfold jv;rw[wk,dV,eR]
theorem oW{k:Nat}(h:k<10):(MJ k).toNat=48+k:=by
 unfold MJ
 simp[UInt8.toNat_ofNat']
 omega
theorem JC{k:Nat}(h:k<10):isD (MJ k)=true:=by
 unfold isD;rw[oW h];simp;omega
theorem wZ{c:UInt8}(h:isD c=true):MJ (c.toNat-48)=c:=by
 unfold isD at h
 simp only[Bool.and_eq_true,decide_eq_true_eq] at h
 unfold MJ
 apply UInt8.toNat_inj.1
 simp[UInt8.toNat_ofNat']
 omega
theorem uu{c:UInt8}(h:isD c=true):c.toNat-48<10:=by
 unfold isD at h
 simp only[Bool.and_eq_true,decide_eq_true_eq] at h
 omega
theorem rM{p:Nat→Prop}(h0:∀u,u<10→p u) (h1:∀u,¬u<10→p (u / 10)→p u) (u:Nat):p u:=by
 induction u using Nat.strongRecOn with
 |_ u ih=>
  by_cases h:u<10
  ·exact h0 u h
  ·exact h1 u h (ih (u / 10) (by omega))
theorem ez(u:Nat):jv (aI u)=u:=by
 induction u using rM with
 |h0 u h=>
  rw[gE h]
  unfold jv
  rw[dV,eR,oW h];omega
 |h1 u h ih=>rw[pd h,rn,ih,oW (by omega)];omega
theorem eV(u:Nat):(aI u).all isD=true:=by
 induction u using rM with
 |h0 u h=>rw[gE h];simp[JC h]
 |h1 u h ih=>rw[pd h,List.all_append,ih];simp[JC (show u%10<10 by omega)]
theorem nS(u:Nat):aI u≠[]:=by
 induction u using rM with
 |h0 u h=>rw[gE h];simp
 |h1 u h ih=>rw[pd h];simp
theorem rE(u:Nat):0<(aI u).length:=List.length_pos_iff.2 (nS u)
theorem CM(u:Nat) (hu:0<u):(aI u).head? ≠some 48:=by
 induction u using rM with
 |h0 u h=>
  rw[gE h]
  simp only[List.head?_cons,ne_eq,Option.some.injEq]
  intro e
  have:=congrArg UInt8.toNat e
  rw[oW h] at this
  simp at this
  omega
 |h1 u h ih=>
  rw[pd h,List.head?_append]
  have:=ih (by omega)
  cases hh:(aI (u / 10)).head? with
  |none=>exact absurd (List.head?_eq_none_iff.1 hh) (nS _)
  |some x=>rw[hh] at this;simpa using this
theorem nV:aI 0=[48]:=by rw[gE (by omega)];rfl
def ir(l:List UInt8):Bool:=match l with
 | []=>false
 |c::r=>isD c&&r.all isD&&(!(c==48)||r.isEmpty)
theorem Hh(u:Nat):ir (aI u)=true:=by
 have h1:=eV u
 have h2:=nS u
 by_cases hu:u=0
 ·subst hu;rw[nV];rfl
 ·have h3:=CM u (by omega)
  cases hl:aI u with
  |nil=>exact absurd hl h2
  |cons c r=>
   rw[hl] at h1 h3
   simp only[List.all_cons,Bool.and_eq_true] at h1
   simp only[List.head?_cons,ne_eq,Option.some.injEq] at h3
   simp[ir,h1.1,h1.2,h3]
theorem HE{l:List UInt8}{c:UInt8}(hl:l≠[]) (h:ir (l++[c])=true):ir l=true∧isD c=true∧l≠[48]:=by
 cases l with
 |nil=>exact absurd rfl hl
 |cons x r=>
  simp only[List.cons_append,ir,List.all_append,List.all_cons,List.all_nil,Bool.and_true,Bool.and_eq_true] at h
  obtain⟨⟨h1,h2,h3⟩,h4⟩:=h
  have h5:(x==48)=false:=by
   cases hx:x==48 with
   |false=>rfl
   |true=>rw[hx] at h4;simp at h4
  refine⟨by simp[ir,h1,h2,h5],h3,?_⟩
  intro e
  cases e
  simp at h5
theorem Qc{p:List UInt8→Prop}(h0:p []) (h1:∀l c,p l→p (l++[c])) (l:List UInt8):p l:=by
 have:∀n (l:List UInt8),l.length=n→p l:=by
  intro n
  induction n with
  |zero=>intro l hl;rw[List.eq_nil_of_length_eq_zero hl];exact h0
  |succ n ih=>
   intro l hl
   have hne:l≠[]:=by intro e;rw[e] at hl;simp at hl
   rw[←List.dropLast_concat_getLast hne]
   exact h1 _ _ (ih _ (by simp[hl]))
 exact this _ l rfl
theorem yF{l:List UInt8}(h:ir l=true):aI (jv l)=l:=by
 induction l using Qc with
 |h0=>cases h
 |h1 l c ih=>
  by_cases hl:l=[]
  ·subst hl
   simp only[List.nil_append,ir,List.all_nil,Bool.and_true,List.isEmpty_nil,Bool.or_true] at h
   unfold jv
   rw[List.nil_append,dV,eR,Nat.mul_zero,Nat.zero_add,gE (uu h),wZ h]
  ·obtain⟨h1,h2,h3⟩:=HE hl h
   have hi:=ih h1
   have hv:jv l≠0:=by
    intro e
    rw[e,nV] at hi
    exact h3 hi.symm
   have hd:=uu h2
   rw[rn,pd (by omega),show(10*jv l+(c.toNat-48)) / 10=jv l by omega,show(10*jv l+(c.toNat-48))%10=c.toNat-48 by omega,hi,wZ h2]
def wL(l:List UInt8):Option Nat:=if ir l then some (jv l) else none
theorem fH(u:Nat):wL (aI u)=some u:=by unfold wL;rw[if_pos (Hh u),ez]
theorem iW{l:List UInt8}{u:Nat}(h:wL l=some u):l=aI u:=by
 unfold wL at h
 split at h
 ·rename_i hc;cases h;exact(yF hc).symm
 ·cases h
theorem Jf{u v:Nat}(h:aI u=aI v):u=v:=by rw[←ez u,h,ez]
theorem xW(u:Nat) (hu:0<u):10 ^ ((aI u).length-1)≤u:=by
 induction u using rM with
 |h0 u h=>rw[gE h];simp;omega
 |h1 u h ih=>
  rw[pd h]
  have:=ih (by omega)
  have hp:=rE (u / 10)
  simp only[List.length_append,List.length_singleton,Nat.add_sub_cancel]
  have e:10 ^ (aI (u / 10)).length=10 ^ ((aI (u / 10)).length-1)*10:=by rw[←Nat.pow_succ];congr 1;omega
  rw[e];omega
theorem dr(u:Nat):u<10 ^ (aI u).length:=by
 rw[qt,Lib.decDigits_length];exact Lib.lt_pow_nDigits u
theorem bl{u k:Nat}(hk:0<k) (h:u<10 ^ k):(aI u).length≤k:=by
 by_cases hu:u=0
 ·subst hu;rw[nV];exact hk
 ·have h1:=xW u (by omega)
  have h2:10 ^ ((aI u).length-1)<10 ^ k:=by omega
  have:=(Nat.pow_lt_pow_iff_right (by omega:1<10)).1 h2
  omega
def bW(n:Int):List UInt8:=match n with
 |.ofNat u=>aI u
 |.negSucc u=>45::aI (u+1)
theorem Mg(n:Int):bW n=Lib.itoa n:=by
 unfold Lib.itoa
 cases n with
 |ofNat u=>rw[if_neg (by simp)];simp[bW,qt]
 |negSucc u=>rw[if_pos (Int.negSucc_lt_zero u)];simp[bW,qt]
def nE(l:List UInt8):Option Int:=match l with
 |45::r=>match wL r with
  |some (u+1)=>some (.negSucc u)
  |_=>none
 |l=>match wL l with
  |some u=>some (.ofNat u)
  |none=>none
theorem mA(u:Nat):(aI u).head? ≠some 45:=by
 cases hl:aI u with
 |nil=>simp
 |cons c r=>
  have:=eV u
  rw[hl] at this
  simp only[List.all_cons,Bool.and_eq_true] at this
  simp only[List.head?_cons,ne_eq,Option.some.injEq]
  rintro rfl
  exact absurd this.1 (by decide)
theorem bT(n:Int):nE (bW n)=some n:=by
 cases n with
 |ofNat u=>
  have h:=mA u
  simp only[bW]
  unfold nE
  split
  ·rename_i r hr
   rw[hr] at h;simp at h
  ·rw[fH]
 |negSucc u=>simp[bW,nE,fH]
theorem dG{l:List UInt8}{n:Int}(h:nE l=some n):l=bW n:=by
 unfold nE at h
 split at h
 ·split at h
  ·rename_i hr
   cases h
   simp[bW,iW hr]
  ·cases h
 ·split at h
  ·rename_i hr
   cases h
   simp[bW,iW hr]
  ·cases h
theorem NI{m n:Int}(h:bW m=bW n):m=n:=by
 have:=bT m
 rw[h,bT] at this
 exact(Option.some.inj this).symm
theorem kG(n:Int):Lib.hasPrefix (bW n) [45]=decide (n<0):=by
 cases n with
 |ofNat u=>
  have h:=mA u
  simp only[bW]
  cases hl:aI u with
  |nil=>exact absurd hl (nS u)
  |cons c r=>
   rw[hl] at h
   simp only[List.head?_cons,ne_eq,Option.some.injEq] at h
   rw[show decide (Int.ofNat u<0)=false by simp]
   have h' :¬(45:UInt8)=c:=fun e=>h e.symm
   simp[Lib.hasPrefix,List.isPrefixOf,h']
 |negSucc u=>simp[bW,Lib.hasPrefix,List.isPrefixOf,Int.negSucc_lt_zero]
theorem jh(n:Int):Lib.trimPrefix (bW n) [45]=aI n.natAbs:=by
 unfold Lib.trimPrefix
 rw[kG]
 cases n with
 |ofNat u=>
  rw[show decide (Int.ofNat u<0)=false by simp]
  rfl
 |negSucc u=>simp[bW,Int.negSucc_lt_zero,Int.natAbs]
theorem EX{c:UInt8}(h:isD c=true):Lib.digitVal c=some (c.toNat-48):=by
 unfold isD at h
 simp only[Bool.and_eq_true,decide_eq_true_eq] at h
 unfold Lib.digitVal
 rw[if_pos h]
theorem uz:∀(l:List UInt8) (a:Nat),l.all isD=true→Lib.decFrom a l=some (sj a l)
 | [],a,_=>by rw[eR];rfl
 |c::r,a,h=>by
  simp only[List.all_cons,Bool.and_eq_true] at h
  unfold Lib.decFrom
  rw[EX h.1,dV]
  simp only
  rw[uz r _ h.2,Nat.mul_comm]
theorem yf(u:Nat):Lib.decNat (aI u)=some u:=by
 unfold Lib.decNat
 have h:(aI u).isEmpty=false:=by
  cases hl:aI u with
  |nil=>exact absurd hl (nS u)
  |cons=>rfl
 rw[h]
 simp only[Bool.false_eq_true,if_false]
 rw[uz _ _ (eV u)]
 exact congrArg some (ez u)
theorem lH(n:Int):Lib.atoi (bW n)=some n:=by
 cases n with
 |ofNat u=>
  have h1:=mA u
  have h2:=eV u
  have h3:=yf u
  simp only[bW]
  cases hl:aI u with
  |nil=>exact absurd hl (nS u)
  |cons c r=>
   rw[hl] at h1 h2 h3
   simp only[List.head?_cons,ne_eq,Option.some.injEq] at h1
   simp only[List.all_cons,Bool.and_eq_true] at h2
   have hc:¬c=43:=by rintro rfl;exact absurd h2.1 (by decide)
   simp[Lib.atoi,h1,hc,h3]
 |negSucc u=>
  simp[bW,Lib.atoi,yf,Int.negSucc_eq]
theorem kR{u v:Nat}(h:(aI u).length<(aI v).length):u<v:=by
 have h1:=dr u
 have hv:0<v:=by
  by_cases hv:v=0
  ·subst hv
   rw[nV] at h
   have:=rE u
   simp only[List.length_singleton] at h
   omega
  ·omega
 have h2:=xW v hv
 have h3:10 ^ (aI u).length≤10 ^ ((aI v).length-1):=Nat.pow_le_pow_right (by omega) (by omega)
 exact Nat.lt_of_lt_of_le h1 (Nat.le_trans h3 h2)
def Gs(u v:Nat):Int:=if u<v then -1 else if v<u then 1 else 0
theorem pZ:∀(l:List UInt8) (a:Nat),l.all isD=true→sj a l<(a+1)*10 ^ l.length
 | [],a,_=>by rw[eR];simp
 |c::r,a,h=>by
  simp only[List.all_cons,Bool.and_eq_true] at h
  have hd:=uu h.1
  have:=pZ r (10*a+(c.toNat-48)) h.2
  rw[dV]
  refine Nat.lt_of_lt_of_le this ?_
  rw[List.length_cons,Nat.pow_succ,Nat.mul_comm (10 ^ r.length) 10,←Nat.mul_assoc]
  exact Nat.mul_le_mul_right _ (by omega)
theorem Mp:∀(l:List UInt8) (a:Nat),a*10 ^ l.length≤sj a l
 | [],a=>by rw[eR];simp
 |c::r,a=>by
  have:=Mp r (10*a+(c.toNat-48))
  rw[dV]
  refine Nat.le_trans ?_ this
  rw[List.length_cons,Nat.pow_succ,Nat.mul_comm (10 ^ r.length) 10,←Nat.mul_assoc]
  exact Nat.mul_le_mul_right _ (by omega)
theorem kV:∀(l r:List UInt8) (a:Nat),l.length=r.length→l.all isD=true→r.all isD=true→Lib.compareBytes l r=Gs (sj a l) (sj a r)
 | [],[],a,_,_,_=>by
  rw[eR]
  show(0:Int)=Gs a a
  unfold Gs;rw[if_neg (by omega),if_neg (by omega)]
 | [],_::_,_,h,_,_=>by simp at h
 |_::_,[],_,h,_,_=>by simp at h
 |c::l,d::r,a,h,h1,h2=>by
  simp only[List.length_cons,Nat.add_right_cancel_iff] at h
  simp only[List.all_cons,Bool.and_eq_true] at h1 h2
  have key:∀{x y:UInt8}{l r:List UInt8},isD x=true→isD y=true→l.all isD=true→l.length=r.length→x<y→sj (10*a+(x.toNat-48)) l<sj (10*a+(y.toNat-48)) r:=by
   intro x y l r hx hy hl hlr hxy
   have e1:=pZ l (10*a+(x.toNat-48)) hl
   have e2:=Mp r (10*a+(y.toNat-48))
   have hxy' :x.toNat<y.toNat:=hxy
   unfold isD at hx hy
   simp only[Bool.and_eq_true,decide_eq_true_eq] at hx hy
   rw[hlr] at e1
   have:(10*a+(x.toNat-48)+1)*10 ^ r.length≤(10*a+(y.toNat-48))*10 ^ r.length:=Nat.mul_le_mul_right _ (by omega)
   omega
  unfold Lib.compareBytes
  rw[dV,dV]
  by_cases hcd:c<d
  ·rw[if_pos hcd]
   have:=key h1.1 h2.1 h1.2 h hcd
   unfold Gs;rw[if_pos this]
  ·rw[if_neg hcd]
   by_cases hdc:d<c
   ·rw[if_pos hdc]
    have:=key h2.1 h1.1 h2.2 h.symm hdc
    unfold Gs;rw[if_neg (by omega),if_pos this]
   ·rw[if_neg hdc]
    have hn1:¬c.toNat<d.toNat:=hcd
    have hn2:¬d.toNat<c.toNat:=hdc
    have e:c.toNat=d.toNat:=by omega
    rw[e]
    exact kV l r _ h h1.2 h2.2
theorem tw{u v:Nat}(h:(aI u).length=(aI v).length):Lib.compareBytes (aI u) (aI v)=Gs u v:=by
 have:=kV (aI u) (aI v) 0 h (eV u) (eV v)
 rw[this]
 show Gs (jv (aI u)) (jv (aI v))=_
 rw[ez,ez]
def m6(n:Int):Int:=if n<0 then -1 else if n=0 then 0 else 1
def G9(m n:Int):Int:=if m<n then -1 else if n<m then 1 else 0
theorem Np(n:Int):bW n=[48]↔n=0:=by
 constructor
 ·intro h;exact NI (h.trans (by rfl))
 ·rintro rfl;rfl
theorem iK(n:Int):(bW n==[48])=decide (n=0):=by
 rw[Bool.eq_iff_iff];simp[Np]
theorem oM(n:Int):0<(bW n).length:=by
 cases n with
 |ofNat u=>exact rE u
 |negSucc u=>simp[bW]
theorem oP{n:Int}(h:0<n):bW (-n)=45::bW n:=by
 cases n with
 |ofNat u=>
  cases u with
  |zero=>simp at h
  |succ u=>rfl
 |negSucc u=>exact absurd h (by have:=Int.negSucc_lt_zero u;omega)
theorem Cd{n:Int}(h:n<0):(bW n).drop 1=bW (-n):=by
 have:=oP (n:= -n) (by omega)
 rw[Int.neg_neg] at this
 rw[this]
 rfl
theorem mP{n:Int}(h:0≤n):bW n=aI n.natAbs:=by
 cases n with
 |ofNat u=>rfl
 |negSucc u=>exact absurd h (by have:=Int.negSucc_lt_zero u;omega)
theorem PI(a b:Int):G9 a b=if m6 a≠m6 b then (if m6 a<m6 b then -1 else 1) else
  if (aI a.natAbs).length≠(aI b.natAbs).length then (if (aI a.natAbs).length<(aI b.natAbs).length then-m6 a else m6 a) else m6 a*Gs a.natAbs b.natAbs:=by
 by_cases hs:m6 a≠m6 b
 ·rw[if_pos hs]
  unfold m6 at hs ⊢
  unfold G9
  repeat' split
  all_goals first | rfl | omega
 ·rw[if_neg hs]
  by_cases hl:(aI a.natAbs).length≠(aI b.natAbs).length
  ·rw[if_pos hl]
   by_cases hlt:(aI a.natAbs).length<(aI b.natAbs).length
   ·rw[if_pos hlt]
    have:=kR hlt
    unfold m6 at hs ⊢
    unfold G9
    repeat' split
    all_goals first | rfl | omega
   ·rw[if_neg hlt]
    have:=kR (u:=b.natAbs) (v:=a.natAbs) (by omega)
    unfold m6 at hs ⊢
    unfold G9
    repeat' split
    all_goals first | rfl | omega
  ·rw[if_neg hl]
   unfold m6 at hs ⊢
   unfold G9 Gs
   repeat' split
   all_goals first | rfl | omega
def aK(q:Rat):List UInt8:=if q.den=1 then bW q.num else bW q.num++47::aI q.den
theorem rX(u:Nat):(47:UInt8)∉aI u:=by
 intro h
 have:=List.all_eq_true.1 (eV u) _ h
 exact absurd this (by decide)
theorem iL(n:Int):(47:UInt8)∉bW n:=by
 cases n with
 |ofNat u=>exact rX u
 |negSucc u=>
  simp only[bW,List.mem_cons,not_or]
  exact⟨by decide,rX _⟩
theorem lE:∀(l:List UInt8) (c:UInt8),c∉l→Lib.indexByte l c= -1
 | [],_,_=>rfl
 |b::l,c,h=>by
  simp only[List.mem_cons,not_or] at h
  unfold Lib.indexByte
  rw[if_neg (by simpa using fun e=>h.1 e.symm),lE l c h.2]
  rfl
theorem uf:∀(l r:List UInt8) (c:UInt8),c∉l→Lib.indexByte (l++c::r) c=l.length
 | [],r,c,_=>by simp[Lib.indexByte]
 |b::l,r,c,h=>by
  simp only[List.mem_cons,not_or] at h
  rw[List.cons_append]
  unfold Lib.indexByte
  rw[if_neg (by simpa using fun e=>h.1 e.symm),uf l r c h.2]
  have hn:¬(((l.length:Int)== -1)=true):=by rw[beq_iff_eq];omega
  rw[if_neg hn]
  rfl
theorem zD(q:Rat):Lib.indexByte (aK q) 47=if q.den=1 then -1 else ((bW q.num).length:Int):=by
 unfold aK
 split
 ·exact lE _ _ (iL _)
 ·exact uf _ _ _ (iL _)
def Lc(n:Int) (d:Nat):Option Rat:=if h:1<d∧n.natAbs.gcd d=1 then some ⟨n,d,by omega,h.2⟩ else none
def dz(l:List UInt8):Option Rat:=match l.idxOf? 47 with
 |none=>match nE l with
  |some n=>some ⟨n,1,by decide,Nat.gcd_one_right _⟩
  |none=>none
 |some i=>match nE (l.take i),wL (l.drop (i+1)) with
  |some n,some d=>Lc n d
  |_,_=>none
theorem Lv{l:List UInt8}{c:UInt8}(h:c∉l):l.idxOf? c=none:=List.idxOf?_eq_none_iff.2 h
theorem NM{l r:List UInt8}{c:UInt8}(h:c∉l):(l++c::r).idxOf? c=some l.length:=by
 rw[List.idxOf?_eq_some_iff]
 refine⟨by simp,by simp,fun j hj=>?_⟩
 rw[List.getElem_append_left hj]
 intro e
 exact h (e▸List.getElem_mem hj)
theorem aM(q:Rat):dz (aK q)=some q:=by
 unfold dz aK
 by_cases h:q.den=1
 ·rw[if_pos h,Lv (iL _)]
  simp only[bT]
  congr 1
  apply Rat.ext
  ·rfl
  ·exact h.symm
 ·have h1:List.drop ((bW q.num).length+1) (bW q.num++47::aI q.den)=aI q.den:=by
   rw[List.drop_append];simp
  have h2:List.take (bW q.num).length (bW q.num++47::aI q.den)=bW q.num:=List.take_left' rfl
  have hd:1<q.den:=by have:=q.den_nz;omega
  have hr:q.num.natAbs.gcd q.den=1:=q.reduced
  rw[if_neg h,NM (iL _)]
  simp only
  rw[h1,h2,bT,fH]
  simp only[Lc]
  rw[dif_pos ⟨hd,hr⟩]
theorem ap{l:List UInt8}{q:Rat}(h:dz l=some q):l=aK q:=by
 unfold dz at h
 split at h
 ·split at h
  ·rename_i n hn
   cases h
   unfold aK
   rw[if_pos rfl]
   exact dG hn
  ·cases h
 ·rename_i i hi
  split at h
  ·rename_i n d hn hd
   unfold Lc at h
   split at h
   ·rename_i hc
    cases h
    unfold aK
    rw[if_neg (by show¬d=1;omega)]
    obtain⟨hlt,hget,_⟩:=List.idxOf?_eq_some_iff.1 hi
    show l=bW n++47::aI d
    rw[←dG hn,←iW hd]
    have:l.drop i=47::l.drop (i+1):=by rw[List.drop_eq_getElem_cons hlt,hget]
    rw[←this,List.take_append_drop]
   ·cases h
  ·cases h
theorem vJ{p q:Rat}(h:aK p=aK q):p=q:=by
 have:=aM p
 rw[h,aM] at this
 exact(Option.some.inj this).symm
theorem Dw(q:Rat):aK q=[48]↔q=0:=by
 constructor
 ·intro h;exact vJ (h.trans (by rfl))
 ·rintro rfl;rfl
theorem bq(q:Rat):(aK q==[48])=decide (q=0):=by
 rw[Bool.eq_iff_iff];simp[Dw]
theorem neg_num(q:Rat):(-q).num= -q.num:=rfl
theorem PN(q:Rat):(-q).den=q.den:=rfl
theorem ow{q:Rat}(h:0<q.num):aK (-q)=45::aK q:=by
 unfold aK
 rw[neg_num,PN,oP h]
 split<;>rfl
theorem ne{q:Rat}(h:q.num<0):aK q=45::aK (-q):=by
 have:=ow (q:= -q) (by rw[neg_num];omega)
 rwa [Rat.neg_neg] at this
theorem vQ{q:Rat}:q.num=0↔q=0:=by
 constructor
 ·intro h
  apply Rat.ext
  ·exact h
  ·have:=q.reduced
   rw[h] at this
   simpa [Nat.Coprime] using this
 ·rintro rfl;rfl
theorem nT{q:Rat}(h:0≤q.num):∃c r,aK q=c::r∧isD c=true:=by
 have h1:∃c r,bW q.num=c::r∧isD c=true:=by
  rw[mP h]
  have:=eV q.num.natAbs
  cases hl:aI q.num.natAbs with
  |nil=>exact absurd hl (nS _)
  |cons c r=>
   rw[hl] at this
   simp only[List.all_cons,Bool.and_eq_true] at this
   exact⟨c,r,rfl,this.1⟩
 obtain⟨c,r,e,hc⟩:=h1
 unfold aK
 split
 ·exact⟨c,r,e,hc⟩
 ·exact⟨c,r++47::aI q.den,by rw[e];rfl,hc⟩
theorem ff{c:UInt8}(h:isD c=true):¬((c.toNat:Int)=45):=by
 unfold isD at h
 simp only[Bool.and_eq_true,decide_eq_true_eq] at h
 omega
def Hm(q:Rat):Int:=m6 q.num
def big(k:Nat) (q:Rat):Prop:=q.num.natAbs<10 ^ k∧q.den<10 ^ k
theorem big.mono{k m:Nat}{q:Rat}(h:big k q) (hm:k≤m):big m q:=by
 have:10 ^ k≤10 ^ m:=Nat.pow_le_pow_right (by omega) hm
 exact⟨by have:=h.1;omega,by have:=h.2;omega⟩
theorem NO(n:Int) {d:Nat}(hd:d≠0):(mkRat n d).num.natAbs≤n.natAbs∧(mkRat n d).den≤d:=by
 rw[Rat.num_mkRat,Rat.den_mkRat,if_neg hd,if_neg hd]
 refine⟨?_,Nat.div_le_self _ _⟩
 exact Int.natAbs_ediv_le_natAbs _ _
theorem ei(n:Int):(bW n).length≤(aI n.natAbs).length+1:=by
 cases n with
 |ofNat u=>simp[bW]
 |negSucc u=>simp[bW]
theorem Ak{k:Nat}(hk:0<k) {q:Rat}(h:big k q):(aK q).length≤2*k+2:=by
 have h1:=bl hk h.1
 have h2:=bl hk h.2
 have h3:=ei q.num
 unfold aK
 split
 ·omega
 ·simp only[List.length_append,List.length_cons];omega
theorem BV{k:Nat}{q:Rat}(h:(aK q).length≤k):big k q:=by
 have h1:=dr q.num.natAbs
 have h2:=dr q.den
 have h3:(aI q.num.natAbs).length≤(bW q.num).length:=by
  cases q.num with
  |ofNat u=>exact Nat.le_refl _
  |negSucc u=>simp[bW]
 have hp:=oM q.num
 have h4:(aI q.num.natAbs).length≤k∧(aI q.den).length≤k:=by
  unfold aK at h
  split at h
  ·rename_i hd
   refine⟨by omega,?_⟩
   rw[hd]
   show 1≤k
   omega
  ·simp only[List.length_append,List.length_cons] at h
   omega
 have h5:10 ^ (aI q.num.natAbs).length≤10 ^ k:=Nat.pow_le_pow_right (by omega) h4.1
 have h6:10 ^ (aI q.den).length≤10 ^ k:=Nat.pow_le_pow_right (by omega) h4.2
 exact⟨by omega,by omega⟩
end Go.Eng
namespace Go.Eng
theorem dH{x y:Int}{a b:Nat}(h1:x.natAbs<a) (h2:y.natAbs<b):(x*y).natAbs<a*b:=by
 rw[Int.natAbs_mul];exact Nat.mul_lt_mul'' h1 h2
def dg(n d:Nat) (q:Rat):Prop:=q.num.natAbs<10 ^ n∧q.den<10 ^ d
theorem dg.mono{n d n' d' :Nat}{q:Rat}(h:dg n d q) (hn:n≤n') (hd:d≤d'):dg n' d' q:=by
 have h1:10 ^ n≤10 ^ n' :=Nat.pow_le_pow_right (by omega) hn
 have h2:10 ^ d≤10 ^ d' :=Nat.pow_le_pow_right (by omega) hd
 exact⟨by have:=h.1;omega,by have:=h.2;omega⟩
theorem qL{n d:Nat}{x:Int}{y:Nat}(hy:y≠0) (h1:x.natAbs<10 ^ n) (h2:y<10 ^ d):dg n d (mkRat x y):=by
 have:=NO x hy
 exact⟨by omega,by omega⟩
theorem lr{a b k m:Nat}(h1:a<10 ^ k) (h2:b<10 ^ m):a*b<10 ^ (k+m):=by
 rw[Nat.pow_add];exact Nat.mul_lt_mul'' h1 h2
theorem Gp{n d n' d' :Nat}{a b:Rat}(ha:dg n d a) (hb:dg n' d' b):dg (n+n') (d+d') (a*b):=by
 rw[Rat.mul_def']
 refine qL (Nat.mul_ne_zero a.den_nz b.den_nz) ?_ (lr ha.2 hb.2)
 rw[Int.natAbs_mul]
 exact lr ha.1 hb.1
theorem L5{n d n' d' m:Nat}{a b:Rat}(ha:dg n d a) (hb:dg n' d' b) (h1:n+d' ≤m) (h2:n' +d≤m):dg (m+1) (d+d') (a+b):=by
 rw[Rat.add_def']
 refine qL (Nat.mul_ne_zero a.den_nz b.den_nz) ?_ (lr ha.2 hb.2)
 have h4:=lr ha.1 hb.2
 have h5:=lr hb.1 ha.2
 have h6:=Int.natAbs_add_le (a.num*b.den) (b.num*a.den)
 rw[Int.natAbs_mul,Int.natAbs_mul,Int.natAbs_natCast,Int.natAbs_natCast] at h6
 have e1:10 ^ (n+d')≤10 ^ m:=Nat.pow_le_pow_right (by omega) h1
 have e2:10 ^ (n' +d)≤10 ^ m:=Nat.pow_le_pow_right (by omega) h2
 have e3:10 ^ (m+1)=10 ^ m*10:=Nat.pow_succ ..
 omega
theorem Qr{n d:Nat}{a:Rat}(ha:dg n d a):dg n d (-a):=by
 refine⟨?_,ha.2⟩
 rw[Rat.neg_num,Int.natAbs_neg];exact ha.1
theorem Jq{n d n' d' m:Nat}{a b:Rat}(ha:dg n d a) (hb:dg n' d' b) (h1:n+d' ≤m) (h2:n' +d≤m):dg (m+1) (d+d') (a-b):=by
 rw[Rat.sub_eq_add_neg];exact L5 ha (Qr hb) h1 h2
theorem Qv{n:Nat}{x:Int}(h:x.natAbs<10 ^ n):dg n 1 (x:Rat):=⟨by simpa using h,by show(1:Nat)<10;decide⟩
theorem dg.lens{n d:Nat}{q:Rat}(h:dg n d q) (hn:0<n) (hd:0<d):(aI q.num.natAbs).length≤n∧(aI q.den).length≤d:=
 ⟨bl hn h.1,bl hd h.2⟩
end Go.Eng
