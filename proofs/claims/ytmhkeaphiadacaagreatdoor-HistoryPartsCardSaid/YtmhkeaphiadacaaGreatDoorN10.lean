/- See N58. -/
import Derived.Lib.ItoaNum
import Derived.Lib.Atoi
import Derived.Lib.Strings
import Derived.Lib.Bytealg
import Derived.Lib.IndexLaws
set_option linter.all false
namespace Go.Eng
def Nd(k:Nat):UInt8:=UInt8.ofNat (48+k)
def isD(c:UInt8):Bool:=decide (48≤c.toNat)&&decide (c.toNat≤57)
def Pz:Nat→Nat→List UInt8→List UInt8
 |0,_,acc=>acc
 |f+1,u,acc=>if u<10 then Nd u::acc else Pz f (u / 10) (Nd (u%10)::acc)
def aK(u:Nat):List UInt8:=Pz (u.log2+1) u []
theorem J7:∀(f u:Nat) (acc:List UInt8),u<2 ^ f→0<f→Pz f u acc=Lib.decDigits u++acc
 |0,u,acc,_,h=>by omega
 |f+1,u,acc,h,_=>by
  unfold Pz
  by_cases h10:u<10
  ·rw[if_pos h10,Lib.decDigits,dif_pos h10];rfl
  ·rw[if_neg h10,Lib.decDigits,dif_neg h10]
   have hf:0<f:=by
    cases f with
    |zero=>simp at h;omega
    |succ f=>omega
   rw[J7 f (u / 10) _ (by rw[Nat.pow_succ] at h;omega) hf]
   simp[Nd]
theorem qV(u:Nat):aK u=Lib.decDigits u:=by
 unfold aK
 rw[J7 _ _ _ Nat.lt_log2_self (by omega)]
 simp
theorem gN{u:Nat}(h:u<10):aK u=[Nd u]:=by rw[qV,Lib.decDigits,dif_pos h];rfl
theorem pL{u:Nat}(h:¬u<10):aK u=aK (u / 10)++[Nd (u%10)]:=by
 have e:Lib.decDigits u=Lib.decDigits (u / 10)++[UInt8.ofNat (48+u%10)]:=by
  conv=>lhs;rw[Lib.decDigits]
  rw[dif_neg h]
 unfold Nd
 rw[qV u,qV (u / 10),e]
def ur(a:Nat) (l:List UInt8):Nat:=l.foldl (fun a c=>10*a+(c.toNat-48)) a
theorem fg(a:Nat):ur a []=a:=by unfold ur;rw[List.foldl_nil]
theorem ee(a:Nat) (c:UInt8) (r:List UInt8):ur a (c::r)=ur (10*a+(c.toNat-48)) r:=by unfold ur;rw[List.foldl_cons]
def jA(l:List UInt8):Nat:=ur 0 l
theorem ze:∀(l r:List UInt8) (a:Nat),ur a (l++r)=ur (ur a l) r
 | [],_,a=>by rw[List.nil_append,fg]
 |c::l,r,a=>by rw[List.cons_append,ee,ee,ze l r]
theorem sR(l:List UInt8) (c:UInt8):jA (l++[c])=10*jA l+(c.toNat-48):=by
 unfold jA;rw[ze,ee,fg]
theorem pF{k:Nat}(h:k<10):(Nd k).toNat=48+k:=by
 unfold Nd
 simp[UInt8.toNat_ofNat']
 omega
theorem JX{k:Nat}(h:k<10):isD (Nd k)=true:=by
 unfold isD;rw[pF h];simp;omega
theorem yo{c:UInt8}(h:isD c=true):Nd (c.toNat-48)=c:=by
 unfold isD at h
 simp only[Bool.and_eq_true,decide_eq_true_eq] at h
 unfold Nd
 apply UInt8.toNat_inj.1
 simp[UInt8.toNat_ofNat']
 omega
theorem uS{c:UInt8}(h:isD c=true):c.toNat-48<10:=by
 unfold isD at h
 simp only[Bool.and_eq_true,decide_eq_true_eq] at h
 omega
theorem sD{p:Nat→Prop}(h0:∀u,u<10→p u) (h1:∀u,¬u<10→p (u / 10)→p u) (u:Nat):p u:=by
 induction u using Nat.strongRecOn with
 |_ u ih=>
  by_cases h:u<10
  ·exact h0 u h
  ·exact h1 u h (ih (u / 10) (by omega))
theorem eL(u:Nat):jA (aK u)=u:=by
 induction u using sD with
 |h0 u h=>
  rw[gN h]
  unfold jA
  rw[ee,fg,pF h];omega
 |h1 u h ih=>rw[pL h,sR,ih,pF (by omega)];omega
theorem ff(u:Nat):(aK u).all isD=true:=by
 induction u using sD with
 |h0 u h=>rw[gN h];simp[JX h]
 |h1 u h ih=>rw[pL h,List.all_append,ih];simp[JX (show u%10<10 by omega)]
theorem oT(u:Nat):aK u≠[]:=by
 induction u using sD with
 |h0 u h=>rw[gN h];simp
 |h1 u h ih=>rw[pL h];simp
theorem sG(u:Nat):0<(aK u).length:=List.length_pos_iff.2 (oT u)
theorem Hb(u:Nat) (hu:0<u):(aK u).head? ≠some 48:=by
 induction u using sD with
 |h0 u h=>
  rw[gN h]
  simp only[List.head?_cons,ne_eq,Option.some.injEq]
  intro e
  have:=congrArg UInt8.toNat e
  rw[pF h] at this
  simp at this
  omega
 |h1 u h ih=>
  rw[pL h,List.head?_append]
  have:=ih (by omega)
  cases hh:(aK (u / 10)).head? with
  |none=>exact absurd (List.head?_eq_none_iff.1 hh) (oT _)
  |some x=>rw[hh] at this;simpa using this
theorem oU:aK 0=[48]:=by rw[gN (by omega)];rfl
def iz(l:List UInt8):Bool:=match l with
 | []=>false
 |c::r=>isD c&&r.all isD&&(!(c==48)||r.isEmpty)
theorem I7(u:Nat):iz (aK u)=true:=by
 have h1:=ff u
 have h2:=oT u
 by_cases hu:u=0
 ·subst hu;rw[oU];rfl
 ·have h3:=Hb u (by omega)
  cases hl:aK u with
  |nil=>exact absurd hl h2
  |cons c r=>
   rw[hl] at h1 h3
   simp only[List.all_cons,Bool.and_eq_true] at h1
   simp only[List.head?_cons,ne_eq,Option.some.injEq] at h3
   simp[iz,h1.1,h1.2,h3]
theorem I6{l:List UInt8}{c:UInt8}(hl:l≠[]) (h:iz (l++[c])=true):iz l=true∧isD c=true∧l≠[48]:=by
 cases l with
 |nil=>exact absurd rfl hl
 |cons x r=>
  simp only[List.cons_append,iz,List.all_append,List.all_cons,List.all_nil,Bool.and_true,Bool.and_eq_true] at h
  obtain⟨⟨h1,h2,h3⟩,h4⟩:=h
  have h5:(x==48)=false:=by
   cases hx:x==48 with
   |false=>rfl
   |true=>rw[hx] at h4;simp at h4
  refine⟨by simp[iz,h1,h2,h5],h3,?_⟩
  intro e
  cases e
  simp at h5
theorem QK{p:List UInt8→Prop}(h0:p []) (h1:∀l c,p l→p (l++[c])) (l:List UInt8):p l:=by
 have:∀n (l:List UInt8),l.length=n→p l:=by
  intro n
  induction n with
  |zero=>intro l hl;rw[List.eq_nil_of_length_eq_zero hl];exact h0
  |succ n ih=>
   intro l hl
   have hne:l≠[]:=by intro e;rw[e] at hl;simp at hl
   rw[←List.dropLast_concat_getLast hne]
   exact h1 _ _ (ih _ (by simp[hl]))
 exact this _ l rfl
theorem yP{l:List UInt8}(h:iz l=true):aK (jA l)=l:=by
 induction l using QK with
 |h0=>cases h
 |h1 l c ih=>
  by_cases hl:l=[]
  ·subst hl
   simp only[List.nil_append,iz,List.all_nil,Bool.and_true,List.isEmpty_nil,Bool.or_true] at h
   unfold jA
   rw[List.nil_append,ee,fg,Nat.mul_zero,Nat.zero_add,gN (uS h),yo h]
  ·obtain⟨h1,h2,h3⟩:=I6 hl h
   have hi:=ih h1
   have hv:jA l≠0:=by
    intro e
    rw[e,oU] at hi
    exact h3 hi.symm
   have hd:=uS h2
   rw[sR,pL (by omega),show(10*jA l+(c.toNat-48)) / 10=jA l by omega,show(10*jA l+(c.toNat-48))%10=c.toNat-48 by omega,hi,yo h2]
def yQ(l:List UInt8):Option Nat:=if iz l then some (jA l) else none
theorem fR(u:Nat):yQ (aK u)=some u:=by unfold yQ;rw[if_pos (I7 u),eL]
theorem jp{l:List UInt8}{u:Nat}(h:yQ l=some u):l=aK u:=by
 unfold yQ at h
 split at h
 ·rename_i hc;cases h;exact(yP hc).symm
 ·cases h
theorem J8{u v:Nat}(h:aK u=aK v):u=v:=by rw[←eL u,h,eL]
theorem yT(u:Nat) (hu:0<u):10 ^ ((aK u).length-1)≤u:=by
 induction u using sD with
 |h0 u h=>rw[gN h];simp;omega
 |h1 u h ih=>
  rw[pL h]
  have:=ih (by omega)
  have hp:=sG (u / 10)
  simp only[List.length_append,List.length_singleton,Nat.add_sub_cancel]
  have e:10 ^ (aK (u / 10)).length=10 ^ ((aK (u / 10)).length-1)*10:=by rw[←Nat.pow_succ];congr 1;omega
  rw[e];omega
theorem dA(u:Nat):u<10 ^ (aK u).length:=by
 rw[qV,Lib.decDigits_length];exact Lib.lt_pow_nDigits u
theorem bp{u k:Nat}(hk:0<k) (h:u<10 ^ k):(aK u).length≤k:=by
 by_cases hu:u=0
 ·subst hu;rw[oU];exact hk
 ·have h1:=yT u (by omega)
  have h2:10 ^ ((aK u).length-1)<10 ^ k:=by omega
  have:=(Nat.pow_lt_pow_iff_right (by omega:1<10)).1 h2
  omega
def cd(n:Int):List UInt8:=match n with
 |.ofNat u=>aK u
 |.negSucc u=>45::aK (u+1)
theorem Np(n:Int):cd n=Lib.itoa n:=by
 unfold Lib.itoa
 cases n with
 |ofNat u=>rw[if_neg (by simp)];simp[cd,qV]
 |negSucc u=>rw[if_pos (Int.negSucc_lt_zero u)];simp[cd,qV]
def nQ(l:List UInt8):Option Int:=match l with
 |45::r=>match yQ r with
  |some (u+1)=>some (.negSucc u)
  |_=>none
 |l=>match yQ l with
  |some u=>some (.ofNat u)
  |none=>none
theorem ni(u:Nat):(aK u).head? ≠some 45:=by
 cases hl:aK u with
 |nil=>simp
 |cons c r=>
  have:=ff u
  rw[hl] at this
  simp only[List.all_cons,Bool.and_eq_true] at this
  simp only[List.head?_cons,ne_eq,Option.some.injEq]
  rintro rfl
  exact absurd this.1 (by decide)
theorem bZ(n:Int):nQ (cd n)=some n:=by
 cases n with
 |ofNat u=>
  have h:=ni u
  simp only[cd]
  unfold nQ
  split
  ·rename_i r hr
   rw[hr] at h;simp at h
  ·rw[fR]
 |negSucc u=>simp[cd,nQ,fR]
theorem dH{l:List UInt8}{n:Int}(h:nQ l=some n):l=cd n:=by
 unfold nQ at h
 split at h
 ·split at h
  ·rename_i hr
   cases h
   simp[cd,jp hr]
  ·cases h
 ·split at h
  ·rename_i hr
   cases h
   simp[cd,jp hr]
  ·cases h
theorem Pq{m n:Int}(h:cd m=cd n):m=n:=by
 have:=bZ m
 rw[h,bZ] at this
 exact(Option.some.inj this).symm
theorem kV(n:Int):Lib.hasPrefix (cd n) [45]=decide (n<0):=by
 cases n with
 |ofNat u=>
  have h:=ni u
  simp only[cd]
  cases hl:aK u with
  |nil=>exact absurd hl (oT u)
  |cons c r=>
   rw[hl] at h
   simp only[List.head?_cons,ne_eq,Option.some.injEq] at h
   rw[show decide (Int.ofNat u<0)=false by simp]
   have h' :¬(45:UInt8)=c:=fun e=>h e.symm
   simp[Lib.hasPrefix,List.isPrefixOf,h']
 |negSucc u=>simp[cd,Lib.hasPrefix,List.isPrefixOf,Int.negSucc_lt_zero]
theorem jz(n:Int):Lib.trimPrefix (cd n) [45]=aK n.natAbs:=by
 unfold Lib.trimPrefix
 rw[kV]
 cases n with
 |ofNat u=>
  rw[show decide (Int.ofNat u<0)=false by simp]
  rfl
 |negSucc u=>simp[cd,Int.negSucc_lt_zero,Int.natAbs]
theorem GQ{c:UInt8}(h:isD c=true):Lib.digitVal c=some (c.toNat-48):=by
 unfold isD at h
 simp only[Bool.and_eq_true,decide_eq_true_eq] at h
 unfold Lib.digitVal
 rw[if_pos h]
theorem uL:∀(l:List UInt8) (a:Nat),l.all isD=true→Lib.decFrom a l=some (ur a l)
 | [],a,_=>by rw[fg];rfl
 |c::r,a,h=>by
  simp only[List.all_cons,Bool.and_eq_true] at h
  unfold Lib.decFrom
  rw[GQ h.1,ee]
  simp only
  rw[uL r _ h.2,Nat.mul_comm]
theorem yn(u:Nat):Lib.decNat (aK u)=some u:=by
 unfold Lib.decNat
 have h:(aK u).isEmpty=false:=by
  cases hl:aK u with
  |nil=>exact absurd hl (oT u)
  |cons=>rfl
 rw[h]
 simp only[Bool.false_eq_true,if_false]
 rw[uL _ _ (ff u)]
 exact congrArg some (eL u)
theorem lI(n:Int):Lib.atoi (cd n)=some n:=by
 cases n with
 |ofNat u=>
  have h1:=ni u
  have h2:=ff u
  have h3:=yn u
  simp only[cd]
  cases hl:aK u with
  |nil=>exact absurd hl (oT u)
  |cons c r=>
   rw[hl] at h1 h2 h3
   simp only[List.head?_cons,ne_eq,Option.some.injEq] at h1
   simp only[List.all_cons,Bool.and_eq_true] at h2
   have hc:¬c=43:=by rintro rfl;exact absurd h2.1 (by decide)
   simp[Lib.atoi,h1,hc,h3]
 |negSucc u=>
  simp[cd,Lib.atoi,yn,Int.negSucc_eq]
theorem lW{u v:Nat}(h:(aK u).length<(aK v).length):u<v:=by
 have h1:=dA u
 have hv:0<v:=by
  by_cases hv:v=0
  ·subst hv
   rw[oU] at h
   have:=sG u
   simp only[List.length_singleton] at h
   omega
  ·omega
 have h2:=yT v hv
 have h3:10 ^ (aK u).length≤10 ^ ((aK v).length-1):=Nat.pow_le_pow_right (by omega) (by omega)
 exact Nat.lt_of_lt_of_le h1 (Nat.le_trans h3 h2)
def GN(u v:Nat):Int:=if u<v then -1 else if v<u then 1 else 0
theorem rd:∀(l:List UInt8) (a:Nat),l.all isD=true→ur a l<(a+1)*10 ^ l.length
 | [],a,_=>by rw[fg];simp
 |c::r,a,h=>by
  simp only[List.all_cons,Bool.and_eq_true] at h
  have hd:=uS h.1
  have:=rd r (10*a+(c.toNat-48)) h.2
  rw[ee]
  refine Nat.lt_of_lt_of_le this ?_
  rw[List.length_cons,Nat.pow_succ,Nat.mul_comm (10 ^ r.length) 10,←Nat.mul_assoc]
  exact Nat.mul_le_mul_right _ (by omega)
theorem Nz:∀(l:List UInt8) (a:Nat),a*10 ^ l.length≤ur a l
 | [],a=>by rw[fg];simp
 |c::r,a=>by
  have:=Nz r (10*a+(c.toNat-48))
  rw[ee]
  refine Nat.le_trans ?_ this
  rw[List.length_cons,Nat.pow_succ,Nat.mul_comm (10 ^ r.length) 10,←Nat.mul_assoc]
  exact Nat.mul_le_mul_right _ (by omega)
theorem lK:∀(l r:List UInt8) (a:Nat),l.length=r.length→l.all isD=true→r.all isD=true→Lib.compareBytes l r=GN (ur a l) (ur a r)
 | [],[],a,_,_,_=>by
  rw[fg]
  show(0:Int)=GN a a
  unfold GN;rw[if_neg (by omega),if_neg (by omega)]
 | [],_::_,_,h,_,_=>by simp at h
 |_::_,[],_,h,_,_=>by simp at h
 |c::l,d::r,a,h,h1,h2=>by
  simp only[List.length_cons,Nat.add_right_cancel_iff] at h
  simp only[List.all_cons,Bool.and_eq_true] at h1 h2
  have key:∀{x y:UInt8}{l r:List UInt8},isD x=true→isD y=true→l.all isD=true→l.length=r.length→x<y→ur (10*a+(x.toNat-48)) l<ur (10*a+(y.toNat-48)) r:=by
   intro x y l r hx hy hl hlr hxy
   have e1:=rd l (10*a+(x.toNat-48)) hl
   have e2:=Nz r (10*a+(y.toNat-48))
   have hxy' :x.toNat<y.toNat:=hxy
   unfold isD at hx hy
   simp only[Bool.and_eq_true,decide_eq_true_eq] at hx hy
   rw[hlr] at e1
   have:(10*a+(x.toNat-48)+1)*10 ^ r.length≤(10*a+(y.toNat-48))*10 ^ r.length:=Nat.mul_le_mul_right _ (by omega)
   omega
  unfold Lib.compareBytes
  rw[ee,ee]
  by_cases hcd:c<d
  ·rw[if_pos hcd]
   have:=key h1.1 h2.1 h1.2 h hcd
   unfold GN;rw[if_pos this]
  ·rw[if_neg hcd]
   by_cases hdc:d<c
   ·rw[if_pos hdc]
    have:=key h2.1 h1.1 h2.2 h.symm hdc
    unfold GN;rw[if_neg (by omega),if_pos this]
   ·rw[if_neg hdc]
    have hn1:¬c.toNat<d.toNat:=hcd
    have hn2:¬d.toNat<c.toNat:=hdc
    have e:c.toNat=d.toNat:=by omega
    rw[e]
    exact lK l r _ h h1.2 h2.2
theorem tY{u v:Nat}(h:(aK u).length=(aK v).length):Lib.compareBytes (aK u) (aK v)=GN u v:=by
 have:=lK (aK u) (aK v) 0 h (ff u) (ff v)
 rw[this]
 show GN (jA (aK u)) (jA (aK v))=_
 rw[eL,eL]
def nq(n:Int):Int:=if n<0 then -1 else if n=0 then 0 else 1
def HG(m n:Int):Int:=if m<n then -1 else if n<m then 1 else 0
theorem Nq(n:Int):cd n=[48]↔n=0:=by
 constructor
 ·intro h;exact Pq (h.trans (by rfl))
 ·rintro rfl;rfl
theorem iU(n:Int):(cd n==[48])=decide (n=0):=by
 rw[Bool.eq_iff_iff];simp[Nq]
theorem oL(n:Int):0<(cd n).length:=by
 cases n with
 |ofNat u=>exact sG u
 |negSucc u=>simp[cd]
theorem oM{n:Int}(h:0<n):cd (-n)=45::cd n:=by
 cases n with
 |ofNat u=>
  cases u with
  |zero=>simp at h
  |succ u=>rfl
 |negSucc u=>exact absurd h (by have:=Int.negSucc_lt_zero u;omega)
theorem Cv{n:Int}(h:n<0):(cd n).drop 1=cd (-n):=by
 have:=oM (n:= -n) (by omega)
 rw[Int.neg_neg] at this
 rw[this]
 rfl
theorem ne{n:Int}(h:0≤n):cd n=aK n.natAbs:=by
 cases n with
 |ofNat u=>rfl
 |negSucc u=>exact absurd h (by have:=Int.negSucc_lt_zero u;omega)
theorem Ql(a b:Int):HG a b=if nq a≠nq b then (if nq a<nq b then -1 else 1) else
  if (aK a.natAbs).length≠(aK b.natAbs).length then (if (aK a.natAbs).length<(aK b.natAbs).length then-nq a else nq a) else nq a*GN a.natAbs b.natAbs:=by
 by_cases hs:nq a≠nq b
 ·rw[if_pos hs]
  unfold nq at hs ⊢
  unfold HG
  repeat' split
  all_goals first | rfl | omega
 ·rw[if_neg hs]
  by_cases hl:(aK a.natAbs).length≠(aK b.natAbs).length
  ·rw[if_pos hl]
   by_cases hlt:(aK a.natAbs).length<(aK b.natAbs).length
   ·rw[if_pos hlt]
    have:=lW hlt
    unfold nq at hs ⊢
    unfold HG
    repeat' split
    all_goals first | rfl | omega
   ·rw[if_neg hlt]
    have:=lW (u:=b.natAbs) (v:=a.natAbs) (by omega)
    unfold nq at hs ⊢
    unfold HG
    repeat' split
    all_goals first | rfl | omega
  ·rw[if_neg hl]
   unfold nq at hs ⊢
   unfold HG GN
   repeat' split
   all_goals first | rfl | omega
def aN(q:Rat):List UInt8:=if q.den=1 then cd q.num else cd q.num++47::aK q.den
theorem sF(u:Nat):(47:UInt8)∉aK u:=by
 intro h
 have:=List.all_eq_true.1 (ff u) _ h
 exact absurd this (by decide)
theorem iV(n:Int):(47:UInt8)∉cd n:=by
 cases n with
 |ofNat u=>exact sF u
 |negSucc u=>
  simp only[cd,List.mem_cons,not_or]
  exact⟨by decide,sF _⟩
theorem lS:∀(l:List UInt8) (c:UInt8),c∉l→Lib.indexByte l c= -1
 | [],_,_=>rfl
 |b::l,c,h=>by
  simp only[List.mem_cons,not_or] at h
  unfold Lib.indexByte
  rw[if_neg (by simpa using fun e=>h.1 e.symm),lS l c h.2]
  rfl
theorem uR:∀(l r:List UInt8) (c:UInt8),c∉l→Lib.indexByte (l++c::r) c=l.length
 | [],r,c,_=>by simp[Lib.indexByte]
 |b::l,r,c,h=>by
  simp only[List.mem_cons,not_or] at h
  rw[List.cons_append]
  unfold Lib.indexByte
  rw[if_neg (by simpa using fun e=>h.1 e.symm),uR l r c h.2]
  have hn:¬(((l.length:Int)== -1)=true):=by rw[beq_iff_eq];omega
  rw[if_neg hn]
  rfl
theorem z6(q:Rat):Lib.indexByte (aN q) 47=if q.den=1 then -1 else ((cd q.num).length:Int):=by
 unfold aN
 split
 ·exact lS _ _ (iV _)
 ·exact uR _ _ _ (iV _)
def L5(n:Int) (d:Nat):Option Rat:=if h:1<d∧n.natAbs.gcd d=1 then some ⟨n,d,by omega,h.2⟩ else none
def dE(l:List UInt8):Option Rat:=match l.idxOf? 47 with
 |none=>match nQ l with
  |some n=>some ⟨n,1,by decide,Nat.gcd_one_right _⟩
  |none=>none
 |some i=>match nQ (l.take i),yQ (l.drop (i+1)) with
  |some n,some d=>L5 n d
  |_,_=>none
theorem LO{l:List UInt8}{c:UInt8}(h:c∉l):l.idxOf? c=none:=List.idxOf?_eq_none_iff.2 h
theorem Po{l r:List UInt8}{c:UInt8}(h:c∉l):(l++c::r).idxOf? c=some l.length:=by
 rw[List.idxOf?_eq_some_iff]
 refine⟨by simp,by simp,fun j hj=>?_⟩
 rw[List.getElem_append_left hj]
 intro e
 exact h (e▸List.getElem_mem hj)
theorem aR(q:Rat):dE (aN q)=some q:=by
 unfold dE aN
 by_cases h:q.den=1
 ·rw[if_pos h,LO (iV _)]
  simp only[bZ]
  congr 1
  apply Rat.ext
  ·rfl
  ·exact h.symm
 ·have h1:List.drop ((cd q.num).length+1) (cd q.num++47::aK q.den)=aK q.den:=by
   rw[List.drop_append];simp
  have h2:List.take (cd q.num).length (cd q.num++47::aK q.den)=cd q.num:=List.take_left' rfl
  have hd:1<q.den:=by have:=q.den_nz;omega
  have hr:q.num.natAbs.gcd q.den=1:=q.reduced
  rw[if_neg h,Po (iV _)]
  simp only
  rw[h1,h2,bZ,fR]
  simp only[L5]
  rw[dif_pos ⟨hd,hr⟩]
theorem au{l:List UInt8}{q:Rat}(h:dE l=some q):l=aN q:=by
 unfold dE at h
 split at h
 ·split at h
  ·rename_i n hn
   cases h
   unfold aN
   rw[if_pos rfl]
   exact dH hn
  ·cases h
 ·rename_i i hi
  split at h
  ·rename_i n d hn hd
   unfold L5 at h
   split at h
   ·rename_i hc
    cases h
    unfold aN
    rw[if_neg (by show¬d=1;omega)]
    obtain⟨hlt,hget,_⟩:=List.idxOf?_eq_some_iff.1 hi
    show l=cd n++47::aK d
    rw[←dH hn,←jp hd]
    have:l.drop i=47::l.drop (i+1):=by rw[List.drop_eq_getElem_cons hlt,hget]
    rw[←this,List.take_append_drop]
   ·cases h
  ·cases h
theorem wI{p q:Rat}(h:aN p=aN q):p=q:=by
 have:=aR p
 rw[h,aR] at this
 exact(Option.some.inj this).symm
theorem Hm(q:Rat):aN q=[48]↔q=0:=by
 constructor
 ·intro h;exact wI (h.trans (by rfl))
 ·rintro rfl;rfl
theorem bA(q:Rat):(aN q==[48])=decide (q=0):=by
 rw[Bool.eq_iff_iff];simp[Hm]
theorem neg_num(q:Rat):(-q).num= -q.num:=rfl
theorem Qy(q:Rat):(-q).den=q.den:=rfl
theorem pd{q:Rat}(h:0<q.num):aN (-q)=45::aN q:=by
 unfold aN
 rw[neg_num,Qy,oM h]
 split<;>rfl
theorem nj{q:Rat}(h:q.num<0):aN q=45::aN (-q):=by
 have:=pd (q:= -q) (by rw[neg_num];omega)
 rwa [Rat.neg_neg] at this
theorem wH{q:Rat}:q.num=0↔q=0:=by
 constructor
 ·intro h
  apply Rat.ext
  ·exact h
  ·have:=q.reduced
   rw[h] at this
   simpa [Nat.Coprime] using this
 ·rintro rfl;rfl
theorem pc{q:Rat}(h:0≤q.num):∃c r,aN q=c::r∧isD c=true:=by
 have h1:∃c r,cd q.num=c::r∧isD c=true:=by
  rw[ne h]
  have:=ff q.num.natAbs
  cases hl:aK q.num.natAbs with
  |nil=>exact absurd hl (oT _)
  |cons c r=>
   rw[hl] at this
   simp only[List.all_cons,Bool.and_eq_true] at this
   exact⟨c,r,rfl,this.1⟩
 obtain⟨c,r,e,hc⟩:=h1
 unfold aN
 split
 ·exact⟨c,r,e,hc⟩
 ·exact⟨c,r++47::aK q.den,by rw[e];rfl,hc⟩
theorem fp{c:UInt8}(h:isD c=true):¬((c.toNat:Int)=45):=by
 unfold isD at h
 simp only[Bool.and_eq_true,decide_eq_true_eq] at h
 omega
def JD(q:Rat):Int:=nq q.num
def big(k:Nat) (q:Rat):Prop:=q.num.natAbs<10 ^ k∧q.den<10 ^ k
theorem big.mono{k m:Nat}{q:Rat}(h:big k q) (hm:k≤m):big m q:=by
 have:10 ^ k≤10 ^ m:=Nat.pow_le_pow_right (by omega) hm
 exact⟨by have:=h.1;omega,by have:=h.2;omega⟩
theorem Py(n:Int) {d:Nat}(hd:d≠0):(mkRat n d).num.natAbs≤n.natAbs∧(mkRat n d).den≤d:=by
 rw[Rat.num_mkRat,Rat.den_mkRat,if_neg hd,if_neg hd]
 refine⟨?_,Nat.div_le_self _ _⟩
 exact Int.natAbs_ediv_le_natAbs _ _
theorem ez(n:Int):(cd n).length≤(aK n.natAbs).length+1:=by
 cases n with
 |ofNat u=>simp[cd]
 |negSucc u=>simp[cd]
theorem Az{k:Nat}(hk:0<k) {q:Rat}(h:big k q):(aN q).length≤2*k+2:=by
 have h1:=bp hk h.1
 have h2:=bp hk h.2
 have h3:=ez q.num
 unfold aN
 split
 ·omega
 ·simp only[List.length_append,List.length_cons];omega
theorem Cg{k:Nat}{q:Rat}(h:(aN q).length≤k):big k q:=by
 have h1:=dA q.num.natAbs
 have h2:=dA q.den
 have h3:(aK q.num.natAbs).length≤(cd q.num).length:=by
  cases q.num with
  |ofNat u=>exact Nat.le_refl _
  |negSucc u=>simp[cd]
 have hp:=oL q.num
 have h4:(aK q.num.natAbs).length≤k∧(aK q.den).length≤k:=by
  unfold aN at h
  split at h
  ·rename_i hd
   refine⟨by omega,?_⟩
   rw[hd]
   show 1≤k
   omega
  ·simp only[List.length_append,List.length_cons] at h
   omega
 have h5:10 ^ (aK q.num.natAbs).length≤10 ^ k:=Nat.pow_le_pow_right (by omega) h4.1
 have h6:10 ^ (aK q.den).length≤10 ^ k:=Nat.pow_le_pow_right (by omega) h4.2
 exact⟨by omega,by omega⟩
end Go.Eng
namespace Go.Eng
theorem dI{x y:Int}{a b:Nat}(h1:x.natAbs<a) (h2:y.natAbs<b):(x*y).natAbs<a*b:=by
 rw[Int.natAbs_mul];exact Nat.mul_lt_mul'' h1 h2
def dg(n d:Nat) (q:Rat):Prop:=q.num.natAbs<10 ^ n∧q.den<10 ^ d
theorem dg.mono{n d n' d' :Nat}{q:Rat}(h:dg n d q) (hn:n≤n') (hd:d≤d'):dg n' d' q:=by
 have h1:10 ^ n≤10 ^ n' :=Nat.pow_le_pow_right (by omega) hn
 have h2:10 ^ d≤10 ^ d' :=Nat.pow_le_pow_right (by omega) hd
 exact⟨by have:=h.1;omega,by have:=h.2;omega⟩
theorem si{n d:Nat}{x:Int}{y:Nat}(hy:y≠0) (h1:x.natAbs<10 ^ n) (h2:y<10 ^ d):dg n d (mkRat x y):=by
 have:=Py x hy
 exact⟨by omega,by omega⟩
theorem lV{a b k m:Nat}(h1:a<10 ^ k) (h2:b<10 ^ m):a*b<10 ^ (k+m):=by
 rw[Nat.pow_add];exact Nat.mul_lt_mul'' h1 h2
theorem GP{n d n' d' :Nat}{a b:Rat}(ha:dg n d a) (hb:dg n' d' b):dg (n+n') (d+d') (a*b):=by
 rw[Rat.mul_def']
 refine si (Nat.mul_ne_zero a.den_nz b.den_nz) ?_ (lV ha.2 hb.2)
 rw[Int.natAbs_mul]
 exact lV ha.1 hb.1
theorem Nc{n d n' d' m:Nat}{a b:Rat}(ha:dg n d a) (hb:dg n' d' b) (h1:n+d' ≤m) (h2:n' +d≤m):dg (m+1) (d+d') (a+b):=by
 rw[Rat.add_def']
 refine si (Nat.mul_ne_zero a.den_nz b.den_nz) ?_ (lV ha.2 hb.2)
 have h4:=lV ha.1 hb.2
 have h5:=lV hb.1 ha.2
 have h6:=Int.natAbs_add_le (a.num*b.den) (b.num*a.den)
 rw[Int.natAbs_mul,Int.natAbs_mul,Int.natAbs_natCast,Int.natAbs_natCast] at h6
 have e1:10 ^ (n+d')≤10 ^ m:=Nat.pow_le_pow_right (by omega) h1
 have e2:10 ^ (n' +d)≤10 ^ m:=Nat.pow_le_pow_right (by omega) h2
 have e3:10 ^ (m+1)=10 ^ m*10:=Nat.pow_succ ..
 omega
theorem QT{n d:Nat}{a:Rat}(ha:dg n d a):dg n d (-a):=by
 refine⟨?_,ha.2⟩
 rw[Rat.neg_num,Int.natAbs_neg];exact ha.1
theorem JW{n d n' d' m:Nat}{a b:Rat}(ha:dg n d a) (hb:dg n' d' b) (h1:n+d' ≤m) (h2:n' +d≤m):dg (m+1) (d+d') (a-b):=by
 rw[Rat.sub_eq_add_neg];exact Nc ha (QT hb) h1 h2
theorem QS{n:Nat}{x:Int}(h:x.natAbs<10 ^ n):dg n 1 (x:Rat):=⟨by simpa using h,by show(1:Nat)<10;decide⟩
theorem dg.lens{n d:Nat}{q:Rat}(h:dg n d q) (hn:0<n) (hd:0<d):(aK q.num.natAbs).length≤n∧(aK q.den).length≤d:=
 ⟨bp hn h.1,bp hd h.2⟩
end Go.Eng
