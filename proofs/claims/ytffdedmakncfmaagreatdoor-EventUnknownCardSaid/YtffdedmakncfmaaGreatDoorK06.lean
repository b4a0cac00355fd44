/- See K51. -/
import Derived.Test.YtffdedmakncfmaaGreatDoorK04
import Derived.Lib.Atoi
import Derived.Lib.Strings
import Derived.Lib.Bytealg
import Derived.Lib.IndexLaws
set_option linter.all false
namespace Go.Eng
def Nz(k:Nat):UInt8:=UInt8.ofNat (48+k)
def isD(c:UInt8):Bool:=decide (48≤c.toNat)&&decide (c.toNat≤57)
def P5:Nat→Nat→List UInt8→List UInt8
 |0,_,acc=>acc
 |f+1,u,acc=>if u<10 then Nz u::acc else P5 f (u / 10) (Nz (u%10)::acc)
def au(u:Nat):List UInt8:=P5 (u.log2+1) u []
theorem J9:∀(f u:Nat) (acc:List UInt8),u<2 ^ f→0<f→P5 f u acc=Lib.decDigits u++acc
 |0,u,acc,_,h=>by omega
 |f+1,u,acc,h,_=>by
  unfold P5
  by_cases h10:u<10
  ·rw[if_pos h10,Lib.decDigits,dif_pos h10];rfl
  ·rw[if_neg h10,Lib.decDigits,dif_neg h10]
   have hf:0<f:=by
    cases f with
    |zero=>simp at h;omega
    |succ f=>omega
   rw[J9 f (u / 10) _ (by rw[Nat.pow_succ] at h;omega) hf]
   simp[Nz]
theorem rL(u:Nat):au u=Lib.decDigits u:=by
 unfold au
 rw[J9 _ _ _ Nat.lt_log2_self (by omega)]
 simp
theorem eO{u:Nat}(h:u<10):au u=[Nz u]:=by rw[rL,Lib.decDigits,dif_pos h];rfl
theorem pU{u:Nat}(h:¬u<10):au u=au (u / 10)++[Nz (u%10)]:=by
 have e:Lib.decDigits u=Lib.decDigits (u / 10)++[UInt8.ofNat (48+u%10)]:=by
  conv=>lhs;rw[Lib.decDigits]
  rw[dif_neg h]
 unfold Nz
 rw[rL u,rL (u / 10),e]
def rX(a:Nat) (l:List UInt8):Nat:=l.foldl (fun a c=>10*a+(c.toNat-48)) a
theorem du(a:Nat):rX a []=a:=by unfold rX;rw[List.foldl_nil]
theorem dm(a:Nat) (c:UInt8) (r:List UInt8):rX a (c::r)=rX (10*a+(c.toNat-48)) r:=by unfold rX;rw[List.foldl_cons]
def fx(l:List UInt8):Nat:=rX 0 l
theorem rW:∀(l r:List UInt8) (a:Nat),rX a (l++r)=rX (rX a l) r
 | [],_,a=>by rw[List.nil_append,du]
 |c::l,r,a=>by rw[List.cons_append,dm,dm,rW l r]
theorem tM(l:List UInt8) (c:UInt8):fx (l++[c])=10*fx l+(c.toNat-48):=by
 unfold fx;rw[rW,dm,du]
theorem pw{k:Nat}(h:k<10):(Nz k).toNat=48+k:=by
 unfold Nz
 simp[UInt8.toNat_ofNat']
 omega
theorem JT{k:Nat}(h:k<10):isD (Nz k)=true:=by
 unfold isD;rw[pw h];simp;omega
theorem yV{c:UInt8}(h:isD c=true):Nz (c.toNat-48)=c:=by
 unfold isD at h
 simp only[Bool.and_eq_true,decide_eq_true_eq] at h
 unfold Nz
 apply UInt8.toNat_inj.1
 simp[UInt8.toNat_ofNat']
 omega
theorem vG{c:UInt8}(h:isD c=true):c.toNat-48<10:=by
 unfold isD at h
 simp only[Bool.and_eq_true,decide_eq_true_eq] at h
 omega
theorem tn{p:Nat→Prop}(h0:∀u,u<10→p u) (h1:∀u,¬u<10→p (u / 10)→p u) (u:Nat):p u:=by
 induction u using Nat.strongRecOn with
 |_ u ih=>
  by_cases h:u<10
  ·exact h0 u h
  ·exact h1 u h (ih (u / 10) (by omega))
theorem dj(u:Nat):fx (au u)=u:=by
 induction u using tn with
 |h0 u h=>
  rw[eO h]
  unfold fx
  rw[dm,du,pw h];omega
 |h1 u h ih=>rw[pU h,tM,ih,pw (by omega)];omega
theorem cW(u:Nat):(au u).all isD=true:=by
 induction u using tn with
 |h0 u h=>rw[eO h];simp[JT h]
 |h1 u h ih=>rw[pU h,List.all_append,ih];simp[JT (show u%10<10 by omega)]
theorem gR(u:Nat):au u≠[]:=by
 induction u using tn with
 |h0 u h=>rw[eO h];simp
 |h1 u h ih=>rw[pU h];simp
theorem pV(u:Nat):0<(au u).length:=List.length_pos_iff.2 (gR u)
theorem zv(u:Nat) (hu:0<u):(au u).head? ≠some 48:=by
 induction u using tn with
 |h0 u h=>
  rw[eO h]
  simp only[List.head?_cons,ne_eq,Option.some.injEq]
  intro e
  have:=congrArg UInt8.toNat e
  rw[pw h] at this
  simp at this
  omega
 |h1 u h ih=>
  rw[pU h,List.head?_append]
  have:=ih (by omega)
  cases hh:(au (u / 10)).head? with
  |none=>exact absurd (List.head?_eq_none_iff.1 hh) (gR _)
  |some x=>rw[hh] at this;simpa using this
theorem oL:au 0=[48]:=by rw[eO (by omega)];rfl
def gm(l:List UInt8):Bool:=match l with
 | []=>false
 |c::r=>isD c&&r.all isD&&(!(c==48)||r.isEmpty)
theorem IY(u:Nat):gm (au u)=true:=by
 have h1:=cW u
 have h2:=gR u
 by_cases hu:u=0
 ·subst hu;rw[oL];rfl
 ·have h3:=zv u (by omega)
  cases hl:au u with
  |nil=>exact absurd hl h2
  |cons c r=>
   rw[hl] at h1 h3
   simp only[List.all_cons,Bool.and_eq_true] at h1
   simp only[List.head?_cons,ne_eq,Option.some.injEq] at h3
   simp[gm,h1.1,h1.2,h3]
theorem IX{l:List UInt8}{c:UInt8}(hl:l≠[]) (h:gm (l++[c])=true):gm l=true∧isD c=true∧l≠[48]:=by
 cases l with
 |nil=>exact absurd rfl hl
 |cons x r=>
  simp only[List.cons_append,gm,List.all_append,List.all_cons,List.all_nil,Bool.and_true,Bool.and_eq_true] at h
  obtain⟨⟨h1,h2,h3⟩,h4⟩:=h
  have h5:(x==48)=false:=by
   cases hx:x==48 with
   |false=>rfl
   |true=>rw[hx] at h4;simp at h4
  refine⟨by simp[gm,h1,h2,h5],h3,?_⟩
  intro e
  cases e
  simp at h5
theorem Rk{p:List UInt8→Prop}(h0:p []) (h1:∀l c,p l→p (l++[c])) (l:List UInt8):p l:=by
 have:∀n (l:List UInt8),l.length=n→p l:=by
  intro n
  induction n with
  |zero=>intro l hl;rw[List.eq_nil_of_length_eq_zero hl];exact h0
  |succ n ih=>
   intro l hl
   have hne:l≠[]:=by intro e;rw[e] at hl;simp at hl
   rw[←List.dropLast_concat_getLast hne]
   exact h1 _ _ (ih _ (by simp[hl]))
 exact this _ l rfl
theorem tw{l:List UInt8}(h:gm l=true):au (fx l)=l:=by
 induction l using Rk with
 |h0=>cases h
 |h1 l c ih=>
  by_cases hl:l=[]
  ·subst hl
   simp only[List.nil_append,gm,List.all_nil,Bool.and_true,List.isEmpty_nil,Bool.or_true] at h
   unfold fx
   rw[List.nil_append,dm,du,Nat.mul_zero,Nat.zero_add,eO (vG h),yV h]
  ·obtain⟨h1,h2,h3⟩:=IX hl h
   have hi:=ih h1
   have hv:fx l≠0:=by
    intro e
    rw[e,oL] at hi
    exact h3 hi.symm
   have hd:=vG h2
   rw[tM,pU (by omega),show(10*fx l+(c.toNat-48)) / 10=fx l by omega,show(10*fx l+(c.toNat-48))%10=c.toNat-48 by omega,hi,yV h2]
def vN(l:List UInt8):Option Nat:=if gm l then some (fx l) else none
theorem cL(u:Nat):vN (au u)=some u:=by unfold vN;rw[if_pos (IY u),dj]
theorem fK{l:List UInt8}{u:Nat}(h:vN l=some u):l=au u:=by
 unfold vN at h
 split at h
 ·rename_i hc;cases h;exact(tw hc).symm
 ·cases h
theorem CM{u v:Nat}(h:au u=au v):u=v:=by rw[←dj u,h,dj]
theorem zB(u:Nat) (hu:0<u):10 ^ ((au u).length-1)≤u:=by
 induction u using tn with
 |h0 u h=>rw[eO h];simp;omega
 |h1 u h ih=>
  rw[pU h]
  have:=ih (by omega)
  have hp:=pV (u / 10)
  simp only[List.length_append,List.length_singleton,Nat.add_sub_cancel]
  have e:10 ^ (au (u / 10)).length=10 ^ ((au (u / 10)).length-1)*10:=by rw[←Nat.pow_succ];congr 1;omega
  rw[e];omega
theorem cn(u:Nat):u<10 ^ (au u).length:=by
 rw[rL,Lib.decDigits_length];exact Lib.lt_pow_nDigits u
theorem aK{u k:Nat}(hk:0<k) (h:u<10 ^ k):(au u).length≤k:=by
 by_cases hu:u=0
 ·subst hu;rw[oL];exact hk
 ·have h1:=zB u (by omega)
  have h2:10 ^ ((au u).length-1)<10 ^ k:=by omega
  have:=(Nat.pow_lt_pow_iff_right (by omega:1<10)).1 h2
  omega
def bE(n:Int):List UInt8:=match n with
 |.ofNat u=>au u
 |.negSucc u=>45::au (u+1)
theorem NT(n:Int):bE n=Lib.itoa n:=by
 unfold Lib.itoa
 cases n with
 |ofNat u=>rw[if_neg (by simp)];simp[bE,rL]
 |negSucc u=>rw[if_pos (Int.negSucc_lt_zero u)];simp[bE,rL]
def jF(l:List UInt8):Option Int:=match l with
 |45::r=>match vN r with
  |some (u+1)=>some (.negSucc u)
  |_=>none
 |l=>match vN l with
  |some u=>some (.ofNat u)
  |none=>none
theorem mw(u:Nat):(au u).head? ≠some 45:=by
 cases hl:au u with
 |nil=>simp
 |cons c r=>
  have:=cW u
  rw[hl] at this
  simp only[List.all_cons,Bool.and_eq_true] at this
  simp only[List.head?_cons,ne_eq,Option.some.injEq]
  rintro rfl
  exact absurd this.1 (by decide)
theorem aL(n:Int):jF (bE n)=some n:=by
 cases n with
 |ofNat u=>
  have h:=mw u
  simp only[bE]
  unfold jF
  split
  ·rename_i r hr
   rw[hr] at h;simp at h
  ·rw[cL]
 |negSucc u=>simp[bE,jF,cL]
theorem cg{l:List UInt8}{n:Int}(h:jF l=some n):l=bE n:=by
 unfold jF at h
 split at h
 ·split at h
  ·rename_i hr
   cases h
   simp[bE,fK hr]
  ·cases h
 ·split at h
  ·rename_i hr
   cases h
   simp[bE,fK hr]
  ·cases h
theorem PU{m n:Int}(h:bE m=bE n):m=n:=by
 have:=aL m
 rw[h,aL] at this
 exact(Option.some.inj this).symm
theorem ij(n:Int):Lib.hasPrefix (bE n) [45]=decide (n<0):=by
 cases n with
 |ofNat u=>
  have h:=mw u
  simp only[bE]
  cases hl:au u with
  |nil=>exact absurd hl (gR u)
  |cons c r=>
   rw[hl] at h
   simp only[List.head?_cons,ne_eq,Option.some.injEq] at h
   rw[show decide (Int.ofNat u<0)=false by simp]
   have h' :¬(45:UInt8)=c:=fun e=>h e.symm
   simp[Lib.hasPrefix,List.isPrefixOf,h']
 |negSucc u=>simp[bE,Lib.hasPrefix,List.isPrefixOf,Int.negSucc_lt_zero]
theorem gC(n:Int):Lib.trimPrefix (bE n) [45]=au n.natAbs:=by
 unfold Lib.trimPrefix
 rw[ij]
 cases n with
 |ofNat u=>
  rw[show decide (Int.ofNat u<0)=false by simp]
  rfl
 |negSucc u=>simp[bE,Int.negSucc_lt_zero,Int.natAbs]
theorem GM{c:UInt8}(h:isD c=true):Lib.digitVal c=some (c.toNat-48):=by
 unfold isD at h
 simp only[Bool.and_eq_true,decide_eq_true_eq] at h
 unfold Lib.digitVal
 rw[if_pos h]
theorem vz:∀(l:List UInt8) (a:Nat),l.all isD=true→Lib.decFrom a l=some (rX a l)
 | [],a,_=>by rw[du];rfl
 |c::r,a,h=>by
  simp only[List.all_cons,Bool.and_eq_true] at h
  unfold Lib.decFrom
  rw[GM h.1,dm]
  simp only
  rw[vz r _ h.2,Nat.mul_comm]
theorem yU(u:Nat):Lib.decNat (au u)=some u:=by
 unfold Lib.decNat
 have h:(au u).isEmpty=false:=by
  cases hl:au u with
  |nil=>exact absurd hl (gR u)
  |cons=>rfl
 rw[h]
 simp only[Bool.false_eq_true,if_false]
 rw[vz _ _ (cW u)]
 exact congrArg some (dj u)
theorem kI(n:Int):Lib.atoi (bE n)=some n:=by
 cases n with
 |ofNat u=>
  have h1:=mw u
  have h2:=cW u
  have h3:=yU u
  simp only[bE]
  cases hl:au u with
  |nil=>exact absurd hl (gR u)
  |cons c r=>
   rw[hl] at h1 h2 h3
   simp only[List.head?_cons,ne_eq,Option.some.injEq] at h1
   simp only[List.all_cons,Bool.and_eq_true] at h2
   have hc:¬c=43:=by rintro rfl;exact absurd h2.1 (by decide)
   simp[Lib.atoi,h1,hc,h3]
 |negSucc u=>
  simp[bE,Lib.atoi,yU,Int.negSucc_eq]
theorem kW{u v:Nat}(h:(au u).length<(au v).length):u<v:=by
 have h1:=cn u
 have hv:0<v:=by
  by_cases hv:v=0
  ·subst hv
   rw[oL] at h
   have:=pV u
   simp only[List.length_singleton] at h
   omega
  ·omega
 have h2:=zB v hv
 have h3:10 ^ (au u).length≤10 ^ ((au v).length-1):=Nat.pow_le_pow_right (by omega) (by omega)
 exact Nat.lt_of_lt_of_le h1 (Nat.le_trans h3 h2)
def ie(u v:Nat):Int:=if u<v then -1 else if v<u then 1 else 0
theorem mH:∀(l:List UInt8) (a:Nat),l.all isD=true→rX a l<(a+1)*10 ^ l.length
 | [],a,_=>by rw[du];simp
 |c::r,a,h=>by
  simp only[List.all_cons,Bool.and_eq_true] at h
  have hd:=vG h.1
  have:=mH r (10*a+(c.toNat-48)) h.2
  rw[dm]
  refine Nat.lt_of_lt_of_le this ?_
  rw[List.length_cons,Nat.pow_succ,Nat.mul_comm (10 ^ r.length) 10,←Nat.mul_assoc]
  exact Nat.mul_le_mul_right _ (by omega)
theorem NZ:∀(l:List UInt8) (a:Nat),a*10 ^ l.length≤rX a l
 | [],a=>by rw[du];simp
 |c::r,a=>by
  have:=NZ r (10*a+(c.toNat-48))
  rw[dm]
  refine Nat.le_trans ?_ this
  rw[List.length_cons,Nat.pow_succ,Nat.mul_comm (10 ^ r.length) 10,←Nat.mul_assoc]
  exact Nat.mul_le_mul_right _ (by omega)
theorem kK:∀(l r:List UInt8) (a:Nat),l.length=r.length→l.all isD=true→r.all isD=true→Lib.compareBytes l r=ie (rX a l) (rX a r)
 | [],[],a,_,_,_=>by
  rw[du]
  show(0:Int)=ie a a
  unfold ie;rw[if_neg (by omega),if_neg (by omega)]
 | [],_::_,_,h,_,_=>by simp at h
 |_::_,[],_,h,_,_=>by simp at h
 |c::l,d::r,a,h,h1,h2=>by
  simp only[List.length_cons,Nat.add_right_cancel_iff] at h
  simp only[List.all_cons,Bool.and_eq_true] at h1 h2
  have key:∀{x y:UInt8}{l r:List UInt8},isD x=true→isD y=true→l.all isD=true→l.length=r.length→x<y→rX (10*a+(x.toNat-48)) l<rX (10*a+(y.toNat-48)) r:=by
   intro x y l r hx hy hl hlr hxy
   have e1:=mH l (10*a+(x.toNat-48)) hl
   have e2:=NZ r (10*a+(y.toNat-48))
   have hxy' :x.toNat<y.toNat:=hxy
   unfold isD at hx hy
   simp only[Bool.and_eq_true,decide_eq_true_eq] at hx hy
   rw[hlr] at e1
   have:(10*a+(x.toNat-48)+1)*10 ^ r.length≤(10*a+(y.toNat-48))*10 ^ r.length:=Nat.mul_le_mul_right _ (by omega)
   omega
  unfold Lib.compareBytes
  rw[dm,dm]
  by_cases hcd:c<d
  ·rw[if_pos hcd]
   have:=key h1.1 h2.1 h1.2 h hcd
   unfold ie;rw[if_pos this]
  ·rw[if_neg hcd]
   by_cases hdc:d<c
   ·rw[if_pos hdc]
    have:=key h2.1 h1.1 h2.2 h.symm hdc
    unfold ie;rw[if_neg (by omega),if_pos this]
   ·rw[if_neg hdc]
    have hn1:¬c.toNat<d.toNat:=hcd
    have hn2:¬d.toNat<c.toNat:=hdc
    have e:c.toNat=d.toNat:=by omega
    rw[e]
    exact kK l r _ h h1.2 h2.2
theorem uI{u v:Nat}(h:(au u).length=(au v).length):Lib.compareBytes (au u) (au v)=ie u v:=by
 have:=kK (au u) (au v) 0 h (cW u) (cW v)
 rw[this]
 show ie (fx (au u)) (fx (au v))=_
 rw[dj,dj]
def jH(n:Int):Int:=if n<0 then -1 else if n=0 then 0 else 1
def HG(m n:Int):Int:=if m<n then -1 else if n<m then 1 else 0
theorem NU(n:Int):bE n=[48]↔n=0:=by
 constructor
 ·intro h;exact PU (h.trans (by rfl))
 ·rintro rfl;rfl
theorem iM(n:Int):(bE n==[48])=decide (n=0):=by
 rw[Bool.eq_iff_iff];simp[NU]
theorem oF(n:Int):0<(bE n).length:=by
 cases n with
 |ofNat u=>exact pV u
 |negSucc u=>simp[bE]
theorem jV{n:Int}(h:0<n):bE (-n)=45::bE n:=by
 cases n with
 |ofNat u=>
  cases u with
  |zero=>simp at h
  |succ u=>rfl
 |negSucc u=>exact absurd h (by have:=Int.negSucc_lt_zero u;omega)
theorem CJ{n:Int}(h:n<0):(bE n).drop 1=bE (-n):=by
 have:=jV (n:= -n) (by omega)
 rw[Int.neg_neg] at this
 rw[this]
 rfl
theorem gP{n:Int}(h:0≤n):bE n=au n.natAbs:=by
 cases n with
 |ofNat u=>rfl
 |negSucc u=>exact absurd h (by have:=Int.negSucc_lt_zero u;omega)
theorem QU(a b:Int):HG a b=if jH a≠jH b then (if jH a<jH b then -1 else 1) else
  if (au a.natAbs).length≠(au b.natAbs).length then (if (au a.natAbs).length<(au b.natAbs).length then-jH a else jH a) else jH a*ie a.natAbs b.natAbs:=by
 by_cases hs:jH a≠jH b
 ·rw[if_pos hs]
  unfold jH at hs ⊢
  unfold HG
  repeat' split
  all_goals first | rfl | omega
 ·rw[if_neg hs]
  by_cases hl:(au a.natAbs).length≠(au b.natAbs).length
  ·rw[if_pos hl]
   by_cases hlt:(au a.natAbs).length<(au b.natAbs).length
   ·rw[if_pos hlt]
    have:=kW hlt
    unfold jH at hs ⊢
    unfold HG
    repeat' split
    all_goals first | rfl | omega
   ·rw[if_neg hlt]
    have:=kW (u:=b.natAbs) (v:=a.natAbs) (by omega)
    unfold jH at hs ⊢
    unfold HG
    repeat' split
    all_goals first | rfl | omega
  ·rw[if_neg hl]
   unfold jH at hs ⊢
   unfold HG ie
   repeat' split
   all_goals first | rfl | omega
def aB(q:Rat):List UInt8:=if q.den=1 then bE q.num else bE q.num++47::au q.den
theorem tt(u:Nat):(47:UInt8)∉au u:=by
 intro h
 have:=List.all_eq_true.1 (cW u) _ h
 exact absurd this (by decide)
theorem iO(n:Int):(47:UInt8)∉bE n:=by
 cases n with
 |ofNat u=>exact tt u
 |negSucc u=>
  simp only[bE,List.mem_cons,not_or]
  exact⟨by decide,tt _⟩
theorem kQ:∀(l:List UInt8) (c:UInt8),c∉l→Lib.indexByte l c= -1
 | [],_,_=>rfl
 |b::l,c,h=>by
  simp only[List.mem_cons,not_or] at h
  unfold Lib.indexByte
  rw[if_neg (by simpa using fun e=>h.1 e.symm),kQ l c h.2]
  rfl
theorem vE:∀(l r:List UInt8) (c:UInt8),c∉l→Lib.indexByte (l++c::r) c=l.length
 | [],r,c,_=>by simp[Lib.indexByte]
 |b::l,r,c,h=>by
  simp only[List.mem_cons,not_or] at h
  rw[List.cons_append]
  unfold Lib.indexByte
  rw[if_neg (by simpa using fun e=>h.1 e.symm),vE l r c h.2]
  have hn:¬(((l.length:Int)== -1)=true):=by rw[beq_iff_eq];omega
  rw[if_neg hn]
  rfl
theorem AL(q:Rat):Lib.indexByte (aB q) 47=if q.den=1 then -1 else ((bE q.num).length:Int):=by
 unfold aB
 split
 ·exact kQ _ _ (iO _)
 ·exact vE _ _ _ (iO _)
def Mn(n:Int) (d:Nat):Option Rat:=if h:1<d∧n.natAbs.gcd d=1 then some ⟨n,d,by omega,h.2⟩ else none
def dU(l:List UInt8):Option Rat:=match l.idxOf? 47 with
 |none=>match jF l with
  |some n=>some ⟨n,1,by decide,Nat.gcd_one_right _⟩
  |none=>none
 |some i=>match jF (l.take i),vN (l.drop (i+1)) with
  |some n,some d=>Mn n d
  |_,_=>none
theorem L7{l:List UInt8}{c:UInt8}(h:c∉l):l.idxOf? c=none:=List.idxOf?_eq_none_iff.2 h
theorem PR{l r:List UInt8}{c:UInt8}(h:c∉l):(l++c::r).idxOf? c=some l.length:=by
 rw[List.idxOf?_eq_some_iff]
 refine⟨by simp,by simp,fun j hj=>?_⟩
 rw[List.getElem_append_left hj]
 intro e
 exact h (e▸List.getElem_mem hj)
theorem aC(q:Rat):dU (aB q)=some q:=by
 unfold dU aB
 by_cases h:q.den=1
 ·rw[if_pos h,L7 (iO _)]
  simp only[aL]
  congr 1
  apply Rat.ext
  ·rfl
  ·exact h.symm
 ·have h1:List.drop ((bE q.num).length+1) (bE q.num++47::au q.den)=au q.den:=by
   rw[List.drop_append];simp
  have h2:List.take (bE q.num).length (bE q.num++47::au q.den)=bE q.num:=List.take_left' rfl
  have hd:1<q.den:=by have:=q.den_nz;omega
  have hr:q.num.natAbs.gcd q.den=1:=q.reduced
  rw[if_neg h,PR (iO _)]
  simp only
  rw[h1,h2,aL,cL]
  simp only[Mn]
  rw[dif_pos ⟨hd,hr⟩]
theorem aD{l:List UInt8}{q:Rat}(h:dU l=some q):l=aB q:=by
 unfold dU at h
 split at h
 ·split at h
  ·rename_i n hn
   cases h
   unfold aB
   rw[if_pos rfl]
   exact cg hn
  ·cases h
 ·rename_i i hi
  split at h
  ·rename_i n d hn hd
   unfold Mn at h
   split at h
   ·rename_i hc
    cases h
    unfold aB
    rw[if_neg (by show¬d=1;omega)]
    obtain⟨hlt,hget,_⟩:=List.idxOf?_eq_some_iff.1 hi
    show l=bE n++47::au d
    rw[←cg hn,←fK hd]
    have:l.drop i=47::l.drop (i+1):=by rw[List.drop_eq_getElem_cons hlt,hget]
    rw[←this,List.take_append_drop]
   ·cases h
  ·cases h
theorem CR{p q:Rat}(h:aB p=aB q):p=q:=by
 have:=aC p
 rw[h,aC] at this
 exact(Option.some.inj this).symm
theorem zF(q:Rat):aB q=[48]↔q=0:=by
 constructor
 ·intro h;exact CR (h.trans (by rfl))
 ·rintro rfl;rfl
theorem aW(q:Rat):(aB q==[48])=decide (q=0):=by
 rw[Bool.eq_iff_iff];simp[zF]
theorem neg_num(q:Rat):(-q).num= -q.num:=rfl
theorem Q5(q:Rat):(-q).den=q.den:=rfl
theorem oV{q:Rat}(h:0<q.num):aB (-q)=45::aB q:=by
 unfold aB
 rw[neg_num,Q5,jV h]
 split<;>rfl
theorem jx{q:Rat}(h:q.num<0):aB q=45::aB (-q):=by
 have:=oV (q:= -q) (by rw[neg_num];omega)
 rwa [Rat.neg_neg] at this
theorem pW{q:Rat}:q.num=0↔q=0:=by
 constructor
 ·intro h
  apply Rat.ext
  ·exact h
  ·have:=q.reduced
   rw[h] at this
   simpa [Nat.Coprime] using this
 ·rintro rfl;rfl
theorem kY{q:Rat}(h:0≤q.num):∃c r,aB q=c::r∧isD c=true:=by
 have h1:∃c r,bE q.num=c::r∧isD c=true:=by
  rw[gP h]
  have:=cW q.num.natAbs
  cases hl:au q.num.natAbs with
  |nil=>exact absurd hl (gR _)
  |cons c r=>
   rw[hl] at this
   simp only[List.all_cons,Bool.and_eq_true] at this
   exact⟨c,r,rfl,this.1⟩
 obtain⟨c,r,e,hc⟩:=h1
 unfold aB
 split
 ·exact⟨c,r,e,hc⟩
 ·exact⟨c,r++47::au q.den,by rw[e];rfl,hc⟩
theorem eh{c:UInt8}(h:isD c=true):¬((c.toNat:Int)=45):=by
 unfold isD at h
 simp only[Bool.and_eq_true,decide_eq_true_eq] at h
 omega
def xI(q:Rat):Int:=jH q.num
def big(k:Nat) (q:Rat):Prop:=q.num.natAbs<10 ^ k∧q.den<10 ^ k
theorem big.mono{k m:Nat}{q:Rat}(h:big k q) (hm:k≤m):big m q:=by
 have:10 ^ k≤10 ^ m:=Nat.pow_le_pow_right (by omega) hm
 exact⟨by have:=h.1;omega,by have:=h.2;omega⟩
theorem CL(n:Int) {d:Nat}(hd:d≠0):(mkRat n d).num.natAbs≤n.natAbs∧(mkRat n d).den≤d:=by
 rw[Rat.num_mkRat,Rat.den_mkRat,if_neg hd,if_neg hd]
 refine⟨?_,Nat.div_le_self _ _⟩
 exact Int.natAbs_ediv_le_natAbs _ _
theorem GB{k:Nat}{n:Int}{d:Nat}(hd:d≠0) (h1:n.natAbs<10 ^ k) (h2:d<10 ^ k):big k (mkRat n d):=by
 have:=CL n hd
 exact⟨by omega,by omega⟩
theorem iY{a b k:Nat}(h1:a<10 ^ k) (h2:b<10 ^ k):a*b<10 ^ (2*k):=by
 have:a*b<10 ^ k*10 ^ k:=Nat.mul_lt_mul'' h1 h2
 rwa [←Nat.pow_add,show k+k=2*k by omega] at this
theorem IW{k:Nat}{a b:Rat}(ha:big k a) (hb:big k b):big (2*k) (a*b):=by
 rw[Rat.mul_def']
 refine GB (Nat.mul_ne_zero a.den_nz b.den_nz) ?_ (iY ha.2 hb.2)
 rw[Int.natAbs_mul]
 exact iY ha.1 hb.1
theorem QQ{k:Nat}{a b:Rat}(ha:big k a) (hb:big k b):big (2*k+1) (a+b):=by
 rw[Rat.add_def']
 have h2:=iY ha.2 hb.2
 have h3:10 ^ (2*k+1)=10 ^ (2*k)*10:=Nat.pow_succ ..
 refine GB (Nat.mul_ne_zero a.den_nz b.den_nz) ?_ (by omega)
 have h4:=iY ha.1 hb.2
 have h5:=iY hb.1 ha.2
 have h6:=Int.natAbs_add_le (a.num*b.den) (b.num*a.den)
 rw[Int.natAbs_mul,Int.natAbs_mul,Int.natAbs_natCast,Int.natAbs_natCast] at h6
 omega
theorem QS{k:Nat}{a:Rat}(ha:big k a):big k (-a):=by
 refine⟨?_,ha.2⟩
 rw[Rat.neg_num,Int.natAbs_neg];exact ha.1
theorem yR{k:Nat}{a b:Rat}(ha:big k a) (hb:big k b):big (2*k+1) (a-b):=by
 rw[Rat.sub_eq_add_neg];exact QQ ha (QS hb)
theorem QR{k:Nat}{a:Rat}(ha:big k a):big k a⁻¹:=by
 have h0:0<10 ^ k:=Nat.pow_pos (by omega)
 refine⟨?_,?_⟩
 ·rw[Rat.num_inv,Int.natAbs_mul,Int.natAbs_natCast]
  have:=ha.2
  have h1:a.num.sign.natAbs≤1:=by
   rcases Int.lt_trichotomy a.num 0 with h | h | h
   ·rw[Int.sign_eq_neg_one_of_neg h];decide
   ·rw[h];decide
   ·rw[Int.sign_eq_one_of_pos h];decide
  have:a.num.sign.natAbs*a.den≤1*a.den:=Nat.mul_le_mul_right _ h1
  omega
 ·rw[Rat.den_inv]
  have:=ha.1
  by_cases hn:a.num=0
  ·rw[if_pos hn]
   have h2:=ha.2
   have:=a.den_nz
   omega
  ·rw[if_neg hn];omega
theorem No{k:Nat}{a b:Rat}(ha:big k a) (hb:big k b):big (2*k) (a / b):=by
 rw[Rat.div_def];exact IW ha (QR hb)
theorem PG{k:Nat}(hk:0<k):big k 0:=by
 have h0:10 ^ 1≤10 ^ k:=Nat.pow_le_pow_right (by omega) hk
 exact⟨by show(0:Nat)<10 ^ k;omega,by show(1:Nat)<10 ^ k;omega⟩
theorem cm(n:Int):(bE n).length≤(au n.natAbs).length+1:=by
 cases n with
 |ofNat u=>simp[bE]
 |negSucc u=>simp[bE]
theorem LO{k:Nat}(hk:0<k) {q:Rat}(h:big k q):(aB q).length≤2*k+2:=by
 have h1:=aK hk h.1
 have h2:=aK hk h.2
 have h3:=cm q.num
 unfold aB
 split
 ·omega
 ·simp only[List.length_append,List.length_cons];omega
theorem Cz{k:Nat}{q:Rat}(h:(aB q).length≤k):big k q:=by
 have h1:=cn q.num.natAbs
 have h2:=cn q.den
 have h3:(au q.num.natAbs).length≤(bE q.num).length:=by
  cases q.num with
  |ofNat u=>exact Nat.le_refl _
  |negSucc u=>simp[bE]
 have hp:=oF q.num
 have h4:(au q.num.natAbs).length≤k∧(au q.den).length≤k:=by
  unfold aB at h
  split at h
  ·rename_i hd
   refine⟨by omega,?_⟩
   rw[hd]
   show 1≤k
   omega
  ·simp only[List.length_append,List.length_cons] at h
   omega
 have h5:10 ^ (au q.num.natAbs).length≤10 ^ k:=Nat.pow_le_pow_right (by omega) h4.1
 have h6:10 ^ (au q.den).length≤10 ^ k:=Nat.pow_le_pow_right (by omega) h4.2
 exact⟨by omega,by omega⟩
def Kj(a b:Rat×Rat):Rat:=(b.2-a.2) / (b.1-a.1)
def sX(l:List (Rat×Rat)) (n:Nat):Rat×Rat:=
 if l=[] then (0,0) else if n=0 then ((l.getD 0 (0,0)).2,0) else if n=l.length then ((l.getD (n-1) (0,0)).2,0) else
  ((l.getD (n-1) (0,0)).2-Kj (l.getD (n-1) (0,0)) (l.getD n (0,0))*(l.getD (n-1) (0,0)).1,Kj (l.getD (n-1) (0,0)) (l.getD n (0,0)))
theorem dM{x y:Int}{a b:Nat}(h1:x.natAbs<a) (h2:y.natAbs<b):(x*y).natAbs<a*b:=by
 rw[Int.natAbs_mul];exact Nat.mul_lt_mul'' h1 h2
def dg(n d:Nat) (q:Rat):Prop:=q.num.natAbs<10 ^ n∧q.den<10 ^ d
theorem dg.mono{n d n' d' :Nat}{q:Rat}(h:dg n d q) (hn:n≤n') (hd:d≤d'):dg n' d' q:=by
 have h1:10 ^ n≤10 ^ n' :=Nat.pow_le_pow_right (by omega) hn
 have h2:10 ^ d≤10 ^ d' :=Nat.pow_le_pow_right (by omega) hd
 exact⟨by have:=h.1;omega,by have:=h.2;omega⟩
theorem sP{n d:Nat}{x:Int}{y:Nat}(hy:y≠0) (h1:x.natAbs<10 ^ n) (h2:y<10 ^ d):dg n d (mkRat x y):=by
 have:=CL x hy
 exact⟨by omega,by omega⟩
theorem kU{a b k m:Nat}(h1:a<10 ^ k) (h2:b<10 ^ m):a*b<10 ^ (k+m):=by
 rw[Nat.pow_add];exact Nat.mul_lt_mul'' h1 h2
theorem gb{n d n' d' :Nat}{a b:Rat}(ha:dg n d a) (hb:dg n' d' b):dg (n+n') (d+d') (a*b):=by
 rw[Rat.mul_def']
 refine sP (Nat.mul_ne_zero a.den_nz b.den_nz) ?_ (kU ha.2 hb.2)
 rw[Int.natAbs_mul]
 exact kU ha.1 hb.1
theorem ot{n d n' d' m:Nat}{a b:Rat}(ha:dg n d a) (hb:dg n' d' b) (h1:n+d' ≤m) (h2:n' +d≤m):dg (m+1) (d+d') (a+b):=by
 rw[Rat.add_def']
 refine sP (Nat.mul_ne_zero a.den_nz b.den_nz) ?_ (kU ha.2 hb.2)
 have h4:=kU ha.1 hb.2
 have h5:=kU hb.1 ha.2
 have h6:=Int.natAbs_add_le (a.num*b.den) (b.num*a.den)
 rw[Int.natAbs_mul,Int.natAbs_mul,Int.natAbs_natCast,Int.natAbs_natCast] at h6
 have e1:10 ^ (n+d')≤10 ^ m:=Nat.pow_le_pow_right (by omega) h1
 have e2:10 ^ (n' +d)≤10 ^ m:=Nat.pow_le_pow_right (by omega) h2
 have e3:10 ^ (m+1)=10 ^ m*10:=Nat.pow_succ ..
 omega
theorem GK{n d:Nat}{a:Rat}(ha:dg n d a):dg n d (-a):=by
 refine⟨?_,ha.2⟩
 rw[Rat.neg_num,Int.natAbs_neg];exact ha.1
theorem GL{n d n' d' m:Nat}{a b:Rat}(ha:dg n d a) (hb:dg n' d' b) (h1:n+d' ≤m) (h2:n' +d≤m):dg (m+1) (d+d') (a-b):=by
 rw[Rat.sub_eq_add_neg];exact ot ha (GK hb) h1 h2
theorem GJ{n:Nat}{x:Int}(h:x.natAbs<10 ^ n):dg n 1 (x:Rat):=⟨by simpa using h,by show(1:Nat)<10;decide⟩
theorem dg.lens{n d:Nat}{q:Rat}(h:dg n d q) (hn:0<n) (hd:0<d):(au q.num.natAbs).length≤n∧(au q.den).length≤d:=
 ⟨aK hn h.1,aK hd h.2⟩
def stC(l:List (List UInt8)):List AV:=l.map .str
theorem jb(l:List (List UInt8)):(stC l).length=l.length:=by simp[stC]
theorem eg:∀l:List (List UInt8),AV.closeds (stC l)=true
 | []=>rfl
 |x::l=>by
  have:=eg l
  simp only[stC] at this
  simp[stC,AV.closeds,AV.closed,this]
theorem Hy{l:List (List UInt8)}{i:Nat}{s:List UInt8}(h:l[i]? =some s):(stC l)[i]? =some (.str s):=by simp[stC,h]
def stP:List AV→Option (List (List UInt8))
 | []=>some []
 |.str a::l=>match stP l with
  |some r=>some (a::r)
  |none=>none
 |_=>none
theorem OC:∀L:List (List UInt8),stP (stC L)=some L
 | []=>rfl
 |k::L=>by
  have:=OC L
  simp only[stC] at this
  simp[stC,stP,this]
theorem Kl:∀{cs:List AV} {L:List (List UInt8)},stP cs=some L→cs=stC L
 | [],L,h=>by cases h;rfl
 |v::l,L,h=>by
  unfold stP at h
  split at h
  ·rename_i h1;cases h1
  ·rename_i a l' h1
   cases h1
   split at h
   ·rename_i r hr
    cases h
    have:=Kl hr
    simp only[stC] at this ⊢
    rw[this];rfl
   ·cases h
  ·cases h
def sts(M:Mem) (x:AV):Option (List (List UInt8)):=match GF 1 M x with
 |some cs=>stP cs
 |none=>none
theorem Qj{M:Mem}{x:AV}{L:List (List UInt8)}(h:sts M x=some L):Qt 1 M x L.length (stC L)∨(x=.nilslice∧L=[]):=by
 unfold sts at h
 split at h
 ·rename_i cs hcs
  have hc:=Kl h
  subst hc
  rcases I2 hcs with⟨n,hn,hr⟩ | ⟨rfl,hn⟩
  ·have:n=L.length:=by rw[jb] at hn;omega
   subst this;exact .inl hr
  ·refine .inr ⟨rfl,?_⟩
   cases L with
   |nil=>rfl
   |cons a l=>simp[stC] at hn
 ·cases h
abbrev P2:=Rat×Rat
def pA(p:P2):AV:=.agg [.str (aB p.1),.str (aB p.2)]
def pDg(n:Nat) (p:P2):Prop:=dg n n p.1∧dg n n p.2
def xd(a b c:P2):Rat:=(b.1-a.1)*(c.2-a.2)-(b.2-a.2)*(c.1-a.1)
def pC:List P2→List AV
 | []=>[]
 |p::l=>.str (aB p.1)::.str (aB p.2)::pC l
theorem zz:∀l:List P2,(pC l).length=l.length*2
 | []=>rfl
 |_::l=>by simp only[pC,List.length_cons,zz l];omega
theorem fh:∀l:List P2,AV.closeds (pC l)=true
 | []=>rfl
 |p::l=>by simp[pC,AV.closeds,AV.closed,fh l]
theorem uU(n:Nat):∀l:List P2,AV.refsL n (pC l)=[]
 | []=>rfl
 |p::l=>by simp[pC,AV.refsL,AV.refs,uU n l]
theorem Of(f:Nat→Option Nat) (l:List P2):AV.rens f (pC l)=pC l:=aJ (fh l)
theorem RS:pC []=[]:=rfl
theorem RT(f:Nat→Bool):∀l:List P2,AV.refsOkL f (pC l)=true
 | []=>rfl
 |p::l=>by simp[pC,AV.refsOkL,AV.refsOk,RT f l]
theorem Hf:∀l r:List P2,pC (l++r)=pC l++pC r
 | [],_=>rfl
 |p::l,r=>by simp[pC,Hf l r]
theorem Oe:∀(l:List P2) (i:Nat),(pC l).drop (i*2)=pC (l.drop i)
 |l,0=>by simp
 | [],i+1=>by simp[pC]
 |p::l,i+1=>by
  have:(i+1)*2=i*2+1+1:=by omega
  rw[this]
  simp only[pC,List.drop_succ_cons]
  exact Oe l i
theorem Od{l:List P2}{i:Nat}{p:P2}(h:l[i]? =some p):
  ((pC l).drop (i*2)).take 2=[.str (aB p.1),.str (aB p.2)]∧(pC l)[i*2]? =some (.str (aB p.1))∧(pC l)[i*2+1]? =some (.str (aB p.2))∧i*2+2≤(pC l).length:=by
 have hlt:=(List.getElem?_eq_some_iff.1 h).1
 have hd:l.drop i=p::l.drop (i+1):=by
  rw[List.getElem?_eq_some_iff] at h
  obtain⟨h1,h2⟩:=h
  rw[←h2];exact List.drop_eq_getElem_cons h1
 have e:=Oe l i
 rw[hd] at e
 refine⟨by rw[e];rfl,?_,?_,by rw[zz];omega⟩
 ·have:(pC l)[i*2]? =((pC l).drop (i*2))[0]? :=by rw[List.getElem?_drop];rfl
  rw[this,e];rfl
 ·have:(pC l)[i*2+1]? =((pC l).drop (i*2))[1]? :=by rw[List.getElem?_drop]
  rw[this,e];rfl
abbrev Tr:=Nat×Nat×Nat
def tC:List Tr→List AV
 | []=>[]
 |t::l=>.int .i64 (t.1:Int)::.int .i64 (t.2.1:Int)::.int .i64 (t.2.2:Int)::tC l
theorem HA:∀l:List Tr,(tC l).length=l.length*3
 | []=>rfl
 |_::l=>by simp only[tC,List.length_cons,HA l];omega
theorem jB:∀l:List Tr,AV.closeds (tC l)=true
 | []=>rfl
 |p::l=>by simp[tC,AV.closeds,AV.closed,jB l]
theorem rR(n:Nat):∀l:List Tr,AV.refsL n (tC l)=[]
 | []=>rfl
 |p::l=>by simp[tC,AV.refsL,AV.refs,rR n l]
theorem HB(f:Nat→Option Nat) (l:List Tr):AV.rens f (tC l)=tC l:=aJ (jB l)
theorem OD:∀(l:List Tr) (i:Nat),(tC l).drop (i*3)=tC (l.drop i)
 |l,0=>by simp
 | [],i+1=>by simp[tC]
 |p::l,i+1=>by
  have:(i+1)*3=i*3+1+1+1:=by omega
  rw[this]
  simp only[tC,List.drop_succ_cons]
  exact OD l i
theorem RZ{l:List Tr}{i:Nat}{t:Tr}(h:l[i]? =some t):
  ((tC l).drop (i*3)).take 3=[.int .i64 (t.1:Int),.int .i64 (t.2.1:Int),.int .i64 (t.2.2:Int)]∧i*3+3≤(tC l).length:=by
 have hlt:=(List.getElem?_eq_some_iff.1 h).1
 have hd:l.drop i=t::l.drop (i+1):=by
  rw[List.getElem?_eq_some_iff] at h
  obtain⟨h1,h2⟩:=h
  rw[←h2];exact List.drop_eq_getElem_cons h1
 have e:=OD l i
 rw[hd] at e
 exact⟨by rw[e];rfl,by rw[HA];omega⟩
def pmE(p:P2):AV×AV:=(pA p,.bool true)
theorem CV(n:Nat):∀l:List P2,(l.map pmE).flatMap (fun e=>e.1.refs n++e.2.refs n)=[]
 | []=>rfl
 |p::l=>by simp[pmE,pA,AV.refs,AV.refsL,CV n l]
def sqI:List (Int×Int):=[(0,0),(4,0),(4,4),(0,4)]
def cP:Nat→List (Int×Int)
 |0=>sqI
 |1=>sqI
 |2=>[(0,0),(4,0),(4,4),(0,4),(2,1)]
 |3=>[(0,0),(6,0),(0,4)]
 |4=>[(0,0),(2,0),(4,0),(0,2),(2,2),(4,2)]
 |5=>[(1,4),(5,3),(4,0),(0,0)]
 |6=>[(0,0),(4,0),(4,4),(0,4),(2,0)]
 |_=>[(0,0),(6,0),(0,6),(2,2)]
def bq:Nat→List Tr
 |0=>[(0,1,2),(0,2,3)]
 |1=>[(0,1,3),(1,2,3)]
 |2=>[(0,1,4),(1,2,4),(2,3,4),(3,0,4)]
 |3=>[(2,0,1)]
 |4=>[(0,1,4),(0,4,3),(1,2,5),(1,5,4)]
 |5=>[(3,2,1),(3,1,0)]
 |6=>[(0,4,3),(4,2,3),(4,1,2)]
 |_=>[(0,1,3),(1,2,3),(2,0,3)]
def jA:Nat→List Nat
 |2=>[0,1,2,3]
 |3=>[0,1,2]
 |4=>[0,1,2,5,4,3]
 |5=>[0,3,2,1]
 |6=>[0,4,1,2,3]
 |7=>[0,1,2]
 |_=>[0,1,2,3]
def iP:List (Int×Int)→List AV
 | []=>[]
 |p::l=>.int .i64 p.1::.int .i64 p.2::iP l
theorem GX:∀l:List (Int×Int),(iP l).length=l.length*2
 | []=>rfl
 |_::l=>by simp only[iP,List.length_cons,GX l];omega
theorem Jc(n:Nat):∀l:List (Int×Int),AV.refsL n (iP l)=[]
 | []=>rfl
 |p::l=>by simp[iP,AV.refsL,AV.refs,Jc n l]
theorem GW:∀l:List (Int×Int),AV.closeds (iP l)=true
 | []=>rfl
 |p::l=>by simp[iP,AV.closeds,AV.closed,GW l]
theorem NQ(f:Nat→Option Nat) (l:List (Int×Int)):AV.rens f (iP l)=iP l:=aJ (GW l)
theorem NP:∀(l:List (Int×Int)) (i:Nat),(iP l).drop (i*2)=iP (l.drop i)
 |l,0=>by simp
 | [],i+1=>by simp[iP]
 |p::l,i+1=>by
  have:(i+1)*2=i*2+1+1:=by omega
  rw[this]
  simp only[iP,List.drop_succ_cons]
  exact NP l i
theorem So{l:List (Int×Int)}{i:Nat}{p:Int×Int}(h:l[i]? =some p):
  (iP l)[i*2]? =some (.int .i64 p.1)∧(iP l)[i*2+1]? =some (.int .i64 p.2)∧i*2+2≤(iP l).length:=by
 have hlt:=(List.getElem?_eq_some_iff.1 h).1
 have hd:l.drop i=p::l.drop (i+1):=by
  rw[List.getElem?_eq_some_iff] at h
  obtain⟨h1,h2⟩:=h
  rw[←h2];exact List.drop_eq_getElem_cons h1
 have e:=NP l i
 rw[hd] at e
 refine⟨?_,?_,by rw[GX];omega⟩
 ·have:(iP l)[i*2]? =((iP l).drop (i*2))[0]? :=by rw[List.getElem?_drop];rfl
  rw[this,e];rfl
 ·have:(iP l)[i*2+1]? =((iP l).drop (i*2))[1]? :=by rw[List.getElem?_drop]
  rw[this,e];rfl
structure Sheet where
 kind:Nat
 sx:Int
 sy:Int
 half:Bool
structure Sheet.Ok (s:Sheet):Prop where
 kind:s.kind<256
 x0: -128≤s.sx
 x1:s.sx≤127
 y0: -128≤s.sy
 y1:s.sy≤127
def Sheet.av(s:Sheet):AV:=.agg [.int .u8 s.kind,.int .i8 s.sx,.int .i8 s.sy,.bool s.half]
def Sheet.pt(s:Sheet) (k:Nat) (x y:Int):P2:=
 (mkRat (x+s.sx.tmod 8*k) ((if s.half then 2 else 1)*k),mkRat (y+s.sy.tmod 8*k) ((if s.half then 2 else 1)*k))
def Sheet.P(s:Sheet):List P2:=(cP (s.kind%8)).map fun p=>s.pt 1 p.1 p.2
def Sheet.T(s:Sheet):List Tr:=bq (s.kind%8)
theorem OJ{n:Int}(h0: -128≤n) (h1:n≤127):IntKind.i8.wrap n=n:=by
 simp only[IntKind.wrap,IntKind.bits,IntKind.signed,Bool.true_and]
 split<;>simp_all<;>omega
theorem Qo(x:Int): -7≤x.tmod 8∧x.tmod 8≤7:=by
 have h1:=Int.tmod_lt_of_pos x (show(0:Int)<8 by decide)
 have h2: -8<x.tmod 8:=by
  have:=Int.tmod_lt_of_pos (-x) (show(0:Int)<8 by decide)
  rw[Int.neg_tmod] at this
  omega
 omega
def qC(Q:List Rat):List AV:=Q.map fun q=>.str (aB q)
theorem Hj(Q:List Rat):(qC Q).length=Q.length:=by simp[qC]
theorem Hh:∀Q:List Rat,AV.closeds (qC Q)=true
 | []=>rfl
 |q::Q=>by
  have:=Hh Q
  simp only[qC] at this
  simp[qC,AV.closeds,AV.closed,this]
theorem eC(n:Nat):∀Q:List Rat,AV.refsL n (qC Q)=[]
 | []=>rfl
 |q::Q=>by
  have:=eC n Q
  simp only[qC] at this
  simp[qC,AV.refsL,AV.refs,this]
theorem Oh(f:Nat→Bool):∀Q:List Rat,AV.refsOkL f (qC Q)=true
 | []=>rfl
 |q::Q=>by
  have:=Oh f Q
  simp only[qC] at this
  simp[qC,AV.refsOkL,AV.refsOk,this]
theorem iD(f:Nat→Option Nat) (Q:List Rat):AV.rens f (qC Q)=qC Q:=aJ (Hh Q)
theorem Q7{Q:List Rat}{i:Nat}{q:Rat}(h:Q[i]? =some q):(qC Q)[i]? =some (.str (aB q)):=by simp[qC,h]
structure Deed where
 kind:Nat
 A:Int×Int×Int
 B:Int×Int×Int
 N:Int
 K:Nat×Nat×Nat×Nat
def Deed.cells(d:Deed):List AV:=[.int .u8 d.kind,.int .i8 d.A.1,.int .i8 d.A.2.1,.int .i8 d.A.2.2,.int .i8 d.B.1,.int .i8 d.B.2.1,.int .i8 d.B.2.2,.int .i8 d.N,.int .u8 d.K.1,.int .u8 d.K.2.1,.int .u8 d.K.2.2.1,.int .u8 d.K.2.2.2]
def xE(n:Int):Prop:= -128≤n∧n≤127
def RJ(v:Int×Int×Int):Prop:=xE v.1∧xE v.2.1∧xE v.2.2
def Sv(v:Nat×Nat×Nat×Nat):Prop:=v.1<256∧v.2.1<256∧v.2.2.1<256∧v.2.2.2<256
structure Deed.Ok (d:Deed):Prop where
 kind:d.kind<256
 A:RJ d.A
 B:RJ d.B
 N:xE d.N
 K:Sv d.K
def hQ(z:Int):Rat:=mkRat z 2
theorem jU(z:Int):hQ z=(z:Rat) / 2:=by
 unfold hQ
 rw[Rat.mkRat_eq_div]
 rfl
theorem Qw(a b:Int):hQ a+hQ b=hQ (a+b):=by
 rw[jU,jU,jU,Rat.intCast_add]
 grind
theorem Sk{a b:Int}(h:a≤b):hQ a≤hQ b:=by
 rw[jU,jU]
 have:(a:Rat)≤(b:Rat):=by exact_mod_cast h
 grind
theorem PQ{z:Int}(h:z.natAbs<1000):dg 3 1 (hQ z):=sP (by decide) h (by decide)
theorem y7{z:Int}(h:z.natAbs<1000):(aB (hQ z)).length≤9:=by
 have h1:=PQ h
 have h2:big 3 (hQ z):=⟨h1.1,by have:=h1.2;omega⟩
 have:=LO (by decide) h2
 omega
def qH(Z:List Int):List Rat:=Z.map hQ
theorem xp(x:Int) (k:Nat) (hk:0<k): -(k:Int)<x.tmod k∧x.tmod k<k:=by
 have h1:=Int.tmod_lt_of_pos x (show(0:Int)<(k:Int) by omega)
 have h2:=Int.tmod_lt_of_pos (-x) (show(0:Int)<(k:Int) by omega)
 rw[Int.neg_tmod] at h2
 omega
end Go.Eng
