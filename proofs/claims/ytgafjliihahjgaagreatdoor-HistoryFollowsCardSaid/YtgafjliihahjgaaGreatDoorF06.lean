/- See F54. -/
import Derived.Test.YtgafjliihahjgaaGreatDoorF04
import Derived.Lib.Atoi
import Derived.Lib.Strings
import Derived.Lib.Bytealg
import Derived.Lib.IndexLaws
set_option linter.all false
namespace Go.Eng
def Ud(k:Nat):UInt8:=UInt8.ofNat (48+k)
def isD(c:UInt8):Bool:=decide (48≤c.toNat)&&decide (c.toNat≤57)
def WZ:Nat→Nat→List UInt8→List UInt8
 |0,_,acc=>acc
 |f+1,u,acc=>if u<10 then Ud u::acc else WZ f (u / 10) (Ud (u%10)::acc)
def aR(u:Nat):List UInt8:=WZ (u.log2+1) u []
theorem PR:∀(f u:Nat)(acc:List UInt8),u<2 ^ f→0<f→WZ f u acc=Lib.decDigits u++acc
 |0,u,acc,_,h=>by omega
 |f+1,u,acc,h,_=>by
  unfold WZ;by_cases Z:u<10
  ·rw[if_pos Z,Lib.decDigits,dif_pos Z];rfl
  ·rw[if_neg Z,Lib.decDigits,dif_neg Z]
   have X:0<f:=by
    cases f with
    |zero=>simp at h;omega
    |succ f=>omega
   rw[PR f (u / 10) _ (by rw[Nat.pow_succ] at h;omega) X];simp[Ud]
theorem uM(u:Nat):aR u=Lib.decDigits u:=by unfold aR;rw[PR _ _ _ Nat.lt_log2_self (by omega)];simp
variable{u:Nat}
theorem jo(h:u<10):aR u=[Ud u]:=by rw[uM,Lib.decDigits,dif_pos h];rfl
theorem su(h:¬u<10):aR u=aR (u / 10)++[Ud (u%10)]:=by
 have e:Lib.decDigits u=Lib.decDigits (u / 10)++[UInt8.ofNat (48+u%10)]:=by
  conv=>lhs;rw[Lib.decDigits]
  rw[dif_neg h]
 unfold Ud;rw[uM u,uM (u / 10),e]
def xR(a:Nat)(l:List UInt8):Nat:=l.foldl (fun a c=>10*a+(c.toNat-48)) a
theorem gy(a:Nat):xR a []=a:=by unfold xR;rw[List.foldl_nil]
theorem fS(a:Nat)(c:UInt8)(r:List UInt8):xR a (c::r)=xR (10*a+(c.toNat-48)) r:=by unfold xR;rw[List.foldl_cons]
def lC(l:List UInt8):Nat:=xR 0 l
theorem CR:∀(l r:List UInt8)(a:Nat),xR a (l++r)=xR (xR a l) r
 | [],_,a=>by rw[List.nil_append,gy]
 |c::l,r,a=>by rw[List.cons_append,fS,fS,CR l r]
theorem wF(l:List UInt8)(c:UInt8):lC (l++[c])=10*lC l+(c.toNat-48):=by unfold lC;rw[CR,fS,gy]
variable{k:Nat}
theorem sj(h:k<10):(Ud k).toNat=48+k:=by unfold Ud;simp[UInt8.toNat_ofNat'];omega
theorem PD(h:k<10):isD (Ud k)=true:=by unfold isD;rw[sj h];simp;omega
variable{c:UInt8}
theorem BT(h:isD c=true):Ud (c.toNat-48)=c:=by unfold isD at h;simp only[Bool.and_eq_true,decide_eq_true_eq] at h;unfold Ud;apply UInt8.toNat_inj.1;simp[UInt8.toNat_ofNat'];omega
theorem yA(h:isD c=true):c.toNat-48<10:=by unfold isD at h;simp only[Bool.and_eq_true,decide_eq_true_eq] at h;omega
theorem we{p:Nat→Prop}(h0:∀u,u<10→p u)(h1:∀u,¬u<10→p (u / 10)→p u)(u:Nat):p u:=by
 induction u using Nat.strongRecOn with
 |_ u ih=>
  by_cases h:u<10
  ·exact h0 u h
  ·exact h1 u h (ih (u / 10) (by omega))
theorem gh(u:Nat):lC (aR u)=u:=by
 induction u using we with
 |h0 u h=>
  rw[jo h];unfold lC;rw[fS,gy,sj h];omega
 |h1 u h ih=>rw[su h,wF,ih,sj (by omega)];omega
theorem gw(u:Nat):(aR u).all isD=true:=by
 induction u using we with
 |h0 u h=>rw[jo h];simp[PD h]
 |h1 u h ih=>rw[su h,List.all_append,ih];simp[PD (show u%10<10 by omega)]
theorem rr(u:Nat):aR u≠[]:=by
 induction u using we with
 |h0 u h=>rw[jo h];simp
 |h1 u h ih=>rw[su h];simp
theorem wh(u:Nat):0<(aR u).length:=List.length_pos_iff.2 (rr u)
theorem Mb(u:Nat)(hu:0<u):(aR u).head? ≠some 48:=by
 induction u using we with
 |h0 u h=>
  rw[jo h];simp only[List.head?_cons,ne_eq,Option.some.injEq];intro e;have:=congrArg UInt8.toNat e;rw[sj h] at this;simp at this;omega
 |h1 u h ih=>
  rw[su h,List.head?_append];have:=ih (by omega);cases hh:(aR (u / 10)).head? with
  |none=>exact absurd (List.head?_eq_none_iff.1 hh) (rr _)
  |some x=>rw[hh] at this;simpa using this
theorem rv:aR 0=[48]:=by rw[jo (by omega)];rfl
def jL(l:List UInt8):Bool:=match l with
 | []=>false
 |c::r=>isD c&&r.all isD&&(!(c==48)||r.isEmpty)
theorem Oz(u:Nat):jL (aR u)=true:=by
 have Z:=gw u;have X:=rr u;by_cases hu:u=0
 ·subst hu;rw[rv];rfl
 ·have h3:=Mb u (by omega)
  cases hl:aR u with
  |nil=>exact absurd hl X
  |cons c r=>
   rw[hl] at Z h3;simp only[List.all_cons,Bool.and_eq_true] at Z;simp only[List.head?_cons,ne_eq,Option.some.injEq] at h3;simp[jL,Z.1,Z.2,h3]
variable{l:List UInt8}
theorem Oy(A:l≠[])(h:jL (l++[c])=true):jL l=true∧isD c=true∧l≠[48]:=by
 cases l with
 |nil=>exact absurd rfl A
 |cons x r=>
  simp only[List.cons_append,jL,List.all_append,List.all_cons,List.all_nil,Bool.and_true,Bool.and_eq_true] at h;obtain⟨⟨W,V,h3⟩,Z⟩:=h;have X:(x==48)=false:=by
   cases hx:x==48 with
   |false=>rfl
   |true=>rw[hx] at Z;simp at Z
  refine⟨by simp[jL,W,V,X],h3,?_⟩;intro e;cases e;simp at X
theorem YB{p:List UInt8→Prop}(h0:p [])(A:∀l c,p l→p (l++[c]))(l:List UInt8):p l:=by
 have:∀n (l:List UInt8),l.length=n→p l:=by
  intro n;induction n with
  |zero=>intro l Z;rw[List.eq_nil_of_length_eq_zero Z];exact h0
  |succ n ih=>
   intro l Z;have X:l≠[]:=by intro e;rw[e] at Z;simp at Z
   rw[←List.dropLast_concat_getLast X];exact A _ _ (ih _ (by simp[Z]))
 exact this _ l rfl
theorem Cp(h:jL l=true):aR (lC l)=l:=by
 induction l using YB with
 |h0=>cases h
 |A l c ih=>
  by_cases W:l=[]
  ·subst W
   simp only[List.nil_append,jL,List.all_nil,Bool.and_true,List.isEmpty_nil,Bool.or_true] at h;unfold lC;rw[List.nil_append,fS,gy,Nat.mul_zero,Nat.zero_add,jo (yA h),BT h]
  ·obtain⟨X,V,h3⟩:=Oy W h
   have Z:=ih X;have S:lC l≠0:=by intro e;rw[e,rv] at Z;exact h3 Z.symm
   have O:=yA V;rw[wF,su (by omega),show(10*lC l+(c.toNat-48)) / 10=lC l by omega,show(10*lC l+(c.toNat-48))%10=c.toNat-48 by omega,Z,BT V]
def An(l:List UInt8):Option Nat:=if jL l then some (lC l) else none
theorem gg(u:Nat):An (aR u)=some u:=by unfold An;rw[if_pos (Oz u),gh]
theorem jN(h:An l=some u):l=aR u:=by
 unfold An at h;split at h
 next hc=>cases h;exact(Cp hc).symm
 ·cases h
variable{v:Nat}
theorem PT(h:aR u=aR v):u=v:=by rw[←gh u,h,gh]
theorem Cw(u:Nat)(hu:0<u):10 ^ ((aR u).length-1)≤u:=by
 induction u using we with
 |h0 u h=>rw[jo h];simp;omega
 |h1 u h ih=>
  rw[su h];have:=ih (by omega);have Z:=wh (u / 10);simp only[List.length_append,List.length_singleton,Nat.add_sub_cancel];have e:10 ^ (aR (u / 10)).length=10 ^ ((aR (u / 10)).length-1)*10:=by rw[←Nat.pow_succ];congr 1;omega
  rw[e];omega
theorem fh(u:Nat):u<10 ^ (aR u).length:=by rw[uM,Lib.decDigits_length];exact Lib.lt_pow_nDigits u
theorem bD(A:0<k)(h:u<10 ^ k):(aR u).length≤k:=by
 by_cases hu:u=0
 ·subst hu;rw[rv];exact A
 ·have X:=Cw u (by omega)
  have Z:10 ^ ((aR u).length-1)<10 ^ k:=by omega
  have:=(Nat.pow_lt_pow_iff_right (by omega:1<10)).1 Z;omega
def cC(n:Int):List UInt8:=match n with
 |.ofNat u=>aR u
 |.negSucc u=>45::aR (u+1)
theorem Uv(n:Int):cC n=Lib.itoa n:=by
 unfold Lib.itoa;cases n with
 |ofNat u=>rw[if_neg (by simp)];simp[cC,uM]
 |negSucc u=>rw[if_pos (Int.negSucc_lt_zero u)];simp[cC,uM]
def pD(l:List UInt8):Option Int:=match l with
 |45::r=>match An r with
  |some (u+1)=>some (.negSucc u)
  |_=>none
 |l=>match An l with
  |some u=>some (.ofNat u)
  |none=>none
theorem oS(u:Nat):(aR u).head? ≠some 45:=by
 cases hl:aR u with
 |nil=>simp
 |cons c r=>
  have:=gw u;rw[hl] at this;simp only[List.all_cons,Bool.and_eq_true] at this;simp only[List.head?_cons,ne_eq,Option.some.injEq];rintro rfl;exact absurd this.1 (by decide)
theorem cY(n:Int):pD (cC n)=some n:=by
 cases n with
 |ofNat u=>
  have h:=oS u;simp only[cC];unfold pD;split
  ·rename_i r Z
   rw[Z] at h;simp at h
  ·rw[gg]
 |negSucc u=>simp[cC,pD,gg]
theorem fg{n:Int}(h:pD l=some n):l=cC n:=by
 unfold pD at h;split at h
 ·split at h
  ·rename_i Z
   cases h;simp[cC,jN Z]
  ·cases h
 ·split at h
  ·rename_i Z
   cases h;simp[cC,jN Z]
  ·cases h
theorem WM{m n:Int}(h:cC m=cC n):m=n:=by have:=cY m;rw[h,cY] at this;exact(Option.some.inj this).symm
theorem mY(n:Int):Lib.hasPrefix (cC n) [45]=decide (n<0):=by
 cases n with
 |ofNat u=>
  have h:=oS u;simp only[cC];cases hl:aR u with
  |nil=>exact absurd hl (rr u)
  |cons c r=>
   rw[hl] at h;simp only[List.head?_cons,ne_eq,Option.some.injEq] at h;rw[show decide (Int.ofNat u<0)=false by simp];have Z :¬(45:UInt8)=c:=fun e=>h e.symm
   simp[Lib.hasPrefix,List.isPrefixOf,Z]
 |negSucc u=>simp[cC,Lib.hasPrefix,List.isPrefixOf,Int.negSucc_lt_zero]
theorem ly(n:Int):Lib.trimPrefix (cC n) [45]=aR n.natAbs:=by
 unfold Lib.trimPrefix;rw[mY];cases n with
 |ofNat u=>
  rw[show decide (Int.ofNat u<0)=false by simp];rfl
 |negSucc u=>simp[cC,Int.negSucc_lt_zero,Int.natAbs]
theorem LH(h:isD c=true):Lib.digitVal c=some (c.toNat-48):=by unfold isD at h;simp only[Bool.and_eq_true,decide_eq_true_eq] at h;unfold Lib.digitVal;rw[if_pos h]
theorem yv:∀(l:List UInt8)(a:Nat),l.all isD=true→Lib.decFrom a l=some (xR a l)
 | [],a,_=>by rw[gy];rfl
 |c::r,a,h=>by simp only[List.all_cons,Bool.and_eq_true] at h;unfold Lib.decFrom;rw[LH h.1,fS];simp only;rw[yv r _ h.2,Nat.mul_comm]
theorem BS(u:Nat):Lib.decNat (aR u)=some u:=by
 unfold Lib.decNat
 have h:(aR u).isEmpty=false:=by
  cases hl:aR u with
  |nil=>exact absurd hl (rr u)
  |cons=>rfl
 rw[h];simp only[Bool.false_eq_true,if_false];rw[yv _ _ (gw u)];exact congrArg some (gh u)
theorem nu(n:Int):Lib.atoi (cC n)=some n:=by
 cases n with
 |ofNat u=>
  have Z:=oS u;have X:=gw u;have h3:=BS u;simp only[cC];cases hl:aR u with
  |nil=>exact absurd hl (rr u)
  |cons c r=>
   rw[hl] at Z X h3;simp only[List.head?_cons,ne_eq,Option.some.injEq] at Z;simp only[List.all_cons,Bool.and_eq_true] at X;have hc:¬c=43:=by rintro rfl;exact absurd X.1 (by decide)
   simp[Lib.atoi,Z,hc,h3]
 |negSucc u=>
  simp[cC,Lib.atoi,BS,Int.negSucc_eq]
theorem nN(h:(aR u).length<(aR v).length):u<v:=by
 have X:=fh u;have Z:0<v:=by
  by_cases Z:v=0
  ·subst Z
   rw[rv] at h;have:=wh u;simp only[List.length_singleton] at h;omega
  ·omega
 have W:=Cw v Z;have h3:10 ^ (aR u).length≤10 ^ ((aR v).length-1):=Nat.pow_le_pow_right (by omega) (by omega);exact Nat.lt_of_lt_of_le X (Nat.le_trans h3 W)
def LA(u v:Nat):Int:=if u<v then -1 else if v<u then 1 else 0
theorem uV:∀(l:List UInt8)(a:Nat),l.all isD=true→xR a l<(a+1)*10 ^ l.length
 | [],a,_=>by rw[gy];simp
 |c::r,a,h=>by simp only[List.all_cons,Bool.and_eq_true] at h;have Z:=yA h.1;have:=uV r (10*a+(c.toNat-48)) h.2;rw[fS];refine Nat.lt_of_lt_of_le this ?_;rw[List.length_cons,Nat.pow_succ,Nat.mul_comm (10 ^ r.length) 10,←Nat.mul_assoc];exact Nat.mul_le_mul_right _ (by omega)
theorem UF:∀(l:List UInt8)(a:Nat),a*10 ^ l.length≤xR a l
 | [],a=>by rw[gy];simp
 |c::r,a=>by have:=UF r (10*a+(c.toNat-48));rw[fS];refine Nat.le_trans ?_ this;rw[List.length_cons,Nat.pow_succ,Nat.mul_comm (10 ^ r.length) 10,←Nat.mul_assoc];exact Nat.mul_le_mul_right _ (by omega)
theorem nB:∀(l r:List UInt8)(a:Nat),l.length=r.length→l.all isD=true→r.all isD=true→Lib.compareBytes l r=LA (xR a l) (xR a r)
 | [],[],a,_,_,_=>by
  rw[gy];show(0:Int)=LA a a
  unfold LA;rw[if_neg (by omega),if_neg (by omega)]
 | [],_::_,_,h,_,_=>by simp at h
 |_::_,[],_,h,_,_=>by simp at h
 |c::l,d::r,a,h,h1,h2=>by
  simp only[List.length_cons,Nat.add_right_cancel_iff] at h;simp only[List.all_cons,Bool.and_eq_true] at h1 h2;have W:∀{x y:UInt8}{l r:List UInt8},isD x=true→isD y=true→l.all isD=true→l.length=r.length→x<y→xR (10*a+(x.toNat-48)) l<xR (10*a+(y.toNat-48)) r:=by intro x y l r O M K V S;have J:=uV l (10*a+(x.toNat-48)) K;have B:=UF r (10*a+(y.toNat-48));have F :x.toNat<y.toNat:=S;unfold isD at O M;simp only[Bool.and_eq_true,decide_eq_true_eq] at O M;rw[V] at J;have:(10*a+(x.toNat-48)+1)*10 ^ r.length≤(10*a+(y.toNat-48))*10 ^ r.length:=Nat.mul_le_mul_right _ (by omega);omega
  unfold Lib.compareBytes;rw[fS,fS];by_cases Z:c<d
  ·rw[if_pos Z]
   have:=W h1.1 h2.1 h1.2 h Z;unfold LA;rw[if_pos this]
  ·rw[if_neg Z]
   by_cases X:d<c
   ·rw[if_pos X]
    have:=W h2.1 h1.1 h2.2 h.symm X;unfold LA;rw[if_neg (by omega),if_pos this]
   ·rw[if_neg X]
    have D:¬c.toNat<d.toNat:=Z;have C:¬d.toNat<c.toNat:=X;have e:c.toNat=d.toNat:=by omega
    rw[e];exact nB l r _ h h1.2 h2.2
theorem xx(h:(aR u).length=(aR v).length):Lib.compareBytes (aR u) (aR v)=LA u v:=by
 have:=nB (aR u) (aR v) 0 h (gw u) (gw v);rw[this];show LA (lC (aR u)) (lC (aR v))=_
 rw[gh,gh]
def mJ(n:Int):Int:=if n<0 then -1 else if n=0 then 0 else 1
def Lz(m n:Int):Int:=if m<n then -1 else if n<m then 1 else 0
theorem Uw(n:Int):cC n=[48]↔n=0:=by
 constructor
 ·intro h;exact WM (h.trans (by rfl))
 ·rintro rfl;rfl
theorem kj(n:Int):(cC n==[48])=decide (n=0):=by rw[Bool.eq_iff_iff];simp[Uw]
theorem qY(n:Int):0<(cC n).length:=by
 cases n with
 |ofNat u=>exact wh u
 |negSucc u=>simp[cC]
theorem qZ{n:Int}(h:0<n):cC (-n)=45::cC n:=by
 cases n with
 |ofNat u=>
  cases u with
  |zero=>simp at h
  |succ u=>rfl
 |negSucc u=>exact absurd h (by have:=Int.negSucc_lt_zero u;omega)
theorem GS{n:Int}(h:n<0):(cC n).drop 1=cC (-n):=by have:=qZ (n:= -n) (by omega);rw[Int.neg_neg] at this;rw[this];rfl
theorem oL{n:Int}(h:0≤n):cC n=aR n.natAbs:=by
 cases n with
 |ofNat u=>rfl
 |negSucc u=>exact absurd h (by have:=Int.negSucc_lt_zero u;omega)
theorem XQ(a b:Int):Lz a b=if mJ a≠mJ b then (if mJ a<mJ b then -1 else 1) else
  if (aR a.natAbs).length≠(aR b.natAbs).length then (if (aR a.natAbs).length<(aR b.natAbs).length then-mJ a else mJ a) else mJ a*LA a.natAbs b.natAbs:=by
 by_cases Z:mJ a≠mJ b
 ·rw[if_pos Z]
  unfold mJ at Z ⊢;unfold Lz
  repeat' split
  all_goals first | rfl | omega
 ·rw[if_neg Z]
  by_cases W:(aR a.natAbs).length≠(aR b.natAbs).length
  ·rw[if_pos W]
   by_cases X:(aR a.natAbs).length<(aR b.natAbs).length
   ·rw[if_pos X]
    have:=nN X;unfold mJ at Z ⊢;unfold Lz
    repeat' split
    all_goals first | rfl | omega
   ·rw[if_neg X]
    have:=nN (u:=b.natAbs) (v:=a.natAbs) (by omega);unfold mJ at Z ⊢;unfold Lz
    repeat' split
    all_goals first | rfl | omega
  ·rw[if_neg W]
   unfold mJ at Z ⊢;unfold Lz LA
   repeat' split
   all_goals first | rfl | omega
def ak(q:Rat):List UInt8:=if q.den=1 then cC q.num else cC q.num++47::aR q.den
theorem wg(u:Nat):(47:UInt8)∉aR u:=by intro h;have:=List.all_eq_true.1 (gw u) _ h;exact absurd this (by decide)
theorem km(n:Int):(47:UInt8)∉cC n:=by
 cases n with
 |ofNat u=>exact wg u
 |negSucc u=>
  simp only[cC,List.mem_cons,not_or];exact⟨by decide,wg _⟩
theorem nJ:∀(l:List UInt8)(c:UInt8),c∉l→Lib.indexByte l c= -1
 | [],_,_=>rfl
 |b::l,c,h=>by simp only[List.mem_cons,not_or] at h;unfold Lib.indexByte;rw[if_neg (by simpa using fun e=>h.1 e.symm),nJ l c h.2];rfl
theorem yz:∀(l r:List UInt8)(c:UInt8),c∉l→Lib.indexByte (l++c::r) c=l.length
 | [],r,c,_=>by simp[Lib.indexByte]
 |b::l,r,c,h=>by
  simp only[List.mem_cons,not_or] at h;rw[List.cons_append];unfold Lib.indexByte;rw[if_neg (by simpa using fun e=>h.1 e.symm),yz l r c h.2];have Z:¬(((l.length:Int)== -1)=true):=by rw[beq_iff_eq];omega
  rw[if_neg Z];rfl
theorem DJ(q:Rat):Lib.indexByte (ak q) 47=if q.den=1 then -1 else ((cC q.num).length:Int):=by
 unfold ak;split
 ·exact nJ _ _ (km _)
 ·exact yz _ _ _ (km _)
def R8(n:Int)(d:Nat):Option Rat:=if h:1<d∧n.natAbs.gcd d=1 then some ⟨n,d,by omega,h.2⟩ else none
def dC(l:List UInt8):Option Rat:=match l.idxOf? 47 with
 |none=>match pD l with
  |some n=>some ⟨n,1,by decide,Nat.gcd_one_right _⟩
  |none=>none
 |some i=>match pD (l.take i),An (l.drop (i+1)) with
  |some n,some d=>R8 n d
  |_,_=>none
theorem RO(h:c∉l):l.idxOf? c=none:=List.idxOf?_eq_none_iff.2 h
theorem WK{r:List UInt8}(h:c∉l):(l++c::r).idxOf? c=some l.length:=by rw[List.idxOf?_eq_some_iff];refine⟨by simp,by simp,fun j Z=>?_⟩;rw[List.getElem_append_left Z];intro e;exact h (e▸List.getElem_mem Z)
theorem ao(q:Rat):dC (ak q)=some q:=by
 unfold dC ak;by_cases h:q.den=1
 ·rw[if_pos h,RO (km _)]
  simp only[cY];congr 1;apply Rat.ext
  ·rfl
  ·exact h.symm
 ·have Z:List.drop ((cC q.num).length+1) (cC q.num++47::aR q.den)=aR q.den:=by rw[List.drop_append];simp
  have X:List.take (cC q.num).length (cC q.num++47::aR q.den)=cC q.num:=List.take_left' rfl;have W:1<q.den:=by have:=q.den_nz;omega
  have V:q.num.natAbs.gcd q.den=1:=q.reduced;rw[if_neg h,WK (km _)];simp only;rw[Z,X,cY,gg];simp only[R8];rw[dif_pos ⟨W,V⟩]
variable{q:Rat}
theorem aw(h:dC l=some q):l=ak q:=by
 unfold dC at h;split at h
 ·split at h
  ·rename_i n Z
   cases h;unfold ak;rw[if_pos rfl];exact fg Z
  ·cases h
 ·rename_i i W
  split at h
  ·rename_i n d Z V
   unfold R8 at h;split at h
   ·rename_i hc
    cases h;unfold ak;rw[if_neg (by show¬d=1;omega)];obtain⟨S,X,_⟩:=List.idxOf?_eq_some_iff.1 W;show l=cC n++47::aR d
    rw[←fg Z,←jN V];have:l.drop i=47::l.drop (i+1):=by rw[List.drop_eq_getElem_cons S,X]
    rw[←this,List.take_append_drop]
   ·cases h
  ·cases h
theorem eO{p:Rat}(h:ak p=ak q):p=q:=by have:=ao p;rw[h,ao] at this;exact(Option.some.inj this).symm
theorem Ms(q:Rat):ak q=[48]↔q=0:=by
 constructor
 ·intro h;exact eO (h.trans (by rfl))
 ·rintro rfl;rfl
theorem cg(q:Rat):(ak q==[48])=decide (q=0):=by rw[Bool.eq_iff_iff];simp[Ms]
theorem neg_num(q:Rat):(-q).num= -q.num:=rfl
theorem Yj(q:Rat):(-q).den=q.den:=rfl
theorem rH(h:0<q.num):ak (-q)=45::ak q:=by unfold ak;rw[neg_num,Yj,qZ h];split<;>rfl
theorem oT(h:q.num<0):ak q=45::ak (-q):=by
 have:=rH (q:= -q) (by rw[neg_num];omega)
 rwa [Rat.neg_neg] at this
theorem Ao:q.num=0↔q=0:=by
 constructor
 ·intro h
  apply Rat.ext
  ·exact h
  ·have:=q.reduced
   rw[h] at this;simpa [Nat.Coprime] using this
 ·rintro rfl;rfl
theorem rG(h:0≤q.num):∃c r,ak q=c::r∧isD c=true:=by
 have Z:∃c r,cC q.num=c::r∧isD c=true:=by
  rw[oL h];have:=gw q.num.natAbs;cases hl:aR q.num.natAbs with
  |nil=>exact absurd hl (rr _)
  |cons c r=>
   rw[hl] at this;simp only[List.all_cons,Bool.and_eq_true] at this;exact⟨c,r,rfl,this.1⟩
 obtain⟨c,r,e,hc⟩:=Z;unfold ak;split
 ·exact⟨c,r,e,hc⟩
 ·exact⟨c,r++47::aR q.den,by rw[e];rfl,hc⟩
theorem gH(h:isD c=true):¬((c.toNat:Int)=45):=by unfold isD at h;simp only[Bool.and_eq_true,decide_eq_true_eq] at h;omega
def jV(q:Rat):Int:=mJ q.num
def big(k:Nat)(q:Rat):Prop:=q.num.natAbs<10 ^ k∧q.den<10 ^ k
variable{d:Nat}
theorem WX(n:Int)(A:d≠0):(mkRat n d).num.natAbs≤n.natAbs∧(mkRat n d).den≤d:=by rw[Rat.num_mkRat,Rat.den_mkRat,if_neg A,if_neg A];refine⟨?_,Nat.div_le_self _ _⟩;exact Int.natAbs_ediv_le_natAbs _ _
theorem fH(n:Int):(cC n).length≤(aR n.natAbs).length+1:=by
 cases n with
 |ofNat u=>simp[cC]
 |negSucc u=>simp[cC]
theorem Ee(A:0<k)(h:big k q):(ak q).length≤2*k+2:=by
 have Z:=bD A h.1;have X:=bD A h.2;have h3:=fH q.num;unfold ak;split
 ·omega
 ·simp only[List.length_append,List.length_cons];omega
theorem GC(h:(ak q).length≤k):big k q:=by
 have W:=fh q.num.natAbs;have V:=fh q.den;have h3:(aR q.num.natAbs).length≤(cC q.num).length:=by
  cases q.num with
  |ofNat u=>exact Nat.le_refl _
  |negSucc u=>simp[cC]
 have S:=qY q.num;have Z:(aR q.num.natAbs).length≤k∧(aR q.den).length≤k:=by
  unfold ak at h;split at h
  ·rename_i X
   refine⟨by omega,?_⟩;rw[X];show 1≤k
   omega
  ·simp only[List.length_append,List.length_cons] at h
   omega
 have O:10 ^ (aR q.num.natAbs).length≤10 ^ k:=Nat.pow_le_pow_right (by omega) Z.1;have M:10 ^ (aR q.den).length≤10 ^ k:=Nat.pow_le_pow_right (by omega) Z.2;exact⟨by omega,by omega⟩
def asc:List (Rat×Rat)→Prop
 |a::b::l=>a.1<b.1∧asc (b::l)
 |_=>True
def bc(l:List (Rat×Rat))(u:Rat):Nat:=match l with
 | []=>0
 |k::r=>(if k.1≤u then 1 else 0)+bc r u
def CM(a b:Rat×Rat):Rat:=(b.2-a.2) / (b.1-a.1)
def lH(l:List (Rat×Rat))(n:Nat):Rat×Rat:=
 if l=[] then (0,0) else if n=0 then ((l.getD 0 (0,0)).2,0) else if n=l.length then ((l.getD (n-1) (0,0)).2,0) else
  ((l.getD (n-1) (0,0)).2-CM (l.getD (n-1) (0,0)) (l.getD n (0,0))*(l.getD (n-1) (0,0)).1,CM (l.getD (n-1) (0,0)) (l.getD n (0,0)))
def ej(l:List (Rat×Rat))(u:Rat):Rat:=(lH l (bc l u)).1+(lH l (bc l u)).2*u
variable{a:Rat×Rat}
theorem GA{l:List (Rat×Rat)}(h:asc (a::l)):asc l:=by
 cases l with
 |nil=>trivial
 |cons b l=>exact h.2
theorem gl(l:List (Rat×Rat))(u:Rat):bc l u≤l.length:=by
 induction l with
 |nil=>exact Nat.le_refl _
 |cons k r ih=>simp only[bc,List.length_cons];split<;>omega
theorem rD{l:List (Rat×Rat)}{u:Rat}(h:asc l)(h0:∀a∈l.head?,u<a.1):bc l u=0:=by
 induction l with
 |nil=>rfl
 |cons k r ih=>
  have X:u<k.1:=h0 k (by simp);have:¬k.1≤u:=Rat.not_le.2 X;simp only[bc,if_neg this];rw[ih (GA h) ?_];intro a Z;cases r with
  |nil=>simp at Z
  |cons b r=>
   simp at Z;subst Z;have:=h.1
   grind
variable{n:Nat}
theorem RU{l:List (Rat×Rat)}(A:l≠[])(G:n≠0):lH (a::l) (n+1)=lH l n:=by
 obtain⟨m,rfl⟩:∃m,n=m+1:=⟨n-1,by omega⟩
 unfold lH;simp[A]
theorem Pk{b:Rat×Rat}{l:List (Rat×Rat)}{u:Rat}(h:asc (a::b::l))(hu:b.1≤u):ej (a::b::l) u=ej (b::l) u:=by
 have Z:a.1≤u:=by have:=h.1;grind
 have e:bc (a::b::l) u=bc (b::l) u+1:=by rw[bc,if_pos Z,Nat.add_comm]
 have X:bc (b::l) u≠0:=by rw[bc,if_pos hu];omega
 unfold ej;rw[e,RU (by simp) X]
theorem ML{b:Rat×Rat}{l:List (Rat×Rat)}{u:Rat}(h:asc (a::b::l))(A:a.1≤u)(hu:u<b.1):ej (a::b::l) u=a.2+(u-a.1) / (b.1-a.1)*(b.2-a.2):=by
 have e:bc (a::b::l) u=1:=by rw[bc,if_pos A,rD (GA h) (by simpa using hu)]
 have X:b.1-a.1≠0:=by have:=h.1;grind
 unfold ej;rw[e];have Z:lH (a::b::l) 1=(a.2-CM a b*a.1,CM a b):=by simp[lH]
 rw[Z];simp only[CM,Rat.div_def]
 grind
variable{x:Int}
theorem fC{y:Int}{a b:Nat}(A:x.natAbs<a)(G:y.natAbs<b):(x*y).natAbs<a*b:=by rw[Int.natAbs_mul];exact Nat.mul_lt_mul'' A G
def dg(n d:Nat)(q:Rat):Prop:=q.num.natAbs<10 ^ n∧q.den<10 ^ d
variable{d' n' :Nat}
theorem dg.mono(h:dg n d q)(A:n≤n')(G:d≤d'):dg n' d' q:=by have Z:10 ^ n≤10 ^ n' :=Nat.pow_le_pow_right (by omega) A;have X:10 ^ d≤10 ^ d' :=Nat.pow_le_pow_right (by omega) G;exact⟨by have:=h.1;omega,by have:=h.2;omega⟩
theorem oK{y:Nat}(A:y≠0)(G:x.natAbs<10 ^ n)(H:y<10 ^ d):dg n d (mkRat x y):=by have:=WX x A;exact⟨by omega,by omega⟩
variable{m:Nat}
theorem nM{a b:Nat}(A:a<10 ^ k)(G:b<10 ^ m):a*b<10 ^ (k+m):=by rw[Nat.pow_add];exact Nat.mul_lt_mul'' A G
variable{b:Rat}
theorem LG{a:Rat}(A:dg n d a)(G:dg n' d' b):dg (n+n') (d+d') (a*b):=by rw[Rat.mul_def'];refine oK (Nat.mul_ne_zero a.den_nz b.den_nz) ?_ (nM A.2 G.2);rw[Int.natAbs_mul];exact nM A.1 G.1
theorem Uc{a:Rat}(A:dg n d a)(G:dg n' d' b)(H:n+d' ≤m)(I:n' +d≤m):dg (m+1) (d+d') (a+b):=by rw[Rat.add_def'];refine oK (Nat.mul_ne_zero a.den_nz b.den_nz) ?_ (nM A.2 G.2);have X:=nM A.1 G.2;have W:=nM G.1 A.2;have Z:=Int.natAbs_add_le (a.num*b.den) (b.num*a.den);rw[Int.natAbs_mul,Int.natAbs_mul,Int.natAbs_natCast,Int.natAbs_natCast] at Z;have V:10 ^ (n+d')≤10 ^ m:=Nat.pow_le_pow_right (by omega) H;have S:10 ^ (n' +d)≤10 ^ m:=Nat.pow_le_pow_right (by omega) I;have O:10 ^ (m+1)=10 ^ m*10:=Nat.pow_succ ..;omega
theorem YP{a:Rat}(A:dg n d a):dg n d (-a):=by refine⟨?_,A.2⟩;rw[Rat.neg_num,Int.natAbs_neg];exact A.1
theorem PC{a:Rat}(A:dg n d a)(G:dg n' d' b)(H:n+d' ≤m)(I:n' +d≤m):dg (m+1) (d+d') (a-b):=by rw[Rat.sub_eq_add_neg];exact Uc A (YP G) H I
theorem YO(h:x.natAbs<10 ^ n):dg n 1 (x:Rat):=⟨by simpa using h,by show(1:Nat)<10;decide⟩
theorem dg.lens(h:dg n d q)(A:0<n)(G:0<d):(aR q.num.natAbs).length≤n∧(aR q.den).length≤d:=
 ⟨bD A h.1,bD G h.2⟩
def stC(l:List (List UInt8)):List AV:=l.map .str
theorem fe(l:List (List UInt8)):(stC l).length=l.length:=by simp[stC]
theorem Sh(l r:List (List UInt8)):stC (l++r)=stC l++stC r:=by simp[stC]
theorem kJ:∀l:List (List UInt8),AV.ae0 (stC l)=true
 | []=>rfl
 |x::l=>by have:=kJ l;simp only[stC] at this;simp[stC,AV.ae0,AV.closed,this]
variable{i:Nat}
theorem rP{l:List (List UInt8)}{s:List UInt8}(h:l[i]? =some s):(stC l)[i]? =some (.str s):=by simp[stC,h]
theorem Xf(l:List (List UInt8)):(stC l).take l.length=stC l:=List.take_of_length_le (by rw[fe];omega)
def stP:List AV→Option (List (List UInt8))
 | []=>some []
 |.str a::l=>match stP l with
  |some r=>some (a::r)
  |none=>none
 |_=>none
theorem CN:∀L:List (List UInt8),stP (stC L)=some L
 | []=>rfl
 |k::L=>by have:=CN L;simp only[stC] at this;simp[stC,stP,this]
theorem Qb:∀{cs:List AV}{L:List (List UInt8)},stP cs=some L→cs=stC L
 | [],L,h=>by cases h;rfl
 |v::l,L,h=>by
  unfold stP at h;split at h
  next Z=>cases Z
  ·rename_i a W Z
   cases Z;split at h
   ·rename_i r X
    cases h;have:=Qb X;simp only[stC] at this ⊢;rw[this];rfl
   ·cases h
  ·cases h
def sts(M:Mem)(x:AV):Option (List (List UInt8)):=match Lu 1 M x with
 |some cs=>stP cs
 |none=>none
theorem wC{M:Mem}{x:AV}{L:List (List UInt8)}(h:sts M x=some L):Zq 1 M x L.length (stC L)∨(x=.y9∧L=[]):=by
 unfold sts at h;split at h
 ·rename_i V Z
  have hc:=Qb h;subst hc;rcases OA Z with⟨n,X,W⟩ | ⟨rfl,X⟩
  ·have:n=L.length:=by rw[fe] at X;omega
   subst this;exact .inl W
  ·refine .inr ⟨rfl,?_⟩
   cases L with
   |nil=>rfl
   |cons a l=>simp[stC] at X
 ·cases h
abbrev P2:=Rat×Rat
def pA(p:P2):AV:=.agg [.str (ak p.1),.str (ak p.2)]
def pDg(n:Nat)(p:P2):Prop:=dg n 1 p.1∧dg n 1 p.2
def bU(a b c:P2):Rat:=(b.1-a.1)*(c.2-a.2)-(b.2-a.2)*(c.1-a.1)
def pC:List P2→List AV
 | []=>[]
 |p::l=>.str (ak p.1)::.str (ak p.2)::pC l
theorem wo:∀l:List P2,(pC l).length=l.length*2
 | []=>rfl
 |_::l=>by simp only[pC,List.length_cons,wo l];omega
theorem dA:∀l:List P2,AV.ae0 (pC l)=true
 | []=>rfl
 |p::l=>by simp[pC,AV.ae0,AV.closed,dA l]
theorem ef(n:Nat):∀l:List P2,AV.afc n (pC l)=[]
 | []=>rfl
 |p::l=>by simp[pC,AV.afc,AV.refs,ef n l]
theorem gx(f:Nat→Option Nat)(l:List P2):AV.ae3 f (pC l)=pC l:=ca (dA l)
theorem Zc:pC []=[]:=rfl
theorem Cv(f:Nat→Bool):∀l:List P2,AV.aeW f (pC l)=true
 | []=>rfl
 |p::l=>by simp[pC,AV.aeW,AV.aeR,Cv f l]
theorem Cu:∀l r:List P2,pC (l++r)=pC l++pC r
 | [],_=>rfl
 |p::l,r=>by simp[pC,Cu l r]
theorem U5:∀(l:List P2)(i:Nat),(pC l).drop (i*2)=pC (l.drop i)
 |l,0=>by simp
 | [],i+1=>by simp[pC]
 |p::l,i+1=>by
  have:(i+1)*2=i*2+1+1:=by omega
  rw[this];simp only[pC,List.drop_succ_cons];exact U5 l i
theorem wm{l:List P2}{p:P2}(h:l[i]? =some p):
  ((pC l).drop (i*2)).take 2=[.str (ak p.1),.str (ak p.2)]∧(pC l)[i*2]? =some (.str (ak p.1))∧(pC l)[i*2+1]? =some (.str (ak p.2))∧i*2+2≤(pC l).length:=by
 have V:=gL h;have Z:l.drop i=p::l.drop (i+1):=by rw[List.getElem?_eq_some_iff] at h;obtain⟨X,W⟩:=h;rw[←W];exact List.drop_eq_getElem_cons X
 have e:=U5 l i;rw[Z] at e;refine⟨by rw[e];rfl,?_,?_,by rw[wo];omega⟩
 ·have:(pC l)[i*2]? =((pC l).drop (i*2))[0]? :=by rw[List.getElem?_drop];rfl
  rw[this,e];rfl
 ·have:(pC l)[i*2+1]? =((pC l).drop (i*2))[1]? :=by rw[List.getElem?_drop]
  rw[this,e];rfl
abbrev Tr:=Nat×Nat×Nat
def tC:List Tr→List AV
 | []=>[]
 |t::l=>.int .i64 (t.1:Int)::.int .i64 (t.2.1:Int)::.int .i64 (t.2.2:Int)::tC l
theorem ME:∀l:List Tr,(tC l).length=l.length*3
 | []=>rfl
 |_::l=>by simp only[tC,List.length_cons,ME l];omega
theorem dV:∀l:List Tr,AV.ae0 (tC l)=true
 | []=>rfl
 |p::l=>by simp[tC,AV.ae0,AV.closed,dV l]
theorem eW(n:Nat):∀l:List Tr,AV.afc n (tC l)=[]
 | []=>rfl
 |p::l=>by simp[tC,AV.afc,AV.refs,eW n l]
theorem iS(f:Nat→Option Nat)(l:List Tr):AV.ae3 f (tC l)=tC l:=ca (dV l)
theorem CQ(f:Nat→Bool):∀l:List Tr,AV.aeW f (tC l)=true
 | []=>rfl
 |p::l=>by simp[tC,AV.aeW,AV.aeR,CQ f l]
theorem Vo:∀(l:List Tr)(i:Nat),(tC l).drop (i*3)=tC (l.drop i)
 |l,0=>by simp
 | [],i+1=>by simp[tC]
 |p::l,i+1=>by
  have:(i+1)*3=i*3+1+1+1:=by omega
  rw[this];simp only[tC,List.drop_succ_cons];exact Vo l i
theorem Ph{l:List Tr}{t:Tr}(h:l[i]? =some t):
  ((tC l).drop (i*3)).take 3=[.int .i64 (t.1:Int),.int .i64 (t.2.1:Int),.int .i64 (t.2.2:Int)]∧i*3+3≤(tC l).length:=by
 have V:=gL h;have Z:l.drop i=t::l.drop (i+1):=by rw[List.getElem?_eq_some_iff] at h;obtain⟨X,W⟩:=h;rw[←W];exact List.drop_eq_getElem_cons X
 have e:=Vo l i;rw[Z] at e;exact⟨by rw[e];rfl,by rw[ME];omega⟩
def pmE(p:P2):AV×AV:=(pA p,.bool true)
theorem He(n:Nat):∀l:List P2,(l.map pmE).flatMap (fun e=>e.1.refs n++e.2.refs n)=[]
 | []=>rfl
 |p::l=>by simp[pmE,pA,AV.refs,AV.afc,He n l]
def sqI:List (Int×Int):=[(0,0),(4,0),(4,4),(0,4)]
def dM:Nat→List (Int×Int)
 |0=>sqI
 |1=>sqI
 |2=>[(0,0),(4,0),(4,4),(0,4),(2,1)]
 |3=>[(0,0),(6,0),(0,4)]
 |4=>[(0,0),(2,0),(4,0),(0,2),(2,2),(4,2)]
 |5=>[(1,4),(5,3),(4,0),(0,0)]
 |6=>[(0,0),(4,0),(4,4),(0,4),(2,0)]
 |_=>[(0,0),(6,0),(0,6),(2,2)]
def bJ:Nat→List Tr
 |0=>[(0,1,2),(0,2,3)]
 |1=>[(0,1,3),(1,2,3)]
 |2=>[(0,1,4),(1,2,4),(2,3,4),(3,0,4)]
 |3=>[(2,0,1)]
 |4=>[(0,1,4),(0,4,3),(1,2,5),(1,5,4)]
 |5=>[(3,2,1),(3,1,0)]
 |6=>[(0,4,3),(4,2,3),(4,1,2)]
 |_=>[(0,1,3),(1,2,3),(2,0,3)]
def lx:Nat→List Nat
 |2=>[0,1,2,3]
 |3=>[0,1,2]
 |4=>[0,1,2,5,4,3]
 |5=>[0,3,2,1]
 |6=>[0,4,1,2,3]
 |7=>[0,1,2]
 |_=>[0,1,2,3]
def iP:List (Int×Int)→List AV
 | []=>[]
 |p::l=>.int .i64 p.1::.int .i64 p.2::iP l
theorem LY:∀l:List (Int×Int),(iP l).length=l.length*2
 | []=>rfl
 |_::l=>by simp only[iP,List.length_cons,LY l];omega
theorem ON(n:Nat):∀l:List (Int×Int),AV.afc n (iP l)=[]
 | []=>rfl
 |p::l=>by simp[iP,AV.afc,AV.refs,ON n l]
theorem LX:∀l:List (Int×Int),AV.ae0 (iP l)=true
 | []=>rfl
 |p::l=>by simp[iP,AV.ae0,AV.closed,LX l]
theorem Ur(f:Nat→Option Nat)(l:List (Int×Int)):AV.ae3 f (iP l)=iP l:=ca (LX l)
theorem Uq:∀(l:List (Int×Int))(i:Nat),(iP l).drop (i*2)=iP (l.drop i)
 |l,0=>by simp
 | [],i+1=>by simp[iP]
 |p::l,i+1=>by
  have:(i+1)*2=i*2+1+1:=by omega
  rw[this];simp only[iP,List.drop_succ_cons];exact Uq l i
theorem ZH{l:List (Int×Int)}{p:Int×Int}(h:l[i]? =some p):
  (iP l)[i*2]? =some (.int .i64 p.1)∧(iP l)[i*2+1]? =some (.int .i64 p.2)∧i*2+2≤(iP l).length:=by
 have V:=gL h;have Z:l.drop i=p::l.drop (i+1):=by rw[List.getElem?_eq_some_iff] at h;obtain⟨X,W⟩:=h;rw[←W];exact List.drop_eq_getElem_cons X
 have e:=Uq l i;rw[Z] at e;refine⟨?_,?_,by rw[LY];omega⟩
 ·have:(iP l)[i*2]? =((iP l).drop (i*2))[0]? :=by rw[List.getElem?_drop];rfl
  rw[this,e];rfl
 ·have:(iP l)[i*2+1]? =((iP l).drop (i*2))[1]? :=by rw[List.getElem?_drop]
  rw[this,e];rfl
structure aeX where
 kind:Nat
 sx:Int
 sy:Int
 half:Bool
structure aeX.Ok (s:aeX):Prop where
 kind:s.kind<256
 x0: -128≤s.sx
 x1:s.sx≤127
 y0: -128≤s.sy
 y1:s.sy≤127
def aeX.av(s:aeX):AV:=.agg [.int .u8 s.kind,.int .i8 s.sx,.int .i8 s.sy,.bool s.half]
def aeX.pt(s:aeX)(k:Nat)(x y:Int):P2:=
 (mkRat (x+s.sx.tmod 8*k) ((if s.half then 2 else 1)*k),mkRat (y+s.sy.tmod 8*k) ((if s.half then 2 else 1)*k))
def aeX.P(s:aeX):List P2:=(dM (s.kind%8)).map fun p=>s.pt 1 p.1 p.2
def aeX.T(s:aeX):List Tr:=bJ (s.kind%8)
theorem Vv{n:Int}(h0: -128≤n)(A:n≤127):IntKind.i8.wrap n=n:=by simp only[IntKind.wrap,IntKind.bits,IntKind.signed,Bool.true_and];split<;>simp_all<;>omega
theorem DO(x:Int): -7≤x.tmod 8∧x.tmod 8≤7:=by
 have Z:=Int.tmod_lt_of_pos x (show(0:Int)<8 by decide);have X: -8<x.tmod 8:=by have:=Int.tmod_lt_of_pos (-x) (show(0:Int)<8 by decide);rw[Int.neg_tmod] at this;omega
 omega
def qC(Q:List Rat):List AV:=Q.map fun q=>.str (ak q)
theorem Mo(Q:List Rat):(qC Q).length=Q.length:=by simp[qC]
theorem ir:∀Q:List Rat,AV.ae0 (qC Q)=true
 | []=>rfl
 |q::Q=>by have:=ir Q;simp only[qC] at this;simp[qC,AV.ae0,AV.closed,this]
theorem gq(n:Nat):∀Q:List Rat,AV.afc n (qC Q)=[]
 | []=>rfl
 |q::Q=>by have:=gq n Q;simp only[qC] at this;simp[qC,AV.afc,AV.refs,this]
theorem Mq(f:Nat→Bool):∀Q:List Rat,AV.aeW f (qC Q)=true
 | []=>rfl
 |q::Q=>by have:=Mq f Q;simp only[qC] at this;simp[qC,AV.aeW,AV.aeR,this]
theorem fj(f:Nat→Option Nat)(Q:List Rat):AV.ae3 f (qC Q)=qC Q:=ca (ir Q)
theorem R5{Q:List Rat}(h:Q[i]? =some q):(qC Q)[i]? =some (.str (ak q)):=by simp[qC,h]
structure ae6 where
 kind:Nat
 A:Int×Int×Int
 B:Int×Int×Int
 N:Int
 K:Nat×Nat×Nat×Nat
def ae6.cells(d:ae6):List AV:=[.int .u8 d.kind,.int .i8 d.A.1,.int .i8 d.A.2.1,.int .i8 d.A.2.2,.int .i8 d.B.1,.int .i8 d.B.2.1,.int .i8 d.B.2.2,.int .i8 d.N,.int .u8 d.K.1,.int .u8 d.K.2.1,.int .u8 d.K.2.2.1,.int .u8 d.K.2.2.2]
def Ak(n:Int):Prop:= -128≤n∧n≤127
def WJ(v:Int×Int×Int):Prop:=Ak v.1∧Ak v.2.1∧Ak v.2.2
def Zm(v:Nat×Nat×Nat×Nat):Prop:=v.1<256∧v.2.1<256∧v.2.2.1<256∧v.2.2.2<256
structure ae6.Ok (d:ae6):Prop where
 kind:d.kind<256
 A:WJ d.A
 B:WJ d.B
 N:Ak d.N
 K:Zm d.K
def Xv(v:Int×Int×Int)(k:Nat):Int:=if k=0 then v.1 else if k=1 then v.2.1 else v.2.2
def Mf(v:Nat×Nat×Nat×Nat)(k:Nat):Nat:=if k=0 then v.1 else if k=1 then v.2.1 else if k=2 then v.2.2.1 else v.2.2.2
def hQ(z:Int):Rat:=mkRat z 2
theorem yy(z:Int):hQ z=(z:Rat) / 2:=by unfold hQ;rw[Rat.mkRat_eq_div];rfl
theorem YV(n a:Int):(n:Rat)+hQ a=hQ (2*n+a):=by
 rw[yy,yy,Rat.intCast_add,Rat.intCast_mul];have:((2:Int):Rat)=2:=rfl;rw[this]
 grind
theorem Xp(a b:Int):hQ a+hQ b=hQ (a+b):=by
 rw[yy,yy,yy,Rat.intCast_add]
 grind
theorem ZG{a b:Int}(h:a≤b):hQ a≤hQ b:=by
 rw[yy,yy];have:(a:Rat)≤(b:Rat):=by exact_mod_cast h
 grind
variable{z:Int}
theorem Un(h:z.natAbs<1000):dg 3 1 (hQ z):=oK (by decide) h (by decide)
theorem B6(h:z.natAbs<1000):(ak (hQ z)).length≤9:=by have Z:=Un h;have X:big 3 (hQ z):=⟨Z.1,by have:=Z.2;omega⟩;have:=Ee (by decide) X;omega
def Ov(d:ae6)(k:Nat):Int:=2*d.N.tmod 4+(Xv d.A (k%3)).tmod 3
def bI(d:ae6)(n:Nat):List Int:=(List.range n).map (Ov d)
theorem RC(d:ae6)(n:Nat):bI d (n+1)=bI d n++[Ov d n]:=by simp[bI,List.range_succ]
theorem dT(d:ae6)(n:Nat):(bI d n).length=n:=by simp[bI]
def MC(d:ae6)(j k:Nat):Int:=((Mf d.K ((j+k)%4)%4:Nat):Int)
def cH(d:ae6)(j:Nat)(L:List Int)(n:Nat):List Int:=(List.range n).map fun k=>L.getD k 0+MC d j k
theorem EU(d:ae6)(j:Nat)(L:List Int)(n:Nat):cH d j L (n+1)=cH d j L n++[L.getD n 0+MC d j n]:=by simp[cH,List.range_succ]
theorem fc(d:ae6)(j:Nat)(L:List Int)(n:Nat):(cH d j L n).length=n:=by simp[cH]
def qH(Z:List Int):List Rat:=Z.map hQ
theorem nT(x:Int)(k:Nat)(A:0<k): -(k:Int)<x.tmod k∧x.tmod k<k:=by have X:=Int.tmod_lt_of_pos x (show(0:Int)<(k:Int) by omega);have Z:=Int.tmod_lt_of_pos (-x) (show(0:Int)<(k:Int) by omega);rw[Int.neg_tmod] at Z;omega
end Go.Eng
