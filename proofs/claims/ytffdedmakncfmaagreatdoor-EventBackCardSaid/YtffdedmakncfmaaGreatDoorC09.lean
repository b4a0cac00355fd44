/- See C54. -/
import Derived.Test.YtffdedmakncfmaaGreatDoorC08
set_option linter.all false
namespace Go.Eng
def au(B:Nat):List Nat→Nat
 | []=>0
 |d::l=>d+B*au B l
def lok(B:Nat)(l:List Nat):Bool:=l.all fun d=>decide (d<B)
def aU:List Nat→List Nat
 | []=>[]
 |d::l=>match aU l with
  | []=>if d=0 then [] else [d]
  |x::r=>d::x::r
def Vt(B:Nat):Nat→Nat→List Nat
 |0,_=>[]
 |f+1,n=>if n=0 then [] else n%B::Vt B f (n / B)
def dig(B n:Nat):List Nat:=Vt B (n.log2+1) n
theorem T6{B:Nat}(y:2≤B):∀(f g n:Nat),n<2 ^ f→n<2 ^ g→Vt B f n=Vt B g n
 |0,g,n,h,_=>by
  have:n=0:=by simp at h;omega
  subst this;cases g<;>simp[Vt]
 |f+1,0,n,_,h=>by
  have:n=0:=by simp at h;omega
  subst this;simp[Vt]
 |f+1,g+1,n,h1,h2=>by
  unfold Vt;by_cases Z:n=0
  ·rw[if_pos Z,if_pos Z]
  ·rw[if_neg Z,if_neg Z]
   have h:n / B≤n / 2:=Nat.div_le_div_left y (by omega);rw[Nat.pow_succ] at h1 h2;rw[T6 y f g (n / B) (by omega) (by omega)]
theorem dK(B:Nat):dig B 0=[]:=by simp[dig,Vt]
variable{B n:Nat}
section
variable (hB:2≤B)
include hB
theorem yR(y:n≠0):dig B n=n%B::dig B (n / B):=by
 have Z:n<2 ^ (n.log2+1):=Nat.lt_log2_self;have X:n / B<2 ^ ((n / B).log2+1):=Nat.lt_log2_self;have h:n / B≤n / 2:=Nat.div_le_div_left hB (by omega);show Vt B (n.log2+1) n=_
 rw[Vt,if_neg y];congr 1;exact T6 hB _ _ _ (by rw[Nat.pow_succ] at Z;omega) X
theorem O1{p:Nat→Prop}(h0:p 0)(h1:∀n,n≠0→p (n / B)→p n)(n:Nat):p n:=by
 induction n using Nat.strongRecOn with
 |_ n ih=>
  by_cases Z:n=0
  ·subst Z;exact h0
  ·exact h1 n Z (ih (n / B) (Nat.div_lt_self (by omega) hB))
theorem bC(n:Nat):au B (dig B n)=n:=by
 induction n using O1 hB with
 |h0=>rw[dK];rfl
 |h1 n hn ih=>
  rw[yR hB hn,au,ih];have:=Nat.mod_add_div n B;omega
theorem bT(n:Nat):lok B (dig B n)=true:=by
 induction n using O1 hB with
 |h0=>rw[dK];rfl
 |h1 n hn ih=>
  rw[yR hB hn];unfold lok at ih ⊢;rw[List.all_cons,ih];simp[Nat.mod_lt n (show 0<B by omega)]
end
theorem ib(B:Nat):∀(l r:List Nat),au B (l++r)=au B l+B ^ l.length*au B r
 | [],r=>by simp[au]
 |d::l,r=>by rw[List.cons_append,au,au,ib B l r,List.length_cons,Nat.pow_succ,Nat.mul_add,Nat.mul_comm (B ^ l.length) B,Nat.mul_assoc];omega
theorem gK{B:Nat}:∀{l:List Nat},lok B l=true→au B l<B ^ l.length
 | [],_=>by simp[au]
 |d::l,h=>by unfold lok at h;simp only[List.all_cons,Bool.and_eq_true,decide_eq_true_eq] at h;have:=gK (l:=l) h.2;rw[au,List.length_cons,Nat.pow_succ];have Z:B*(au B l+1)≤B*B ^ l.length:=Nat.mul_le_mul_left _ this;rw[Nat.mul_add] at Z;rw[Nat.mul_comm (B ^ l.length) B];omega
theorem FF(B:Nat):∀l:List Nat,au B (aU l)=au B l
 | []=>rfl
 |d::l=>by
  have Z:=FF B l;unfold aU;split
  ·rename_i h
   rw[h] at Z;rw[au,←Z];split
   next X=>subst X;simp[au]
   ·simp[au]
  ·rename_i x r h
   rw[h] at Z;show d+B*au B (x::r)=d+B*au B l
   rw[Z]
theorem eU(y:2≤B):dig B n=[]↔n=0:=by
 constructor
 ·intro h
  by_cases Z:n=0
  ·exact Z
  ·rw[yR y Z] at h;cases h
 ·rintro rfl;exact dK B
theorem dJ{B:Nat}(y:2≤B):∀{l:List Nat},lok B l=true→dig B (au B l)=aU l
 | [],_=>dK B
 |d::l,h=>by
  unfold lok at h;simp only[List.all_cons,Bool.and_eq_true,decide_eq_true_eq] at h;have Z:=dJ y (l:=l) h.2;have R:au B (d::l)=d+B*au B l:=rfl;have V:(d+B*au B l) / B=au B l:=by rw[Nat.add_mul_div_left _ _ (by omega),Nat.div_eq_of_lt h.1,Nat.zero_add]
  have U:(d+B*au B l)%B=d:=by rw[Nat.add_mul_mod_self_left,Nat.mod_eq_of_lt h.1]
  rw[R];unfold aU;split
  ·rename_i S
   rw[S] at Z;have Q:=(eU y).1 Z;rw[Q];split
   next X=>subst X;exact dK B
   ·rename_i X
    rw[yR y (by omega),Nat.mul_zero,Nat.add_zero,Nat.mod_eq_of_lt h.1,Nat.div_eq_of_lt h.1,dK]
  ·rename_i x r S
   rw[S] at Z;have O:au B l≠0:=by intro e;rw[e,dK] at Z;cases Z
   have:d+B*au B l≠0:=by have:0<B*au B l:=Nat.mul_pos (by omega) (by omega);omega
   rw[yR y this,V,U,Z]
theorem bY(y:2≤B)(n:Nat):aU (dig B n)=dig B n:=by rw[←dJ y (bT y n),bC y]
theorem jD:∀l:List Nat,aU (l++[0])=aU l
 | []=>rfl
 |d::l=>by rw[List.cons_append,aU,jD l,aU]
theorem FE{d:Nat}(hd:d≠0):∀l:List Nat,aU (l++[d])=l++[d]
 | []=>by simp[aU,hd]
 |c::l=>by rw[List.cons_append,aU,FE hd l];cases l<;>rfl
theorem cS:∀l:List Nat,(aU l).length≤l.length
 | []=>Nat.le_refl _
 |d::l=>by
  have:=cS l;unfold aU;split
  ·split<;>simp
  ·rename_i x r h
   rw[h] at this;simp only[List.length_cons] at this ⊢;omega
theorem kM:∀l:List Nat,aU l=l.take (aU l).length
 | []=>rfl
 |d::l=>by
  have:=kM l;unfold aU;split
  ·split<;>simp
  ·rename_i x r h
   rw[h] at this;rw[List.length_cons,List.take_succ_cons,←this]
section
variable (hB:2≤B)
include hB
theorem tP(n:Nat):n<B ^ (dig B n).length:=by
 have:=gK (bT hB n)
 rwa [bC hB] at this
theorem tY(n:Nat)(y:n≠0):B ^ ((dig B n).length-1)≤n:=by
 induction n using O1 hB with
 |h0=>exact absurd rfl y
 |h1 n _ ih=>
  rw[yR hB y,List.length_cons,Nat.add_sub_cancel];by_cases h0:n / B=0
  ·rw[h0,dK];simp;omega
  ·have:=ih h0
   have Z:0<(dig B (n / B)).length:=by
    cases h:dig B (n / B) with
    |nil=>exact absurd ((eU hB).1 h) h0
    |cons=>simp
   have e:B ^ (dig B (n / B)).length=B*B ^ ((dig B (n / B)).length-1):=by rw[Nat.mul_comm,←Nat.pow_succ];congr 1;omega
   rw[e];exact Nat.le_trans (Nat.mul_le_mul_left _ this) (Nat.mul_div_le n B)
theorem dI{m:Nat}(h:(dig B m).length<(dig B n).length):m<n:=by
 have Z:n≠0:=by rintro rfl;rw[dK] at h;simp at h
 have X:=tP hB m;have V:=tY hB n Z;have h3:B ^ (dig B m).length≤B ^ ((dig B n).length-1):=Nat.pow_le_pow_right (by omega) (by omega);omega
theorem ff{k:Nat}(h:n<B ^ k):(dig B n).length≤k:=by
 by_cases Z:n=0
 ·subst Z;rw[dK];simp
 ·have V:=tY hB n Z
  have X:B ^ ((dig B n).length-1)<B ^ k:=by omega
  have:=(Nat.pow_lt_pow_iff_right (by omega:1<B)).1 X;omega
end
variable{d:Nat}{l:List Nat}
theorem eh(h:lok B l=true){i:Nat}(y:l[i]? =some d):d<B:=by have:=List.all_eq_true.1 h d (List.mem_of_getElem? y);simpa using this
variable{r:List Nat}
theorem oS:lok B (l++r)=(lok B l&&lok B r):=by simp[lok,List.all_append]
theorem cL:lok B (d::r)=(decide (d<B)&&lok B r):=rfl
theorem jC(h:lok B l=true)(k:Nat):lok B (l.take k)=true:=by unfold lok at h ⊢;rw[List.all_eq_true] at h ⊢;exact fun d Z=>h d (List.mem_of_mem_take Z)
theorem jB(h:lok B l=true)(k:Nat):lok B (l.drop k)=true:=by unfold lok at h ⊢;rw[List.all_eq_true] at h ⊢;exact fun d Z=>h d (List.mem_of_mem_drop Z)
theorem Mo(B:Nat)(l:List Nat)(d:Nat):au B (l++[d])=au B l+B ^ l.length*d:=by rw[ib];simp[au]
def vM(B:Nat):List Nat→List Nat→Nat→List Nat
 | [],_,c=>[c]
 |x::a,b,c=>(c+x+b.headD 0)%B::vM B a b.tail ((c+x+b.headD 0) / B)
theorem Mq(B:Nat)(b:List Nat):au B b=b.headD 0+B*au B b.tail:=by cases b<;>simp[au]
theorem Mn(B:Nat):∀(a b:List Nat) (c:Nat),b.length≤a.length→au B (vM B a b c)=au B a+au B b+c
 | [],b,c,h=>by have:b=[]:=List.eq_nil_of_length_eq_zero (by simpa using h);subst this;simp[vM,au]
 |x::a,b,c,h=>by
  have Z:b.tail.length≤a.length:=by simp at h ⊢;omega
  rw[vM,au,Mn B a b.tail _ Z,Mq B b,au];have:=Nat.mod_add_div (c+x+b.headD 0) B;rw[Nat.mul_add,Nat.mul_add];omega
variable{b:List Nat}
theorem Ml(y:0<B)(h:lok B b=true):b.headD 0<B:=by
 cases b with
 |nil=>exact y
 |cons d b=>rw[cL,Bool.and_eq_true,decide_eq_true_eq] at h;exact h.1
theorem Qi(h:lok B b=true):lok B b.tail=true:=by
 cases b with
 |nil=>rfl
 |cons d b=>rw[cL,Bool.and_eq_true] at h;exact h.2
theorem Qh{B:Nat}(y:2≤B):∀(a b:List Nat) (c:Nat),lok B a=true→lok B b=true→c≤1→lok B (vM B a b c)=true
 | [],b,c,_,_,hc=>by simp[vM,lok];omega
 |x::a,b,c,ha,hb,hc=>by
  rw[cL,Bool.and_eq_true,decide_eq_true_eq] at ha;have Z:=Ml (by omega) hb;rw[vM,cL,Bool.and_eq_true,decide_eq_true_eq];refine⟨Nat.mod_lt _ (by omega),Qh y a _ _ ha.2 (Qi hb) ?_⟩;have:(c+x+b.headD 0) / B<2:=by rw[Nat.div_lt_iff_lt_mul (by omega)];omega
  omega
def wA(B:Nat):List Nat→List Nat→Nat→List Nat
 | [],_,_=>[]
 |x::a,b,c=>if x<c+b.headD 0 then (x+B-(c+b.headD 0))::wA B a b.tail 1 else (x-(c+b.headD 0))::wA B a b.tail 0
theorem Dk{B:Nat}(y:2≤B):∀(a b:List Nat) (c:Nat),lok B a=true→lok B b=true→c≤1→b.length≤a.length→au B b+c≤au B a→
  au B (wA B a b c)+au B b+c=au B a∧lok B (wA B a b c)=true
 | [],b,c,_,_,_,h,h2=>by have:b=[]:=List.eq_nil_of_length_eq_zero (by simpa using h);subst this;simp only[au] at h2;simp only[wA,au];exact⟨by omega,rfl⟩
 |x::a,b,c,ha,hb,hc,h,h2=>by
  have U:b.tail.length≤a.length:=by simp at h ⊢;omega
  rw[cL,Bool.and_eq_true,decide_eq_true_eq] at ha;have R:=Ml (by omega) hb;have Z:=Qi hb;rw[Mq B b] at h2 ⊢;rw[au] at h2 ⊢;unfold wA;split
  ·rename_i S
   have h3:au B b.tail+1≤au B a:=by
    have:B*au B b.tail<B*au B a:=by omega
    have:=Nat.lt_of_mul_lt_mul_left this;omega
   obtain⟨X,V⟩:=Dk y a b.tail 1 ha.2 Z (by omega) U h3;have e:B*au B a=B*au B (wA B a b.tail 1)+B*au B b.tail+B:=by rw[←X,Nat.mul_add,Nat.mul_add,Nat.mul_one]
   rw[au,cL,V,Bool.and_true,decide_eq_true_eq,e];exact⟨by omega,by omega⟩
  ·rename_i S
   have h3:au B b.tail+0≤au B a:=by
    have:B*au B b.tail<B*au B a+B:=by omega
    rw[←Nat.mul_succ] at this;have:=Nat.lt_of_mul_lt_mul_left this;omega
   obtain⟨X,V⟩:=Dk y a b.tail 0 ha.2 Z (by omega) U h3;have e:B*au B a=B*au B (wA B a b.tail 0)+B*au B b.tail:=by rw[←X,Nat.mul_add,Nat.mul_add,Nat.mul_zero,Nat.add_zero]
   rw[au,cL,V,Bool.and_true,decide_eq_true_eq,e];exact⟨by omega,by omega⟩
def jx(B:Nat):List Nat→Nat→List Nat
 | [],_=>[]
 |o::l,c=>if c=0 then o::l else (c+o)%B::jx B l ((c+o) / B)
def SG(B x:Nat):List Nat→List Nat→Nat→List Nat
 |o,[],c=>jx B o c
 | [],_::_,_=>[]
 |o::l,y::b,c=>(c+(o+x*y))%B::SG B x l b ((c+(o+x*y)) / B)
theorem xt(B:Nat):∀(o:List Nat) (c:Nat),(jx B o c).length=o.length
 | [],_=>rfl
 |o::l,c=>by
  unfold jx;split
  ·rfl
  ·simp[xt B l]
theorem vW(B x:Nat):∀(o b:List Nat) (c:Nat),(SG B x o b c).length=o.length
 |o,[],c=>by cases o<;>exact xt B _ c
 | [],_::_,_=>rfl
 |o::l,y::b,c=>by simp[SG,vW B x l b]
theorem Di{B:Nat}(y:2≤B):∀(o:List Nat) (c:Nat),lok B o=true→au B o+c<B ^ o.length→au B (jx B o c)=au B o+c∧lok B (jx B o c)=true
 | [],c,_,h=>by simp only[au,List.length_nil,Nat.pow_zero] at h;simp only[jx,au];exact⟨by omega,rfl⟩
 |o::l,c,ho,h=>by
  unfold jx;split
  next Z=>subst Z;exact⟨by omega,ho⟩
  ·rw[cL,Bool.and_eq_true,decide_eq_true_eq] at ho
   have X:=Nat.mod_add_div (c+o) B;rw[au,List.length_cons,Nat.pow_succ,Nat.mul_comm (B ^ l.length)] at h;have V:au B l+(c+o) / B<B ^ l.length:=by
    have:B*(au B l+(c+o) / B)<B*B ^ l.length:=by rw[Nat.mul_add];omega
    exact Nat.lt_of_mul_lt_mul_left this
   obtain⟨U,S⟩:=Di y l _ ho.2 V;rw[au,au,U,cL,S,Nat.mul_add];refine⟨by omega,?_⟩;simp[Nat.mod_lt (c+o) (show 0<B by omega)]
theorem Dj{B:Nat}(H:2≤B)(x:Nat):∀(o b:List Nat) (c:Nat),lok B o=true→au B o+x*au B b+c<B ^ o.length→
  b.length≤o.length→au B (SG B x o b c)=au B o+x*au B b+c∧lok B (SG B x o b c)=true
 |o,[],c,ho,h,_=>by
  simp only[au,Nat.mul_zero,Nat.add_zero] at h ⊢;have:SG B x o [] c=jx B o c:=by cases o<;>rfl
  rw[this];exact Di H o c ho h
 | [],y::b,c,_,_,hl=>by simp at hl
 |o::l,y::b,c,ho,h,hl=>by
  rw[cL,Bool.and_eq_true,decide_eq_true_eq] at ho;have Z:=Nat.mod_add_div (c+(o+x*y)) B;have e:x*(y+B*au B b)=x*y+B*(x*au B b):=by rw[Nat.mul_add,←Nat.mul_assoc,←Nat.mul_assoc,Nat.mul_comm x B]
  rw[au,au,e,List.length_cons,Nat.pow_succ,Nat.mul_comm (B ^ l.length)] at h;have X:au B l+x*au B b+(c+(o+x*y)) / B<B ^ l.length:=by
   have:B*(au B l+x*au B b+(c+(o+x*y)) / B)<B*B ^ l.length:=by rw[Nat.mul_add,Nat.mul_add];omega
   exact Nat.lt_of_mul_lt_mul_left this
  obtain⟨V,U⟩:=Dj H x l b _ ho.2 X (by simpa using hl);rw[SG,au,V,cL,U,au,au,e,Nat.mul_add,Nat.mul_add];refine⟨by omega,?_⟩;simp[Nat.mod_lt (c+(o+x*y)) (show 0<B by omega)]
def th(B:Nat):List Nat→List Nat→List Nat→List Nat
 | [],_,o=>o
 |x::a,b,o=>match SG B x o b 0 with
  | []=>[]
  |d::r=>d::th B a b r
theorem FG{B:Nat}(y:2≤B):∀(a b o:List Nat),lok B o=true→au B o+au B a*au B b<B ^ o.length→a.length+b.length≤o.length→
  au B (th B a b o)=au B o+au B a*au B b∧lok B (th B a b o)=true∧(th B a b o).length=o.length
 | [],b,o,ho,h,_=>by simp only[th,au,Nat.zero_mul,Nat.add_zero];exact⟨trivial,ho,trivial⟩
 |x::a,b,o,ho,h,hl=>by
  have e:(x+B*au B a)*au B b=x*au B b+B*(au B a*au B b):=by rw[Nat.add_mul,Nat.mul_assoc]
  rw[au,e] at h;have V :a.length+1+b.length≤o.length:=by simpa using hl
  obtain⟨r1,r2⟩:=Dj y x o b 0 ho (by omega) (by omega);have Z:=vW B x o b 0;unfold th;split
  next X=>rw[X] at Z;simp at Z;omega
  ·rename_i d r X
   rw[X] at r1 r2 Z;rw[cL,Bool.and_eq_true,decide_eq_true_eq] at r2;simp only[List.length_cons] at Z;rw[au] at r1;have U:au B r+au B a*au B b<B ^ r.length:=by
    have:B*(au B r+au B a*au B b)<B*B ^ r.length:=by rw[Nat.mul_comm B (B ^ r.length),←Nat.pow_succ,show r.length.succ=o.length from Z,Nat.mul_add];omega
    exact Nat.lt_of_mul_lt_mul_left this
   obtain⟨S,R,Q⟩:=FG y a b r r2.2 U (by omega);rw[au,S,cL,R,List.length_cons,Q,au,e,Nat.mul_add];exact⟨by omega,by simp[r2.1],Z⟩
theorem Sx(y:2≤B){a:List Nat}(H:lok B a=true)(I:lok B b=true):
  au B (th B a b (List.replicate (a.length+b.length+1) 0))=au B a*au B b∧lok B (th B a b (List.replicate (a.length+b.length+1) 0))=true∧
   (th B a b (List.replicate (a.length+b.length+1) 0)).length=a.length+b.length+1:=by
 have X:∀n,au B (List.replicate n 0)=0:=by
  intro n;induction n with
  |zero=>rfl
  |succ n ih=>rw[List.replicate_succ,au,ih];simp
 have Z:∀n,lok B (List.replicate n 0)=true:=by intro n;unfold lok;rw[List.all_eq_true];intro d V;rw[List.mem_replicate] at V;simp[V.2];omega
 have h:au B a*au B b<B ^ (a.length+b.length+1):=by have U:=gK H;have S:=gK I;have h3:au B a*au B b<B ^ a.length*B ^ b.length:=Nat.mul_lt_mul_of_lt_of_lt U S;rw[←Nat.pow_add] at h3;have R:B ^ (a.length+b.length)≤B ^ (a.length+b.length+1):=Nat.pow_le_pow_right (by omega) (by omega);omega
 have:=FG y a b (List.replicate (a.length+b.length+1) 0) (Z _) (by rw[X,Nat.zero_add,List.length_replicate];exact h) (by rw[List.length_replicate];omega)
 rwa [X,Nat.zero_add,List.length_replicate] at this
def fZ(B d:Nat):List Nat→List Nat×Nat
 | []=>([],0)
 |x::l=>let p:=fZ B d l;((p.2*B+x) / d::p.1,(p.2*B+x)%d)
theorem CT{B d:Nat}(hd:0<d)(y:d<B):∀l:List Nat,lok B l=true→(fZ B d l).2<d∧au B (fZ B d l).1*d+(fZ B d l).2=au B l∧lok B (fZ B d l).1=true∧(fZ B d l).1.length=l.length
 | [],_=>by simp[fZ,au,lok,hd]
 |x::l,h=>by
  rw[cL,Bool.and_eq_true,decide_eq_true_eq] at h;obtain⟨X,V,U,S⟩:=CT hd y l h.2;simp only[fZ];have Z:=Nat.mod_add_div ((fZ B d l).2*B+x) d;refine⟨Nat.mod_lt _ hd,?_,?_,by simp[S]⟩
  ·rw[au,au,←V,Nat.add_mul,Nat.mul_add]
   rw[Nat.mul_comm d] at Z;rw[Nat.mul_assoc,Nat.mul_comm B (fZ B d l).2];omega
  ·rw[cL,Bool.and_eq_true,decide_eq_true_eq]
   refine⟨?_,U⟩;rw[Nat.div_lt_iff_lt_mul hd];have h3:((fZ B d l).2+1)*B≤d*B:=Nat.mul_le_mul_right _ X;rw[Nat.add_mul] at h3;rw[Nat.mul_comm B d];omega
theorem WH{p D top r b q:Nat}(hr:r<(D+1)*p)(y:top*p≤b)(hq:q*b≤r)(H:0<top):q≤D / top:=by
 rw[Nat.le_div_iff_mul_le H];have X:q*(top*p)≤q*b:=Nat.mul_le_mul_left _ y;have Z:(q*top)*p<(D+1)*p:=by rw[Nat.mul_assoc];omega
 have:=Nat.lt_of_mul_lt_mul_right Z;omega
end Go.Eng
namespace Go.Proofs
open Go.Eng
open Tryz
variable{A:List Nat}
theorem sQ{n:Nat}(h:A[n]? =some 0):aU (A.take (n+1))=aU (A.take n):=by rw[List.take_add_one,h];exact jD _
theorem sP{n d:Nat}(h:A[n]? =some d)(hd:d≠0):aU (A.take (n+1))=A.take (n+1):=by rw[List.take_add_one,h];exact FE hd _
variable{K:Nat}{O:afF}{lv:Code→List Nat}
theorem EI(A:List Nat)(J:A.length≤1000000000)(I:A.length<K){b:Code}(H:ah f206=[b])(y:lv b=[0]):
  ∃F:Env→Bool→Env,∀Z d,ad Z 0=.slice 0 0 A.length none→
   aW (bh prog) lv O K 21 1 true (.loop b) ⟨Z,[.cells false 1 (iN .u64 A)],d⟩=some (.exit 0,⟨F Z d,[.cells false 1 (iN .u64 A)],d⟩)∧ad (F Z d) 0=.slice 0 0 (aU A).length none:=by
 refine bj y (fun Z=>ad Z 0=.slice 0 0 A.length none) (fun _ M =>ad M 0=.slice 0 0 (aU A).length none) ?_;clear y;intro Z d L;simp[ah,aE,f206] at H;have S:aA [0] (ae b) Z ((0,.slice 0 0 A.length none)::Z)=aA [0] (ae b) Z Z:=by simp[aA,L]
 rw[←S];refine bz (α:=Nat) (fun n=>⟨aA [0] (ae b) Z ((0,.slice 0 0 n none)::Z),[.cells false 1 (iN .u64 A)],d⟩) id (fun n=>n≤A.length∧aU (A.take n)=aU A) (.exit 0) _ d _ (by simp) ?_ K A.length ⟨Nat.le_refl _,by rw[List.take_length]⟩ I;rintro n ⟨hn1,hn2⟩;clear S;subst H;cases n with
 |zero=>
  right;rw[←hn2];simp[aU]
 |succ n=>
  have G:n<A.length:=by omega
  obtain⟨x,V⟩:∃x,A[n]? =some x:=⟨A[n],by simp[G]⟩
  have R:IntKind.i64.wrap (n:Int)=(n:Int):=af;have Q:(n:Int)<(n:Int)+1:=by omega
  have N:0<(n:Int)+1:=by omega
  by_cases X:x=0
  ·subst X
   left;refine⟨n,?_⟩;have h3:(n:Int)≤(n:Int)+1:=by omega
   have U:n+1≤A.length:=by omega
   simp[R,Q,N,h3,U,V];exact⟨by omega,by rw[←sQ V];exact hn2⟩
  ·right
   rw[←hn2,sP V X];have U:min (n+1) A.length=n+1:=by omega
   simp[R,Q,N,U,V,X]
theorem Rs(A:List Nat)(y:A.length≤1000000000):kO prog 206 [.slice 0 0 A.length none] [.cells false 1 (iN .u64 A)] (.slice 0 0 (aU A).length none) [.cells false 1 (iN .u64 A)]:=by
 have X:aS prog 206=some f206:=by kernel_rfl
 obtain⟨b,Z⟩:∃b,ah f206=[b]:=⟨_,rfl⟩
 obtain⟨F,V⟩:=EI (O:=cF) (K:=A.length+1) (lv:=fun _=>[0]) A y (by omega) Z rfl;simp[ah,aE,f206] at Z;subst Z;refine cE (lv:=(fun _=>[0])) (K:=(A.length+1)) (aw _) ?_;simp[aa,X,f206,V]
variable{X Y:List Nat}
theorem T0{B n a b:Nat}(H:lok B X=true)(I:lok B Y=true)(G':X.length=Y.length)(hd:X.drop (n+1)=Y.drop (n+1))(y:X[n]? =some a)(J:Y[n]? =some b)(W:a≠b):
  kq (au B X) (au B Y)=if a<b then -1 else 1:=by
 have G:n<X.length:=gL y;have U:X=X.take n++([a]++X.drop (n+1)):=by
  conv=>lhs;rw[←List.take_append_drop (n+1) X,List.take_add_one,y]
  simp
 have S:Y=Y.take n++([b]++Y.drop (n+1)):=by
  conv=>lhs;rw[←List.take_append_drop (n+1) Y,List.take_add_one,J]
  simp
 have R:=gK (jC H n);have Q:=gK (jC I n);have Z:(X.take n).length=n:=by simp;omega
 have V:(Y.take n).length=n:=by simp;omega
 rw[Z] at R;rw[V] at Q;have N:au B X=au B (X.take n)+B ^ n*(a+B*au B (X.drop (n+1))):=by
  conv=>lhs;rw[U,ib,ib,Z]
  simp[au]
 have M:au B Y=au B (Y.take n)+B ^ n*(b+B*au B (X.drop (n+1))):=by
  conv=>lhs;rw[S,ib,ib,V,←hd]
  simp[au]
 rw[N,M];generalize B*au B (X.drop (n+1))=D;generalize B ^ n=p at*;split
 ·rename_i L
  have:p*(a+D+1)≤p*(b+D):=Nat.mul_le_mul_left _ (by omega);rw[Nat.mul_add,Nat.mul_one] at this;unfold kq;rw[if_pos (by omega)]
 ·rename_i L
  have:p*(b+D+1)≤p*(a+D):=Nat.mul_le_mul_left _ (by omega);rw[Nat.mul_add,Nat.mul_one] at this;unfold kq;rw[if_neg (by omega),if_pos (by omega)]
theorem L3{n a:Nat}(h:X.drop (n+1)=Y.drop (n+1))(y:X[n]? =some a)(H:Y[n]? =some a):X.drop n=Y.drop n:=by have Z:n<X.length:=gL y;have V:n<Y.length:=gL H;rw[List.drop_eq_getElem_cons Z,List.drop_eq_getElem_cons V,h];have:=(List.getElem?_eq_some_iff.1 y).2;have:=(List.getElem?_eq_some_iff.1 H).2;simp_all
theorem Ca(A B:List Nat)(W:lok 1000000000 A=true)(hB:lok 1000000000 B=true)(hl:A.length≤1000000000)(I:A.length=B.length)(hK:A.length<K){b:Code}(J:ah f202=[b])(H:lv b=[5]):
  ∃F:Env→Bool→Env,∀Z d,(ad Z 0=.slice 0 0 A.length none∧ad Z 1=.slice 1 0 A.length none∧ad Z 5=.int .i64 ((A.length:Int)-1))→
   aW (bh prog) lv O K 41 2 true (.loop b) ⟨Z,[.cells false 1 (iN .u64 A),.cells false 1 (iN .u64 B)],d⟩=some (if A=B then .exit 0 else .ret,⟨F Z d,[.cells false 1 (iN .u64 A),.cells false 1 (iN .u64 B)],d⟩)∧
    (A≠B→ad (F Z d) 4=.int .i64 (kq (au 1000000000 A) (au 1000000000 B))):=by
 refine bj H (fun Z=>ad Z 0=.slice 0 0 A.length none∧ad Z 1=.slice 1 0 A.length none∧ad Z 5=.int .i64 ((A.length:Int)-1)) (fun _ o =>A≠B→ad o 4=.int .i64 (kq (au 1000000000 A) (au 1000000000 B))) ?_;clear H;rintro Z d ⟨h0,h1,h5⟩;simp[ah,aE,f202] at J;have C:aA [5] (ae b) Z ((5,.int .i64 ((A.length:Int)-1))::Z)=aA [5] (ae b) Z Z:=by simp[aA,h5]
 rw[←C];refine bz (α:=Nat) (fun n=>⟨aA [5] (ae b) Z ((5,.int .i64 ((n:Int)-1))::Z),[.cells false 1 (iN .u64 A),.cells false 1 (iN .u64 B)],d⟩) id (fun n=>n≤A.length∧A.drop n=B.drop n) (if A=B then .exit 0 else .ret) _ d _ (by split<;>simp) ?_ K A.length ⟨Nat.le_refl _,by rw[List.drop_length,I,List.drop_length]⟩ hK;rintro n ⟨hn1,hn2⟩;clear C;subst J;cases n with
 |zero=>
  right;rw[List.drop_zero,List.drop_zero] at hn2;simp[hn2]
 |succ n=>
  have N:n<A.length:=by omega
  have U:n<B.length:=by omega
  obtain⟨x,G,D⟩:=cO N;obtain⟨y,M,S⟩:=cO U;have m:(((n+1:Nat):Int)-1)=(n:Int):=by omega
  have j:IntKind.i64.wrap ((n:Int)-1)=(n:Int)-1:=af;rw[m];by_cases R:x=y
  ·left
   subst R;refine⟨n,?_⟩;simp[h0,h1,D,S,N,U,j];exact⟨by omega,L3 hn2 G M⟩
  ·right
   have u:A≠B:=by rintro rfl;rw[G] at M;cases M;exact R rfl
   have L:=T0 W hB I hn2 G M R;have Q :¬((x:Int)=(y:Int)):=by omega
   by_cases V:x<y
   ·rw[if_pos V] at L
    simp[h0,h1,D,S,N,U,Q,V,u,L]
   ·rw[if_neg V] at L
    simp[h0,h1,D,S,N,U,Q,V,u,L]
theorem Nz(A B:List Nat)(y:lok 1000000000 A=true)(H:lok 1000000000 B=true)(I:A.length≤1000000000)(tA:aU A=A)(J:aU B=B):
  kO prog 202 [.slice 0 0 A.length none,.slice 1 0 B.length none] [.cells false 1 (iN .u64 A),.cells false 1 (iN .u64 B)] (.int .i64 (kq (au 1000000000 A) (au 1000000000 B))) [.cells false 1 (iN .u64 A),.cells false 1 (iN .u64 B)]:=by
 have R:aS prog 202=some f202:=by kernel_rfl
 obtain⟨b,Q⟩:∃b,ah f202=[b]:=⟨_,rfl⟩
 refine cE (lv:=(fun _=>[5])) (K:=(A.length+1)) (aw _) ?_;have G:dig 1000000000 (au 1000000000 A)=A:=by rw[dJ (by omega) y,tA]
 have D:dig 1000000000 (au 1000000000 B)=B:=by rw[dJ (by omega) H,J]
 by_cases N:A.length=B.length
 ·have Z:=Ca (O:=cF) (K:=A.length+1) (lv:=fun _=>[5]) A B y H I N (by omega) Q rfl
  simp[ah,aE,f202] at Q;subst Q;obtain⟨F,Z⟩:=Z;have C:IntKind.i64.wrap ((B.length:Int)-1)=(B.length:Int)-1:=af;by_cases V:A=B
  ·subst V
   have U:kq (au 1000000000 A) (au 1000000000 A)=0:=by unfold kq;simp
   rw[if_pos rfl] at Z;simp[aa,R,f202,Z,C,U]
  ·rw[if_neg V] at Z
   simp only[N] at Z;simp[aa,R,f202,Z,N,C,V]
 ·have S :¬((A.length:Int)=B.length):=by omega
  by_cases M:A.length<B.length
  ·have L:au 1000000000 A<au 1000000000 B:=dI (B:=1000000000) (by omega) (by rw[G,D];exact M)
   have U:kq (au 1000000000 A) (au 1000000000 B)= -1:=by unfold kq;rw[if_pos L]
   simp[aa,R,f202,S,M,U]
  ·have L:au 1000000000 B<au 1000000000 A:=dI (B:=1000000000) (by omega) (by rw[G,D];omega)
   have U:kq (au 1000000000 A) (au 1000000000 B)=1:=by unfold kq;rw[if_neg (by omega),if_pos L]
   simp[aa,R,f202,S,M,U]
theorem lh(l:List Nat):l.take (aU l).length=aU l:=(kM l).symm
variable{M:Mem}{x:AV}
theorem NO(y:A.length≤1000000000)(H:af0 .u64 M x A):∃b,x=.slice b 0 A.length none∧kO prog 206 [x] M (.slice b 0 (aU A).length none) M:=by obtain⟨b,e,h⟩:=kO.ahp (new:=[]) (rest:=[]) rfl rfl (Rs A y) H;refine⟨b,e,?_⟩;simpa [AV.ren,fj] using h
variable{y:AV}
theorem It{A B:List Nat}(H:lok 1000000000 A=true)(I:lok 1000000000 B=true)(J:A.length≤1000000000)(tA:aU A=A)(W:aU B=B)(hx:af0 .u64 M x A)(hy:af0 .u64 M y B):
  kO prog 202 [x,y] M (.int .i64 (kq (au 1000000000 A) (au 1000000000 B))) M:=by
 obtain⟨b,c,Z,V,h⟩:=kO.agM (new:=[]) rfl (Nz A B H I J tA W) hx hy;simpa [AV.ren] using h
noncomputable def bH:afF:=fun c Z M=>match c,Z with
 |.fn 206,[x]=>match x,aZ .u64 M x with
  |.slice b _ _ _,some A=>if A.length≤1000000000 then some ⟨.slice b 0 (aU A).length none,none,[]⟩ else none
  |_,_=>none
 |.fn 202,[x,y]=>match aZ .u64 M x,aZ .u64 M y with
  |some A,some B=>if lok 1000000000 A=true∧lok 1000000000 B=true∧A.length≤1000000000∧aU A=A∧aU B=B then some ⟨.int .i64 (kq (au 1000000000 A) (au 1000000000 B)),none,[]⟩ else none
  |_,_=>none
 |_,_=>none
theorem jh:qS prog bH:=by
 have V:∀c Z M r,bH c Z M=some r→(∃f,c=.fn f∧kO prog f Z M r.v (r.mem M))∧r.pre=none:=by
  intro c Z M r h;unfold bH at h;split at h
  ·split at h
   ·rename_i S
    split at h
    ·rename_i Q
     cases h;obtain⟨b,e,h⟩:=NO Q (ba S);cases e;exact⟨⟨_,rfl,by simpa [y9.mem] using h⟩,rfl⟩
    ·cases h
   ·cases h
  ·split at h
   ·rename_i S N
    split at h
    ·rename_i L
     obtain⟨G,F,D,C,B⟩:=L;cases h;exact⟨⟨_,rfl,by simpa [y9.mem] using It G F D C B (ba S) (ba N)⟩,rfl⟩
    ·cases h
   ·cases h
  ·cases h
 refine⟨fun f Z M r h=>?_,fun b Z M r h=>?_,fun c Z M r p h R=>?_⟩
 ·obtain⟨⟨u,e,U⟩,_⟩:=V _ _ _ _ h
  cases e;exact U
 ·obtain⟨⟨u,e,U⟩,_⟩:=V _ _ _ _ h
  cases e
 ·obtain⟨_,U⟩:=V _ _ _ _ h
  rw[U] at R;cases R
def iz(X Y:List Nat):Nat→List Nat→Mem
 |0,_=>[.cells false 1 (iN .u64 X),.cells false 1 (iN .u64 Y),.cells true 1 []]
 |_+1,done=>[.cells false 1 (iN .u64 X),.cells false 1 (iN .u64 Y),.qK,.cells true 1 (iN .u64 done)]
def ie:Nat→AV
 |0=>.slice 2 0 0 none
 |i+1=>.slice 3 0 (i+1) none
theorem kg(X Y:List Nat)(i:Nat)(done:List Nat):iz X Y (i+1) done=[.cells false 1 (iN .u64 X),.cells false 1 (iN .u64 Y),.qK,.cells true 1 (iN .u64 done)]:=rfl
theorem lz(X Y:List Nat):(iz X Y 0 []).length=3:=rfl
theorem kh(i:Nat):ie (i+1)=.slice 3 0 (i+1) none:=rfl
theorem br{α:Type}{p q:α→Prop}{r:Prop}(hr:r)(h:∃s,p s∧q s):∃s,p s∧q s∧r:=let ⟨s,a,b⟩:=h;⟨s,a,b,hr⟩
theorem ED(X Y A B:List Nat)(I sb:Nat)(hs:(I=0∧sb=1∧X=A∧Y=B)∨(I=1∧sb=0∧X=B∧Y=A))(hA:lok 1000000000 A=true)(hB:lok 1000000000 B=true)(hl:A.length≤1000000000)(G':B.length≤A.length)(hK:A.length<K){b:Code}(J:ah f201=[b])(H:lv b=[22,5,6]):
  ∃F:Env→Bool→Env,∀Z d,(ad Z 1=.slice sb 0 B.length none∧ad Z 20=.slice I 0 A.length none∧ad Z 21=.int .i64 A.length∧ad Z 5=.slice 2 0 0 none∧ad Z 6=.int .u64 0∧ad Z 22=.int .i64 0)→
   aW (bh prog) lv O K 53 2 true (.loop b) ⟨Z,iz X Y 0 [],d⟩=some (.exit 0,⟨F Z d,iz X Y A.length ((vM 1000000000 A B 0).take A.length),d⟩)∧
    (ad (F Z d) 5=ie A.length∧ad (F Z d) 6=.int .u64 (((vM 1000000000 A B 0).getD A.length 0:Nat):Int)):=by
 refine bj H (fun Z=>ad Z 1=.slice sb 0 B.length none∧ad Z 20=.slice I 0 A.length none∧ad Z 21=.int .i64 A.length∧ad Z 5=.slice 2 0 0 none∧ad Z 6=.int .u64 0∧ad Z 22=.int .i64 0)
  (fun _ o =>ad o 5=ie A.length∧ad o 6=.int .u64 (((vM 1000000000 A B 0).getD A.length 0:Nat):Int)) ?_
 clear H;rintro Z d ⟨h1,h20,h21,h5,h6,h22⟩;simp[ah,aE,f201] at J;have m:aA [22,5,6] (ae b) Z ((22,.int .i64 ((0:Nat):Int))::(5,ie 0)::(6,.int .u64 ((0:Nat):Int))::Z)=aA [22,5,6] (ae b) Z Z:=by simp[aA,h5,h6,h22,ie]
 rw[←m];refine bz (α:=Nat×List Nat×Nat) (fun a=>⟨aA [22,5,6] (ae b) Z ((22,.int .i64 (a.1:Int))::(5,ie a.1)::(6,.int .u64 (a.2.2:Int))::Z),iz X Y a.1 a.2.1,d⟩) (fun a=>A.length-a.1)
  (fun a=>a.1≤A.length∧a.2.1.length=a.1∧a.2.2≤1∧a.2.1++vM 1000000000 (A.drop a.1) (B.drop a.1) a.2.2=vM 1000000000 A B 0) (.exit 0) _ d _ (by simp) ?_ K (0,[],0) ⟨Nat.zero_le _,rfl,Nat.zero_le _,rfl⟩ (by simpa using hK)
 rintro ⟨i,done,c⟩ ⟨hi,hd,hc,J'⟩;simp only at hi hd hc J';clear m;subst J;by_cases D:i=A.length
 ·right
  subst D;rw[List.drop_length,vM] at J';rw[←J',←hd];simp only[List.take_left'];simp[h21,hd]
 ·left
  have Q:i<A.length:=by omega
  obtain⟨x,hx,N⟩:=cO Q;have hxb:=eh hA hx;have j:A.drop i=x::A.drop (i+1):=by rw[List.drop_eq_getElem_cons Q,N]
  have w0:IntKind.i64.wrap 1=1:=by decide
  have w1:IntKind.i64.wrap ((i:Int)+1)=(i:Int)+1:=af;have W:(i:Int)<(A.length:Int):=by omega
  have L:(i+1)*8≤140737488355328:=by omega
  have G:i+1≤140737488355328:=by omega
  have ht:(iN .u64 done).take i=iN .u64 done:=List.take_of_length_le (by simp[hd]);have hM:0<i→iz X Y i done=[.cells false 1 (iN .u64 X),.cells false 1 (iN .u64 Y),.qK,.cells true 1 (iN .u64 done)]:=fun h=>by cases i with
   |zero=>omega
   |succ i=>rfl
  have hO:0<i→ie i=.slice 3 0 i none:=fun h=>by cases i with
   |zero=>omega
   |succ i=>rfl
  by_cases V:i<B.length
  ·obtain⟨y,hy,U⟩:=cO V
   have hyb:=eh hB hy;have C:B.drop i=y::B.drop (i+1):=by rw[List.drop_eq_getElem_cons V,U]
   rw[j,C,vM,List.headD_cons,List.tail_cons] at J';obtain⟨s,S⟩:=xE (α:=Nat) (c+x+y);rw[←S] at J';have w2:IntKind.u64.wrap ((c:Int)+(x:Int))=(c:Int)+(x:Int):=cG (by omega) (by omega);have w3:IntKind.u64.wrap ((c:Int)+(x:Int)+(y:Int))=(s:Int):=by rw[cG (by omega) (by omega)];omega
   have w4:(s:Int).tmod 1000000000=(s:Int)%1000000000:=Bx s 1000000000;have w5:IntKind.u64.wrap ((s:Int) / 1000000000)=(s:Int) / 1000000000:=cG (by omega) (by omega);refine⟨(i+1,done++[s%1000000000],s / 1000000000),?_⟩;refine br (r:=_∧_) (show(i+1≤A.length∧(done++[s%1000000000]).length=i+1∧s / 1000000000≤1∧(done++[s%1000000000])++vM 1000000000 (A.drop (i+1)) (B.drop (i+1)) (s / 1000000000)=vM 1000000000 A B 0)∧A.length-(i+1)<A.length-i by refine⟨⟨by omega,by simp[hd],by omega,?_⟩,by omega⟩;rw[←J'];simp) ?_
   clear J';rcases hs with⟨rfl,rfl,rfl,rfl⟩ | ⟨rfl,rfl,rfl,rfl⟩<;>rcases Nat.eq_zero_or_pos i with rfl | hpos;all_goals first
    |(have R:=List.eq_nil_of_length_eq_zero hd;subst R;simp[iz,ie,h1,h20,h21,N,U,Q,V,w0,w2,w3,w4,w5,ca];done)
    |simp[hM hpos,hO hpos,kg,kh,lz,h1,h20,h21,N,U,W,L,G,Q,V,hd,w1,w2,w3,w4,w5,ht,dn,ca]
  ·have C:B.drop i=[]:=List.drop_eq_nil_of_le (by omega)
   have u:B.drop (i+1)=[]:=List.drop_eq_nil_of_le (by omega);rw[j,C,vM] at J';simp only[List.headD_nil,List.tail_nil,Nat.add_zero] at J';obtain⟨s,S⟩:=xE (α:=Nat) (c+x);rw[←S] at J';have w3:IntKind.u64.wrap ((c:Int)+(x:Int))=(s:Int):=by rw[cG (by omega) (by omega)];omega
   have w4:(s:Int).tmod 1000000000=(s:Int)%1000000000:=Bx s 1000000000;have w5:IntKind.u64.wrap ((s:Int) / 1000000000)=(s:Int) / 1000000000:=cG (by omega) (by omega);refine⟨(i+1,done++[s%1000000000],s / 1000000000),?_⟩;refine br (r:=_∧_) (show(i+1≤A.length∧(done++[s%1000000000]).length=i+1∧s / 1000000000≤1∧(done++[s%1000000000])++vM 1000000000 (A.drop (i+1)) (B.drop (i+1)) (s / 1000000000)=vM 1000000000 A B 0)∧A.length-(i+1)<A.length-i by refine⟨⟨by omega,by simp[hd],by omega,?_⟩,by omega⟩;rw[←J',u];simp) ?_
   clear J';rcases hs with⟨rfl,rfl,rfl,rfl⟩ | ⟨rfl,rfl,rfl,rfl⟩<;>rcases Nat.eq_zero_or_pos i with rfl | hpos;all_goals first
    |(have R:=List.eq_nil_of_length_eq_zero hd;subst R;simp[iz,ie,h1,h20,h21,N,Q,V,w0,w3,w4,w5,ca];done)
    |simp[hM hpos,hO hpos,kg,kh,lz,h1,h20,h21,N,W,L,G,Q,V,hd,w1,w3,w4,w5,ht,dn,ca]
theorem CE(B:Nat):∀(a b:List Nat) (c:Nat),(vM B a b c).length=a.length+1
 | [],_,_=>rfl
 |x::a,b,c=>by rw[vM,List.length_cons,CE B a];rfl
theorem PZ{B:Nat}(H:2≤B){a b:List Nat}(I:lok B a=true)(J:lok B b=true)(W:b.length≤a.length):aU (vM B a b 0)=dig B (au B a+au B b):=by rw[←dJ H (Qh H a b 0 I J (by omega)),Mn B a b 0 W,Nat.add_zero]
theorem E7{l:List Nat}{n:Nat}(h:l.length=n+1):l.take n++[l.getD n 0]=l:=by
 have Z:n<l.length:=by omega
 have:l.getD n 0=l[n]:=by simp[List.getD,Z]
 rw[this];have V:l.take (n+1)=l:=List.take_of_length_le (by omega);rw[List.take_add_one,List.getElem?_eq_getElem Z] at V;exact V
theorem w9(X Y A B:List Nat)(H sb:Nat)(hs:(H=0∧sb=1∧X=A∧Y=B∧¬A.length<B.length)∨(H=1∧sb=0∧X=B∧Y=A∧B.length<A.length))(hA:lok 1000000000 A=true)(hB:lok 1000000000 B=true)(hl:A.length≤100000000)(I:B.length≤A.length):
  aa (bh prog) (fun _=>[22,5,6]) (aS prog) bH (A.length+1) 201 [.slice 0 0 X.length none,.slice 1 0 Y.length none] [.cells false 1 (iN .u64 X),.cells false 1 (iN .u64 Y)]=
   some ⟨.slice 2 0 (aU (vM 1000000000 A B 0)).length none,none,[.cells true 1 (iN .u64 (vM 1000000000 A B 0))]⟩:=by
 have o:aS prog 201=some f201:=by kernel_rfl
 obtain⟨b,m⟩:∃b,ah f201=[b]:=⟨_,rfl⟩
 have L:=CE 1000000000 A B 0;have R:=E7 L;obtain⟨F,S⟩:=ED (O:=bH) (K:=A.length+1) (lv:=fun _=>[22,5,6]) X Y A B H sb (by rcases hs with⟨a,b,c,d,_⟩ | ⟨a,b,c,d,_⟩;exact .inl ⟨a,b,c,d⟩;exact .inr ⟨a,b,c,d⟩) hA hB (by omega) I (by omega) m rfl;simp[ah,aE,f201] at m;subst m;obtain⟨Z,j⟩:=xE (α:=Int) ((A.length:Int)+1);have w1:IntKind.i64.wrap ((A.length:Int)+1)=Z:=by rw[j];exact af
 have h0:0≤Z:=by omega
 have h1:8*Z≤281474976710656:=by omega
 have h2:Z≤281474976710656:=by omega
 obtain⟨V,G⟩:=xE (vM 1000000000 A B 0);rcases Nat.eq_zero_or_pos A.length with hz | hpos
 ·have W:=List.eq_nil_of_length_eq_zero hz
  have J:B=[]:=List.eq_nil_of_length_eq_zero (by omega);subst W;subst J;simp only[List.length_nil,iz,ie,vM,Nat.zero_add,Int.cast_ofNat_Int,List.take_zero,List.getD_cons_zero] at S;have u:aZ .u64 [.cells false 1 [],.cells false 1 [],.qK,.cells true 1 [.int .u64 0],.cells true 1 [.int .u64 0]] (.slice 4 0 1 none)=some [0]:=by rfl
  rcases hs with⟨rfl,rfl,rfl,rfl,N⟩ | ⟨rfl,rfl,rfl,rfl,N⟩
  ·have w0:IntKind.i64.wrap 1=1:=by decide
   simp only[P7] at S;simp[aa,o,f201,S,bH,u,vM,aU,ca,w0]
  ·simp at N
 ·have hM:∀done,iz X Y A.length done=[.cells false 1 (iN .u64 X),.cells false 1 (iN .u64 Y),.qK,.cells true 1 (iN .u64 done)]:=fun done=>by
   cases h:A.length with
   |zero=>omega
   |succ i=>rfl
  have hO:ie A.length=.slice 3 0 A.length none:=by
   cases h:A.length with
   |zero=>omega
   |succ i=>rfl
  rw[hM,hO] at S;simp only[iz] at S;obtain⟨U,D⟩:=xE ((vM 1000000000 A B 0).take A.length);obtain⟨C,aeq⟩:=xE ((vM 1000000000 A B 0).getD A.length 0);rw[←D,←aeq] at S R;rw[←G] at R L ⊢;have Q:U.length=A.length:=by rw[D,List.length_take,←G,L];omega
  have h3:(A.length+1)*8≤140737488355328:=by omega
  have h4:A.length≤140737488355327:=by omega
  have h5:(iN .u64 U).take A.length=iN .u64 U:=List.take_of_length_le (by simp[Q]);have u:aZ .u64 [.cells false 1 (iN .u64 X),.cells false 1 (iN .u64 Y),.qK,.qK,.cells true 1 [.int .u64 (C:Int)],.cells true 1 (iN .u64 V)] (.slice 5 0 (A.length+1) none)=some V:=
   aP rfl (by simp[L]) (List.take_of_length_le (by simp[L]))
  have h7:V.length≤1000000000:=by omega
  have h8:iN .u64 U++[.int .u64 (C:Int)]=iN .u64 V:=by rw[XW,R]
  rcases hs with⟨rfl,rfl,rfl,rfl,N⟩ | ⟨rfl,rfl,rfl,rfl,N⟩
  ·simp[aa,o,f201,N,w1,h0,h1,h2,S,bH,Q,h3,h4,h5,u,h7,h8]
  ·simp[aa,o,f201,N,w1,h0,h1,h2,S,bH,Q,h3,h4,h5,u,h7,h8]
theorem C8{k:IntKind}{l r:List Nat}(h:l <+: r):iN k l <+: iN k r:=by obtain⟨t,rfl⟩:=h;exact⟨iN k t,by rw[←dn]⟩
theorem dp(l:List Nat):aU l <+: l:=by rw[kM l];exact List.take_prefix _ _
theorem NB{A B:List Nat}(H:lok 1000000000 A=true)(I:lok 1000000000 B=true)(W:A.length≤100000000)(J:B.length≤100000000)(hx:af0 .u64 M x A)(hy:af0 .u64 M y B):
  kO prog 201 [x,y] M (.slice M.length 0 (dig 1000000000 (au 1000000000 A+au 1000000000 B)).length none) (M++[.cells true 1 (iN .u64 (dig 1000000000 (au 1000000000 A+au 1000000000 B)))]):=by
 have V:∃Z,aU Z=dig 1000000000 (au 1000000000 A+au 1000000000 B)∧kO prog 201 [.slice 0 0 A.length none,.slice 1 0 B.length none] [.cells false 1 (iN .u64 A),.cells false 1 (iN .u64 B)] (.slice 2 0 (aU Z).length none) [.cells false 1 (iN .u64 A),.cells false 1 (iN .u64 B),.cells true 1 (iN .u64 Z)]:=by
  by_cases U:A.length<B.length
  ·refine⟨vM 1000000000 B A 0,by rw[PZ (by omega) I H (by omega),Nat.add_comm],?_⟩
   have:=(ar aj (aK _) jh (aR _) (w9 A B B A 1 0 (.inr ⟨rfl,rfl,rfl,rfl,U⟩) I H J (by omega))).1;simpa [y9.mem] using this
  ·refine⟨vM 1000000000 A B 0,PZ (by omega) H I (by omega),?_⟩
   have:=(ar aj (aK _) jh (aR _) (w9 A B A B 0 1 (.inl ⟨rfl,rfl,rfl,rfl,U⟩) H I W (by omega))).1;simpa [y9.mem] using this
 obtain⟨Z,S,h⟩:=V;have R:=kO.ahE (m:=[.cells false 1 (iN .u64 A),.cells false 1 (iN .u64 B)]) h (C8 (dp Z));obtain⟨b,c,rfl,rfl,h3⟩:=kO.agM (new:=[.cells true 1 (iN .u64 (aU Z))]) rfl R hx hy;rw[S] at h3;simpa [AV.ren,fj] using h3
theorem DS(B:Nat):∀(a b:List Nat) (c:Nat),(wA B a b c).length=a.length
 | [],_,_=>rfl
 |x::a,b,c=>by unfold wA;split<;>simp[DS B a]
theorem Xa(B x:Nat)(a:List Nat)(c:Nat):wA B (x::a) [] c=if x<c then (x+B-c)::wA B a [] 1 else (x-c)::wA B a [] 0:=rfl
theorem B5(A B:List Nat)(hA:lok 1000000000 A=true)(hB:lok 1000000000 B=true)(hl:A.length≤1000000000)(G':B.length≤A.length)(hK:A.length<K){b:Code}(hb:ah f203=[b])(H:lv b=[15,5,6]):
  ∃F:Env→Bool→Env,∀V d,(ad V 1=.slice 1 0 B.length none∧ad V 13=.slice 0 0 A.length none∧ad V 14=.int .i64 A.length∧ad V 5=.slice 2 0 0 none∧ad V 6=.int .u64 0∧ad V 15=.int .i64 0)→
   aW (bh prog) lv O K 45 2 true (.loop b) ⟨V,iz A B 0 [],d⟩=some (.exit 0,⟨F V d,iz A B A.length (wA 1000000000 A B 0),d⟩)∧ad (F V d) 5=ie A.length:=by
 refine bj H (fun V=>ad V 1=.slice 1 0 B.length none∧ad V 13=.slice 0 0 A.length none∧ad V 14=.int .i64 A.length∧ad V 5=.slice 2 0 0 none∧ad V 6=.int .u64 0∧ad V 15=.int .i64 0)
  (fun _ AC =>ad AC 5=ie A.length) ?_
 clear H;rintro V d ⟨h1,h20,h21,h5,h6,h22⟩;simp[ah,aE,f203] at hb;have hn:aA [15,5,6] (ae b) V ((15,.int .i64 ((0:Nat):Int))::(5,ie 0)::(6,.int .u64 ((0:Nat):Int))::V)=aA [15,5,6] (ae b) V V:=by simp[aA,h5,h6,h22,ie]
 rw[←hn];refine bz (α:=Nat×List Nat×Nat) (fun a=>⟨aA [15,5,6] (ae b) V ((15,.int .i64 (a.1:Int))::(5,ie a.1)::(6,.int .u64 (a.2.2:Int))::V),iz A B a.1 a.2.1,d⟩) (fun a=>A.length-a.1)
  (fun a=>a.1≤A.length∧a.2.1.length=a.1∧a.2.2≤1∧a.2.1++wA 1000000000 (A.drop a.1) (B.drop a.1) a.2.2=wA 1000000000 A B 0) (.exit 0) _ d _ (by simp) ?_ K (0,[],0) ⟨Nat.zero_le _,rfl,Nat.zero_le _,rfl⟩ (by simpa using hK)
 rintro ⟨i,done,c⟩ ⟨hi,hd,hc,J'⟩;simp only at hi hd hc J';clear hn;subst hb;by_cases W:i=A.length
 ·right
  subst W;rw[List.drop_length,wA,List.append_nil] at J';rw[←J'];simp[h21]
 ·left
  have R:i<A.length:=by omega
  obtain⟨x,hx,Q⟩:=cO R;have hxb:=eh hA hx;have eA:A.drop i=x::A.drop (i+1):=by rw[List.drop_eq_getElem_cons R,Q]
  have w0:IntKind.i64.wrap 1=1:=by decide
  have w1:IntKind.i64.wrap ((i:Int)+1)=(i:Int)+1:=af;have u:(i:Int)<(A.length:Int):=by omega
  have N:(i+1)*8≤140737488355328:=by omega
  have L:i+1≤140737488355328:=by omega
  have o:(iN .u64 done).take i=iN .u64 done:=List.take_of_length_le (by simp[hd]);have m:0<i→iz A B i done=[.cells false 1 (iN .u64 A),.cells false 1 (iN .u64 B),.qK,.cells true 1 (iN .u64 done)]:=fun h=>by cases i with
   |zero=>omega
   |succ i=>rfl
  have j:0<i→ie i=.slice 3 0 i none:=fun h=>by cases i with
   |zero=>omega
   |succ i=>rfl
  have G:i=0→done=[]:=fun h=>List.eq_nil_of_length_eq_zero (by omega)
  by_cases U:i<B.length
  ·obtain⟨y,hy,S⟩:=cO U
   have hyb:=eh hB hy;have J:B.drop i=y::B.drop (i+1):=by rw[List.drop_eq_getElem_cons U,S]
   rw[eA,J,wA,List.headD_cons,List.tail_cons] at J';obtain⟨s,I⟩:=xE (α:=Nat) (c+y);rw[←I] at J';have w2:IntKind.u64.wrap ((c:Int)+(y:Int))=(s:Int):=by rw[cG (by omega) (by omega)];omega
   by_cases Z:x<s
   ·rw[if_pos Z] at J'
    obtain⟨r,D⟩:=xE (α:=Nat) (x+1000000000-s);rw[←D] at J';have w3:IntKind.u64.wrap ((x:Int)+1000000000)=(x:Int)+1000000000:=cG (by omega) (by omega);have w4:IntKind.u64.wrap ((x:Int)+1000000000-(s:Int))=(r:Int):=by rw[cG (by omega) (by omega)];omega
    refine⟨(i+1,done++[r],1),?_⟩;refine br (r:=_∧_) (show(i+1≤A.length∧(done++[r]).length=i+1∧1≤1∧(done++[r])++wA 1000000000 (A.drop (i+1)) (B.drop (i+1)) 1=wA 1000000000 A B 0)∧A.length-(i+1)<A.length-i by refine⟨⟨by omega,by simp[hd],by omega,?_⟩,by omega⟩;rw[←J'];simp) ?_
    clear J';rcases Nat.eq_zero_or_pos i with rfl | hpos
    ·obtain rfl:=G rfl
     simp[iz,ie,h1,h20,h21,Q,S,R,U,w0,w2,w3,w4,Z,ca]
    ·simp[m hpos,j hpos,kg,kh,lz,h1,h20,h21,Q,S,u,N,L,R,U,hd,w1,w2,w3,w4,Z,o,dn,ca]
   ·rw[if_neg Z] at J'
    obtain⟨r,D⟩:=xE (α:=Nat) (x-s);rw[←D] at J';have w4:IntKind.u64.wrap ((x:Int)-(s:Int))=(r:Int):=by rw[cG (by omega) (by omega)];omega
    refine⟨(i+1,done++[r],0),?_⟩;refine br (r:=_∧_) (show(i+1≤A.length∧(done++[r]).length=i+1∧0≤1∧(done++[r])++wA 1000000000 (A.drop (i+1)) (B.drop (i+1)) 0=wA 1000000000 A B 0)∧A.length-(i+1)<A.length-i by refine⟨⟨by omega,by simp[hd],by omega,?_⟩,by omega⟩;rw[←J'];simp) ?_
    clear J';rcases Nat.eq_zero_or_pos i with rfl | hpos
    ·obtain rfl:=G rfl
     simp[iz,ie,h1,h20,h21,Q,S,R,U,w0,w2,w4,Z,ca]
    ·simp[m hpos,j hpos,kg,kh,lz,h1,h20,h21,Q,S,u,N,L,R,U,hd,w1,w2,w4,Z,o,dn,ca]
  ·have J:B.drop i=[]:=List.drop_eq_nil_of_le (by omega)
   have C:B.drop (i+1)=[]:=List.drop_eq_nil_of_le (by omega);rw[eA,J,Xa] at J';by_cases Z:x<c
   ·rw[if_pos Z] at J'
    obtain⟨r,D⟩:=xE (α:=Nat) (x+1000000000-c);rw[←D] at J';have w3:IntKind.u64.wrap ((x:Int)+1000000000)=(x:Int)+1000000000:=cG (by omega) (by omega);have w4:IntKind.u64.wrap ((x:Int)+1000000000-(c:Int))=(r:Int):=by rw[cG (by omega) (by omega)];omega
    refine⟨(i+1,done++[r],1),?_⟩;refine br (r:=_∧_) (show(i+1≤A.length∧(done++[r]).length=i+1∧1≤1∧(done++[r])++wA 1000000000 (A.drop (i+1)) (B.drop (i+1)) 1=wA 1000000000 A B 0)∧A.length-(i+1)<A.length-i by refine⟨⟨by omega,by simp[hd],by omega,?_⟩,by omega⟩;rw[←J',C];simp) ?_
    clear J';rcases Nat.eq_zero_or_pos i with rfl | hpos
    ·obtain rfl:=G rfl
     simp[iz,ie,h1,h20,h21,Q,R,U,w0,w3,w4,Z,ca]
    ·simp[m hpos,j hpos,kg,kh,lz,h1,h20,h21,Q,u,N,L,R,U,hd,w1,w3,w4,Z,o,dn,ca]
   ·rw[if_neg Z] at J'
    obtain⟨r,D⟩:=xE (α:=Nat) (x-c);rw[←D] at J';have w4:IntKind.u64.wrap ((x:Int)-(c:Int))=(r:Int):=by rw[cG (by omega) (by omega)];omega
    refine⟨(i+1,done++[r],0),?_⟩;refine br (r:=_∧_) (show(i+1≤A.length∧(done++[r]).length=i+1∧0≤1∧(done++[r])++wA 1000000000 (A.drop (i+1)) (B.drop (i+1)) 0=wA 1000000000 A B 0)∧A.length-(i+1)<A.length-i by refine⟨⟨by omega,by simp[hd],by omega,?_⟩,by omega⟩;rw[←J',C];simp) ?_
    clear J';rcases Nat.eq_zero_or_pos i with rfl | hpos
    ·obtain rfl:=G rfl
     simp[iz,ie,h1,h20,h21,Q,R,U,w0,w4,Z,ca]
    ·simp[m hpos,j hpos,kg,kh,lz,h1,h20,h21,Q,u,N,L,R,U,hd,w1,w4,Z,o,dn,ca]
theorem Ey(A B:List Nat)(I:lok 1000000000 A=true)(J:lok 1000000000 B=true)(hl:A.length≤100000000)(H:B.length≤A.length):
  aa (bh prog) (fun _=>[15,5,6]) (aS prog) bH (A.length+1) 203 [.slice 0 0 A.length none,.slice 1 0 B.length none] [.cells false 1 (iN .u64 A),.cells false 1 (iN .u64 B)]=
   some ⟨.slice 2 0 (aU (wA 1000000000 A B 0)).length none,none,[.cells true 1 (iN .u64 (wA 1000000000 A B 0))]⟩:=by
 have D:aS prog 203=some f203:=by kernel_rfl
 obtain⟨b,S⟩:∃b,ah f203=[b]:=⟨_,rfl⟩
 have U:=DS 1000000000 A B 0;obtain⟨F,V⟩:=B5 (O:=bH) (K:=A.length+1) (lv:=fun _=>[15,5,6]) A B I J (by omega) H (by omega) S rfl;simp[ah,aE,f203] at S;subst S;obtain⟨C,u⟩:=xE (α:=Int) (A.length:Int);have h0:0≤(A.length:Int):=by omega
 have o:8*(A.length:Int)≤281474976710656:=by omega
 have m:(A.length:Int)≤281474976710656:=by omega
 obtain⟨Z,R⟩:=xE (wA 1000000000 A B 0);rw[←R] at U V ⊢;rcases Nat.eq_zero_or_pos A.length with hz | hpos
 ·have Q:=List.eq_nil_of_length_eq_zero hz
  have N:B=[]:=List.eq_nil_of_length_eq_zero (by omega);subst Q;subst N;have L:Z=[]:=List.eq_nil_of_length_eq_zero (by simpa using U);subst L;simp only[List.length_nil,iz,ie,Nat.zero_add,Int.cast_ofNat_Int,P7] at V;have G:aZ .u64 [.cells false 1 [],.cells false 1 [],.cells true 1 []] (.slice 2 0 0 none)=some []:=by rfl
  simp[aa,D,f203,V,bH,G,aU]
 ·have j:∀done,iz A B A.length done=[.cells false 1 (iN .u64 A),.cells false 1 (iN .u64 B),.qK,.cells true 1 (iN .u64 done)]:=fun done=>by
   cases h:A.length with
   |zero=>omega
   |succ i=>rfl
  have W:ie A.length=.slice 3 0 A.length none:=by
   cases h:A.length with
   |zero=>omega
   |succ i=>rfl
  rw[j,W] at V;simp only[iz] at V;have G:aZ .u64 [.cells false 1 (iN .u64 A),.cells false 1 (iN .u64 B),.qK,.cells true 1 (iN .u64 Z)] (.slice 3 0 A.length none)=some Z:=
   aP rfl (by simp[U]) (List.take_of_length_le (by simp[U]))
  have h7:Z.length≤1000000000:=by omega
  simp[aa,D,f203,o,m,V,bH,G,h7]
theorem Ir{A B:List Nat}(I:lok 1000000000 A=true)(J:lok 1000000000 B=true)(W:A.length≤100000000)(H:B.length≤A.length)(hle:au 1000000000 B≤au 1000000000 A)(hx:af0 .u64 M x A)(hy:af0 .u64 M y B):
  kO prog 203 [x,y] M (.slice M.length 0 (dig 1000000000 (au 1000000000 A-au 1000000000 B)).length none) (M++[.cells true 1 (iN .u64 (dig 1000000000 (au 1000000000 A-au 1000000000 B)))]):=by
 obtain⟨S,Z⟩:=Dk (B:=1000000000) (by omega) A B 0 I J (by omega) H (by omega);have V:aU (wA 1000000000 A B 0)=dig 1000000000 (au 1000000000 A-au 1000000000 B):=by rw[←dJ (by omega) Z];congr 1;omega
 have:=(ar aj (aK _) jh (aR _) (Ey A B I J W H)).1;simp only[y9.mem,Option.getD_none,List.cons_append,List.nil_append] at this;have U:=kO.ahE (m:=[.cells false 1 (iN .u64 A),.cells false 1 (iN .u64 B)]) this (C8 (dp _));obtain⟨b,c,rfl,rfl,h3⟩:=kO.agM (new:=[.cells true 1 (iN .u64 (aU (wA 1000000000 A B 0)))]) rfl U hx hy;rw[V] at h3;simpa [AV.ren,fj] using h3
end Go.Proofs
