/- See B54. -/
import Derived.Test.YtffdedmakncfmaaGreatDoorB08
set_option linter.all false
namespace Go.Eng
def au(B:Nat):List Nat→Nat
 | []=>0
 |d::l=>d+B*au B l
def lok(B:Nat)(l:List Nat):Bool:=l.all fun d=>decide (d<B)
def aU:List Nat→List Nat
 | []=>[]
 |d::l=>match aU l with
  | []=>if d=0 then [] else [d]
  |x::r=>d::x::r
def TV(B:Nat):Nat→Nat→List Nat
 |0,_=>[]
 |f+1,n=>if n=0 then [] else n%B::TV B f (n / B)
def dig(B n:Nat):List Nat:=TV B (n.log2+1) n
theorem Ss{B:Nat}(y:2≤B):∀(f g n:Nat),n<2 ^ f→n<2 ^ g→TV B f n=TV B g n
 |0,g,n,h,_=>by
  have:n=0:=by simp at h;omega
  subst this;cases g<;>simp[TV]
 |f+1,0,n,_,h=>by
  have:n=0:=by simp at h;omega
  subst this;simp[TV]
 |f+1,g+1,n,h1,h2=>by
  unfold TV;by_cases Z:n=0
  ·rw[if_pos Z,if_pos Z]
  ·rw[if_neg Z,if_neg Z]
   have h:n / B≤n / 2:=Nat.div_le_div_left y (by omega);rw[Nat.pow_succ] at h1 h2;rw[Ss y f g (n / B) (by omega) (by omega)]
theorem dD(B:Nat):dig B 0=[]:=by simp[dig,TV]
variable{B n:Nat}
section
variable (hB:2≤B)
include hB
theorem xU(y:n≠0):dig B n=n%B::dig B (n / B):=by
 have Z:n<2 ^ (n.log2+1):=Nat.lt_log2_self;have X:n / B<2 ^ ((n / B).log2+1):=Nat.lt_log2_self;have h:n / B≤n / 2:=Nat.div_le_div_left hB (by omega);show TV B (n.log2+1) n=_
 rw[TV,if_neg y];congr 1;exact Ss hB _ _ _ (by rw[Nat.pow_succ] at Z;omega) X
theorem NP{p:Nat→Prop}(h0:p 0)(h1:∀n,n≠0→p (n / B)→p n)(n:Nat):p n:=by
 induction n using Nat.strongRecOn with
 |_ n ih=>
  by_cases Z:n=0
  ·subst Z;exact h0
  ·exact h1 n Z (ih (n / B) (Nat.div_lt_self (by omega) hB))
theorem bC(n:Nat):au B (dig B n)=n:=by
 induction n using NP hB with
 |h0=>rw[dD];rfl
 |h1 n hn ih=>
  rw[xU hB hn,au,ih];have:=Nat.mod_add_div n B;omega
theorem bO(n:Nat):lok B (dig B n)=true:=by
 induction n using NP hB with
 |h0=>rw[dD];rfl
 |h1 n hn ih=>
  rw[xU hB hn];unfold lok at ih ⊢;rw[List.all_cons,ih];simp[Nat.mod_lt n (show 0<B by omega)]
end
theorem gC(B:Nat):∀(l r:List Nat),au B (l++r)=au B l+B ^ l.length*au B r
 | [],r=>by simp[au]
 |d::l,r=>by rw[List.cons_append,au,au,gC B l r,List.length_cons,Nat.pow_succ,Nat.mul_add,Nat.mul_comm (B ^ l.length) B,Nat.mul_assoc];omega
theorem gd{B:Nat}:∀{l:List Nat},lok B l=true→au B l<B ^ l.length
 | [],_=>by simp[au]
 |d::l,h=>by unfold lok at h;simp only[List.all_cons,Bool.and_eq_true,decide_eq_true_eq] at h;have:=gd (l:=l) h.2;rw[au,List.length_cons,Nat.pow_succ];have Z:B*(au B l+1)≤B*B ^ l.length:=Nat.mul_le_mul_left _ this;rw[Nat.mul_add] at Z;rw[Nat.mul_comm (B ^ l.length) B];omega
theorem EO(B:Nat):∀l:List Nat,au B (aU l)=au B l
 | []=>rfl
 |d::l=>by
  have Z:=EO B l;unfold aU;split
  ·rename_i h
   rw[h] at Z;rw[au,←Z];split
   next X=>subst X;simp[au]
   ·simp[au]
  ·rename_i x r h
   rw[h] at Z;show d+B*au B (x::r)=d+B*au B l
   rw[Z]
theorem eH(y:2≤B):dig B n=[]↔n=0:=by
 constructor
 ·intro h
  by_cases Z:n=0
  ·exact Z
  ·rw[xU y Z] at h;cases h
 ·rintro rfl;exact dD B
theorem dC{B:Nat}(y:2≤B):∀{l:List Nat},lok B l=true→dig B (au B l)=aU l
 | [],_=>dD B
 |d::l,h=>by
  unfold lok at h;simp only[List.all_cons,Bool.and_eq_true,decide_eq_true_eq] at h;have Z:=dC y (l:=l) h.2;have R:au B (d::l)=d+B*au B l:=rfl;have X:(d+B*au B l) / B=au B l:=by rw[Nat.add_mul_div_left _ _ (by omega),Nat.div_eq_of_lt h.1,Nat.zero_add]
  have V:(d+B*au B l)%B=d:=by rw[Nat.add_mul_mod_self_left,Nat.mod_eq_of_lt h.1]
  rw[R];unfold aU;split
  ·rename_i U
   rw[U] at Z;have Q:=(eH y).1 Z;rw[Q];split
   next S=>subst S;exact dD B
   ·rename_i S
    rw[xU y (by omega),Nat.mul_zero,Nat.add_zero,Nat.mod_eq_of_lt h.1,Nat.div_eq_of_lt h.1,dD]
  ·rename_i x r U
   rw[U] at Z;have O:au B l≠0:=by intro e;rw[e,dD] at Z;cases Z
   have:d+B*au B l≠0:=by have:0<B*au B l:=Nat.mul_pos (by omega) (by omega);omega
   rw[xU y this,X,V,Z]
theorem bX(y:2≤B)(n:Nat):aU (dig B n)=dig B n:=by rw[←dC y (bO y n),bC y]
theorem iW:∀l:List Nat,aU (l++[0])=aU l
 | []=>rfl
 |d::l=>by rw[List.cons_append,aU,iW l,aU]
theorem EN{d:Nat}(hd:d≠0):∀l:List Nat,aU (l++[d])=l++[d]
 | []=>by simp[aU,hd]
 |c::l=>by rw[List.cons_append,aU,EN hd l];cases l<;>rfl
theorem cR:∀l:List Nat,(aU l).length≤l.length
 | []=>Nat.le_refl _
 |d::l=>by
  have:=cR l;unfold aU;split
  ·split<;>simp
  ·rename_i x r h
   rw[h] at this;simp only[List.length_cons] at this ⊢;omega
theorem j8:∀l:List Nat,aU l=l.take (aU l).length
 | []=>rfl
 |d::l=>by
  have:=j8 l;unfold aU;split
  ·split<;>simp
  ·rename_i x r h
   rw[h] at this;rw[List.length_cons,List.take_succ_cons,←this]
section
variable (hB:2≤B)
include hB
theorem sB(n:Nat):n<B ^ (dig B n).length:=by
 have:=gd (bO hB n)
 rwa [bC hB] at this
theorem sN(n:Nat)(y:n≠0):B ^ ((dig B n).length-1)≤n:=by
 induction n using NP hB with
 |h0=>exact absurd rfl y
 |h1 n _ ih=>
  rw[xU hB y,List.length_cons,Nat.add_sub_cancel];by_cases h0:n / B=0
  ·rw[h0,dD];simp;omega
  ·have:=ih h0
   have Z:0<(dig B (n / B)).length:=by
    cases h:dig B (n / B) with
    |nil=>exact absurd ((eH hB).1 h) h0
    |cons=>simp
   have e:B ^ (dig B (n / B)).length=B*B ^ ((dig B (n / B)).length-1):=by rw[Nat.mul_comm,←Nat.pow_succ];congr 1;omega
   rw[e];exact Nat.le_trans (Nat.mul_le_mul_left _ this) (Nat.mul_div_le n B)
theorem dz{m:Nat}(h:(dig B m).length<(dig B n).length):m<n:=by
 have Z:n≠0:=by rintro rfl;rw[dD] at h;simp at h
 have X:=sB hB m;have V:=sN hB n Z;have h3:B ^ (dig B m).length≤B ^ ((dig B n).length-1):=Nat.pow_le_pow_right (by omega) (by omega);omega
theorem eN{k:Nat}(h:n<B ^ k):(dig B n).length≤k:=by
 by_cases Z:n=0
 ·subst Z;rw[dD];simp
 ·have V:=sN hB n Z
  have X:B ^ ((dig B n).length-1)<B ^ k:=by omega
  have:=(Nat.pow_lt_pow_iff_right (by omega:1<B)).1 X;omega
end
variable{d:Nat}{l:List Nat}
theorem ed(h:lok B l=true){i:Nat}(y:l[i]? =some d):d<B:=by have:=List.all_eq_true.1 h d (List.mem_of_getElem? y);simpa using this
variable{r:List Nat}
theorem nt:lok B (l++r)=(lok B l&&lok B r):=by simp[lok,List.all_append]
theorem cI:lok B (d::r)=(decide (d<B)&&lok B r):=rfl
theorem iV(h:lok B l=true)(k:Nat):lok B (l.take k)=true:=by unfold lok at h ⊢;rw[List.all_eq_true] at h ⊢;exact fun d Z=>h d (List.mem_of_mem_take Z)
theorem iU(h:lok B l=true)(k:Nat):lok B (l.drop k)=true:=by unfold lok at h ⊢;rw[List.all_eq_true] at h ⊢;exact fun d Z=>h d (List.mem_of_mem_drop Z)
theorem Ln(B:Nat)(l:List Nat)(d:Nat):au B (l++[d])=au B l+B ^ l.length*d:=by rw[gC];simp[au]
def uz(B:Nat):List Nat→List Nat→Nat→List Nat
 | [],_,c=>[c]
 |x::a,b,c=>(c+x+b.headD 0)%B::uz B a b.tail ((c+x+b.headD 0) / B)
theorem Lp(B:Nat)(b:List Nat):au B b=b.headD 0+B*au B b.tail:=by cases b<;>simp[au]
theorem Lm(B:Nat):∀(a b:List Nat) (c:Nat),b.length≤a.length→au B (uz B a b c)=au B a+au B b+c
 | [],b,c,h=>by have:b=[]:=List.eq_nil_of_length_eq_zero (by simpa using h);subst this;simp[uz,au]
 |x::a,b,c,h=>by
  have Z:b.tail.length≤a.length:=by simp at h ⊢;omega
  rw[uz,au,Lm B a b.tail _ Z,Lp B b,au];have:=Nat.mod_add_div (c+x+b.headD 0) B;rw[Nat.mul_add,Nat.mul_add];omega
variable{b:List Nat}
theorem Lk(y:0<B)(h:lok B b=true):b.headD 0<B:=by
 cases b with
 |nil=>exact y
 |cons d b=>rw[cI,Bool.and_eq_true,decide_eq_true_eq] at h;exact h.1
theorem OY(h:lok B b=true):lok B b.tail=true:=by
 cases b with
 |nil=>rfl
 |cons d b=>rw[cI,Bool.and_eq_true] at h;exact h.2
theorem OX{B:Nat}(y:2≤B):∀(a b:List Nat) (c:Nat),lok B a=true→lok B b=true→c≤1→lok B (uz B a b c)=true
 | [],b,c,_,_,hc=>by simp[uz,lok];omega
 |x::a,b,c,ha,hb,hc=>by
  rw[cI,Bool.and_eq_true,decide_eq_true_eq] at ha;have Z:=Lk (by omega) hb;rw[uz,cI,Bool.and_eq_true,decide_eq_true_eq];refine⟨Nat.mod_lt _ (by omega),OX y a _ _ ha.2 (OY hb) ?_⟩;have:(c+x+b.headD 0) / B<2:=by rw[Nat.div_lt_iff_lt_mul (by omega)];omega
  omega
def uT(B:Nat):List Nat→List Nat→Nat→List Nat
 | [],_,_=>[]
 |x::a,b,c=>if x<c+b.headD 0 then (x+B-(c+b.headD 0))::uT B a b.tail 1 else (x-(c+b.headD 0))::uT B a b.tail 0
theorem Cp{B:Nat}(y:2≤B):∀(a b:List Nat) (c:Nat),lok B a=true→lok B b=true→c≤1→b.length≤a.length→au B b+c≤au B a→
  au B (uT B a b c)+au B b+c=au B a∧lok B (uT B a b c)=true
 | [],b,c,_,_,_,h,h2=>by have:b=[]:=List.eq_nil_of_length_eq_zero (by simpa using h);subst this;simp only[au] at h2;simp only[uT,au];exact⟨by omega,rfl⟩
 |x::a,b,c,ha,hb,hc,h,h2=>by
  have U:b.tail.length≤a.length:=by simp at h ⊢;omega
  rw[cI,Bool.and_eq_true,decide_eq_true_eq] at ha;have R:=Lk (by omega) hb;have Z:=OY hb;rw[Lp B b] at h2 ⊢;rw[au] at h2 ⊢;unfold uT;split
  ·rename_i S
   have h3:au B b.tail+1≤au B a:=by
    have:B*au B b.tail<B*au B a:=by omega
    have:=Nat.lt_of_mul_lt_mul_left this;omega
   obtain⟨X,V⟩:=Cp y a b.tail 1 ha.2 Z (by omega) U h3;have e:B*au B a=B*au B (uT B a b.tail 1)+B*au B b.tail+B:=by rw[←X,Nat.mul_add,Nat.mul_add,Nat.mul_one]
   rw[au,cI,V,Bool.and_true,decide_eq_true_eq,e];exact⟨by omega,by omega⟩
  ·rename_i S
   have h3:au B b.tail+0≤au B a:=by
    have:B*au B b.tail<B*au B a+B:=by omega
    rw[←Nat.mul_succ] at this;have:=Nat.lt_of_mul_lt_mul_left this;omega
   obtain⟨X,V⟩:=Cp y a b.tail 0 ha.2 Z (by omega) U h3;have e:B*au B a=B*au B (uT B a b.tail 0)+B*au B b.tail:=by rw[←X,Nat.mul_add,Nat.mul_add,Nat.mul_zero,Nat.add_zero]
   rw[au,cI,V,Bool.and_true,decide_eq_true_eq,e];exact⟨by omega,by omega⟩
def iS(B:Nat):List Nat→Nat→List Nat
 | [],_=>[]
 |o::l,c=>if c=0 then o::l else (c+o)%B::iS B l ((c+o) / B)
def Q8(B x:Nat):List Nat→List Nat→Nat→List Nat
 |o,[],c=>iS B o c
 | [],_::_,_=>[]
 |o::l,y::b,c=>(c+(o+x*y))%B::Q8 B x l b ((c+(o+x*y)) / B)
theorem wo(B:Nat):∀(o:List Nat) (c:Nat),(iS B o c).length=o.length
 | [],_=>rfl
 |o::l,c=>by
  unfold iS;split
  ·rfl
  ·simp[wo B l]
theorem uH(B x:Nat):∀(o b:List Nat) (c:Nat),(Q8 B x o b c).length=o.length
 |o,[],c=>by cases o<;>exact wo B _ c
 | [],_::_,_=>rfl
 |o::l,y::b,c=>by simp[Q8,uH B x l b]
theorem Cn{B:Nat}(y:2≤B):∀(o:List Nat) (c:Nat),lok B o=true→au B o+c<B ^ o.length→au B (iS B o c)=au B o+c∧lok B (iS B o c)=true
 | [],c,_,h=>by simp only[au,List.length_nil,Nat.pow_zero] at h;simp only[iS,au];exact⟨by omega,rfl⟩
 |o::l,c,ho,h=>by
  unfold iS;split
  next Z=>subst Z;exact⟨by omega,ho⟩
  ·rw[cI,Bool.and_eq_true,decide_eq_true_eq] at ho
   have X:=Nat.mod_add_div (c+o) B;rw[au,List.length_cons,Nat.pow_succ,Nat.mul_comm (B ^ l.length)] at h;have V:au B l+(c+o) / B<B ^ l.length:=by
    have:B*(au B l+(c+o) / B)<B*B ^ l.length:=by rw[Nat.mul_add];omega
    exact Nat.lt_of_mul_lt_mul_left this
   obtain⟨U,S⟩:=Cn y l _ ho.2 V;rw[au,au,U,cI,S,Nat.mul_add];refine⟨by omega,?_⟩;simp[Nat.mod_lt (c+o) (show 0<B by omega)]
theorem Co{B:Nat}(H:2≤B)(x:Nat):∀(o b:List Nat) (c:Nat),lok B o=true→au B o+x*au B b+c<B ^ o.length→
  b.length≤o.length→au B (Q8 B x o b c)=au B o+x*au B b+c∧lok B (Q8 B x o b c)=true
 |o,[],c,ho,h,_=>by
  simp only[au,Nat.mul_zero,Nat.add_zero] at h ⊢;have:Q8 B x o [] c=iS B o c:=by cases o<;>rfl
  rw[this];exact Cn H o c ho h
 | [],y::b,c,_,_,hl=>by simp at hl
 |o::l,y::b,c,ho,h,hl=>by
  rw[cI,Bool.and_eq_true,decide_eq_true_eq] at ho;have Z:=Nat.mod_add_div (c+(o+x*y)) B;have e:x*(y+B*au B b)=x*y+B*(x*au B b):=by rw[Nat.mul_add,←Nat.mul_assoc,←Nat.mul_assoc,Nat.mul_comm x B]
  rw[au,au,e,List.length_cons,Nat.pow_succ,Nat.mul_comm (B ^ l.length)] at h;have X:au B l+x*au B b+(c+(o+x*y)) / B<B ^ l.length:=by
   have:B*(au B l+x*au B b+(c+(o+x*y)) / B)<B*B ^ l.length:=by rw[Nat.mul_add,Nat.mul_add];omega
   exact Nat.lt_of_mul_lt_mul_left this
  obtain⟨V,U⟩:=Co H x l b _ ho.2 X (by simpa using hl);rw[Q8,au,V,cI,U,au,au,e,Nat.mul_add,Nat.mul_add];refine⟨by omega,?_⟩;simp[Nat.mod_lt (c+(o+x*y)) (show 0<B by omega)]
def rY(B:Nat):List Nat→List Nat→List Nat→List Nat
 | [],_,o=>o
 |x::a,b,o=>match Q8 B x o b 0 with
  | []=>[]
  |d::r=>d::rY B a b r
theorem EP{B:Nat}(y:2≤B):∀(a b o:List Nat),lok B o=true→au B o+au B a*au B b<B ^ o.length→a.length+b.length≤o.length→
  au B (rY B a b o)=au B o+au B a*au B b∧lok B (rY B a b o)=true∧(rY B a b o).length=o.length
 | [],b,o,ho,h,_=>by simp only[rY,au,Nat.zero_mul,Nat.add_zero];exact⟨trivial,ho,trivial⟩
 |x::a,b,o,ho,h,hl=>by
  have e:(x+B*au B a)*au B b=x*au B b+B*(au B a*au B b):=by rw[Nat.add_mul,Nat.mul_assoc]
  rw[au,e] at h;have V :a.length+1+b.length≤o.length:=by simpa using hl
  obtain⟨r1,r2⟩:=Co y x o b 0 ho (by omega) (by omega);have Z:=uH B x o b 0;unfold rY;split
  next X=>rw[X] at Z;simp at Z;omega
  ·rename_i d r X
   rw[X] at r1 r2 Z;rw[cI,Bool.and_eq_true,decide_eq_true_eq] at r2;simp only[List.length_cons] at Z;rw[au] at r1;have U:au B r+au B a*au B b<B ^ r.length:=by
    have:B*(au B r+au B a*au B b)<B*B ^ r.length:=by rw[Nat.mul_comm B (B ^ r.length),←Nat.pow_succ,show r.length.succ=o.length from Z,Nat.mul_add];omega
    exact Nat.lt_of_mul_lt_mul_left this
   obtain⟨S,R,Q⟩:=EP y a b r r2.2 U (by omega);rw[au,S,cI,R,List.length_cons,Q,au,e,Nat.mul_add];exact⟨by omega,by simp[r2.1],Z⟩
theorem QZ(y:2≤B){a:List Nat}(H:lok B a=true)(I:lok B b=true):
  au B (rY B a b (List.replicate (a.length+b.length+1) 0))=au B a*au B b∧lok B (rY B a b (List.replicate (a.length+b.length+1) 0))=true∧
   (rY B a b (List.replicate (a.length+b.length+1) 0)).length=a.length+b.length+1:=by
 have X:∀n,au B (List.replicate n 0)=0:=by
  intro n;induction n with
  |zero=>rfl
  |succ n ih=>rw[List.replicate_succ,au,ih];simp
 have Z:∀n,lok B (List.replicate n 0)=true:=by intro n;unfold lok;rw[List.all_eq_true];intro d V;rw[List.mem_replicate] at V;simp[V.2];omega
 have h:au B a*au B b<B ^ (a.length+b.length+1):=by have U:=gd H;have S:=gd I;have h3:au B a*au B b<B ^ a.length*B ^ b.length:=Nat.mul_lt_mul_of_lt_of_lt U S;rw[←Nat.pow_add] at h3;have R:B ^ (a.length+b.length)≤B ^ (a.length+b.length+1):=Nat.pow_le_pow_right (by omega) (by omega);omega
 have:=EP y a b (List.replicate (a.length+b.length+1) 0) (Z _) (by rw[X,Nat.zero_add,List.length_replicate];exact h) (by rw[List.length_replicate];omega)
 rwa [X,Nat.zero_add,List.length_replicate] at this
def fE(B d:Nat):List Nat→List Nat×Nat
 | []=>([],0)
 |x::l=>let p:=fE B d l;((p.2*B+x) / d::p.1,(p.2*B+x)%d)
theorem B6{B d:Nat}(hd:0<d)(y:d<B):∀l:List Nat,lok B l=true→(fE B d l).2<d∧au B (fE B d l).1*d+(fE B d l).2=au B l∧lok B (fE B d l).1=true∧(fE B d l).1.length=l.length
 | [],_=>by simp[fE,au,lok,hd]
 |x::l,h=>by
  rw[cI,Bool.and_eq_true,decide_eq_true_eq] at h;obtain⟨X,V,U,S⟩:=B6 hd y l h.2;simp only[fE];have Z:=Nat.mod_add_div ((fE B d l).2*B+x) d;refine⟨Nat.mod_lt _ hd,?_,?_,by simp[S]⟩
  ·rw[au,au,←V,Nat.add_mul,Nat.mul_add]
   rw[Nat.mul_comm d] at Z;rw[Nat.mul_assoc,Nat.mul_comm B (fE B d l).2];omega
  ·rw[cI,Bool.and_eq_true,decide_eq_true_eq]
   refine⟨?_,U⟩;rw[Nat.div_lt_iff_lt_mul hd];have h3:((fE B d l).2+1)*B≤d*B:=Nat.mul_le_mul_right _ X;rw[Nat.add_mul] at h3;rw[Nat.mul_comm B d];omega
theorem U3{p D top r b q:Nat}(hr:r<(D+1)*p)(y:top*p≤b)(hq:q*b≤r)(H:0<top):q≤D / top:=by
 rw[Nat.le_div_iff_mul_le H];have X:q*(top*p)≤q*b:=Nat.mul_le_mul_left _ y;have Z:(q*top)*p<(D+1)*p:=by rw[Nat.mul_assoc];omega
 have:=Nat.lt_of_mul_lt_mul_right Z;omega
end Go.Eng
namespace Go.Proofs
open Go.Eng
open Tryz
variable{A:List Nat}
theorem rI{n:Nat}(h:A[n]? =some 0):aU (A.take (n+1))=aU (A.take n):=by rw[List.take_add_one,h];exact iW _
theorem rH{n d:Nat}(h:A[n]? =some d)(hd:d≠0):aU (A.take (n+1))=A.take (n+1):=by rw[List.take_add_one,h];exact EN hd _
variable{K:Nat}{O:ae3}{lv:Code→List Nat}
theorem DT(A:List Nat)(J:A.length≤1000000000)(I:A.length<K){b:Code}(y:ah f206=[b])(H:lv b=[0]):
  ∃F:Env→Bool→Env,∀Z d,ab Z 0=.slice 0 0 A.length none→
   bh (ba prog) lv O K 21 1 true (.loop b) ⟨Z,[.cells false 1 (iN .u64 A)],d⟩=some (.exit 0,⟨F Z d,[.cells false 1 (iN .u64 A)],d⟩)∧ab (F Z d) 0=.slice 0 0 (aU A).length none:=by
 refine bj H (fun Z=>ab Z 0=.slice 0 0 A.length none) (fun _ M =>ab M 0=.slice 0 0 (aU A).length none) ?_;clear H;intro Z d L;simp[ah,aE,f206] at y;have S:ay [0] (ad b) Z ((0,.slice 0 0 A.length none)::Z)=ay [0] (ad b) Z Z:=by simp[ay,L]
 rw[←S];refine bx (α:=Nat) (fun n=>⟨ay [0] (ad b) Z ((0,.slice 0 0 n none)::Z),[.cells false 1 (iN .u64 A)],d⟩) id (fun n=>n≤A.length∧aU (A.take n)=aU A) (.exit 0) _ d _ (by simp) ?_ K A.length ⟨Nat.le_refl _,by rw[List.take_length]⟩ I;rintro n ⟨Zg,Zu⟩;clear S;subst y;cases n with
 |zero=>
  right;rw[←Zu];simp[aU]
 |succ n=>
  have G:n<A.length:=by omega
  obtain⟨x,V⟩:∃x,A[n]? =some x:=⟨A[n],by simp[G]⟩
  have R:IntKind.i64.wrap (n:Int)=(n:Int):=ae;have Q:(n:Int)<(n:Int)+1:=by omega
  have N:0<(n:Int)+1:=by omega
  by_cases X:x=0
  ·subst X
   left;refine⟨n,?_⟩;have h3:(n:Int)≤(n:Int)+1:=by omega
   have U:n+1≤A.length:=by omega
   simp[R,Q,N,h3,U,V];exact⟨by omega,by rw[←rI V];exact Zu⟩
  ·right
   rw[←Zu,rH V X];have U:min (n+1) A.length=n+1:=by omega
   simp[R,Q,N,U,V,X]
theorem P0(A:List Nat)(y:A.length≤1000000000):kO prog 206 [.slice 0 0 A.length none] [.cells false 1 (iN .u64 A)] (.slice 0 0 (aU A).length none) [.cells false 1 (iN .u64 A)]:=by
 have X:aT prog 206=some f206:=by kernel_rfl
 obtain⟨b,Z⟩:∃b,ah f206=[b]:=⟨_,rfl⟩
 obtain⟨F,V⟩:=DT (O:=cN) (K:=A.length+1) (lv:=fun _=>[0]) A y (by omega) Z rfl;simp[ah,aE,f206] at Z;subst Z;refine cv (lv:=(fun _=>[0])) (K:=(A.length+1)) (ax _) ?_;simp[aa,X,f206,V]
variable{X Y:List Nat}
theorem Sk{B n a b:Nat}(H:lok B X=true)(I:lok B Y=true)(W:X.length=Y.length)(hd:X.drop (n+1)=Y.drop (n+1))(y:X[n]? =some a)(J:Y[n]? =some b)(YF:a≠b):
  jH (au B X) (au B Y)=if a<b then -1 else 1:=by
 have G:n<X.length:=gL y;have U:X=X.take n++([a]++X.drop (n+1)):=by
  conv=>lhs;rw[←List.take_append_drop (n+1) X,List.take_add_one,y]
  simp
 have S:Y=Y.take n++([b]++Y.drop (n+1)):=by
  conv=>lhs;rw[←List.take_append_drop (n+1) Y,List.take_add_one,J]
  simp
 have R:=gd (iV H n);have Q:=gd (iV I n);have Z:(X.take n).length=n:=by simp;omega
 have V:(Y.take n).length=n:=by simp;omega
 rw[Z] at R;rw[V] at Q;have N:au B X=au B (X.take n)+B ^ n*(a+B*au B (X.drop (n+1))):=by
  conv=>lhs;rw[U,gC,gC,Z]
  simp[au]
 have M:au B Y=au B (Y.take n)+B ^ n*(b+B*au B (X.drop (n+1))):=by
  conv=>lhs;rw[S,gC,gC,V,←hd]
  simp[au]
 rw[N,M];generalize B*au B (X.drop (n+1))=D;generalize B ^ n=p at*;split
 ·rename_i L
  have:p*(a+D+1)≤p*(b+D):=Nat.mul_le_mul_left _ (by omega);rw[Nat.mul_add,Nat.mul_one] at this;unfold jH;rw[if_pos (by omega)]
 ·rename_i L
  have:p*(b+D+1)≤p*(a+D):=Nat.mul_le_mul_left _ (by omega);rw[Nat.mul_add,Nat.mul_one] at this;unfold jH;rw[if_neg (by omega),if_pos (by omega)]
theorem KS{n a:Nat}(h:X.drop (n+1)=Y.drop (n+1))(y:X[n]? =some a)(H:Y[n]? =some a):X.drop n=Y.drop n:=by have Z:n<X.length:=gL y;have V:n<Y.length:=gL H;rw[List.drop_eq_getElem_cons Z,List.drop_eq_getElem_cons V,h];have:=(List.getElem?_eq_some_iff.1 y).2;have:=(List.getElem?_eq_some_iff.1 H).2;simp_all
theorem Bo(A B:List Nat)(W:lok 1000000000 A=true)(hB:lok 1000000000 B=true)(hl:A.length≤1000000000)(H:A.length=B.length)(hK:A.length<K){b:Code}(I:ah f202=[b])(J:lv b=[5]):
  ∃F:Env→Bool→Env,∀Z d,(ab Z 0=.slice 0 0 A.length none∧ab Z 1=.slice 1 0 A.length none∧ab Z 5=.int .i64 ((A.length:Int)-1))→
   bh (ba prog) lv O K 41 2 true (.loop b) ⟨Z,[.cells false 1 (iN .u64 A),.cells false 1 (iN .u64 B)],d⟩=some (if A=B then .exit 0 else .ret,⟨F Z d,[.cells false 1 (iN .u64 A),.cells false 1 (iN .u64 B)],d⟩)∧
    (A≠B→ab (F Z d) 4=.int .i64 (jH (au 1000000000 A) (au 1000000000 B))):=by
 refine bj J (fun Z=>ab Z 0=.slice 0 0 A.length none∧ab Z 1=.slice 1 0 A.length none∧ab Z 5=.int .i64 ((A.length:Int)-1)) (fun _ o =>A≠B→ab o 4=.int .i64 (jH (au 1000000000 A) (au 1000000000 B))) ?_;clear J;rintro Z d ⟨h0,h1,h5⟩;simp[ah,aE,f202] at I;have C:ay [5] (ad b) Z ((5,.int .i64 ((A.length:Int)-1))::Z)=ay [5] (ad b) Z Z:=by simp[ay,h5]
 rw[←C];refine bx (α:=Nat) (fun n=>⟨ay [5] (ad b) Z ((5,.int .i64 ((n:Int)-1))::Z),[.cells false 1 (iN .u64 A),.cells false 1 (iN .u64 B)],d⟩) id (fun n=>n≤A.length∧A.drop n=B.drop n) (if A=B then .exit 0 else .ret) _ d _ (by split<;>simp) ?_ K A.length ⟨Nat.le_refl _,by rw[List.drop_length,H,List.drop_length]⟩ hK;rintro n ⟨Zg,Zu⟩;clear C;subst I;cases n with
 |zero=>
  right;rw[List.drop_zero,List.drop_zero] at Zu;simp[Zu]
 |succ n=>
  have R:n<A.length:=by omega
  have U:n<B.length:=by omega
  obtain⟨x,M,L⟩:=cM R;obtain⟨y,Q,G⟩:=cM U;have m:(((n+1:Nat):Int)-1)=(n:Int):=by omega
  have j:IntKind.i64.wrap ((n:Int)-1)=(n:Int)-1:=ae;rw[m];by_cases D:x=y
  ·left
   subst D;refine⟨n,?_⟩;simp[h0,h1,L,G,R,U,j];exact⟨by omega,KS Zu M Q⟩
  ·right
   have u:A≠B:=by rintro rfl;rw[M] at Q;cases Q;exact D rfl
   have N:=Sk W hB H Zu M Q D;have S :¬((x:Int)=(y:Int)):=by omega
   by_cases V:x<y
   ·rw[if_pos V] at N
    simp[h0,h1,L,G,R,U,S,V,u,N]
   ·rw[if_neg V] at N
    simp[h0,h1,L,G,R,U,S,V,u,N]
theorem Mu(A B:List Nat)(y:lok 1000000000 A=true)(H:lok 1000000000 B=true)(I:A.length≤1000000000)(tA:aU A=A)(J:aU B=B):
  kO prog 202 [.slice 0 0 A.length none,.slice 1 0 B.length none] [.cells false 1 (iN .u64 A),.cells false 1 (iN .u64 B)] (.int .i64 (jH (au 1000000000 A) (au 1000000000 B))) [.cells false 1 (iN .u64 A),.cells false 1 (iN .u64 B)]:=by
 have S:aT prog 202=some f202:=by kernel_rfl
 obtain⟨b,R⟩:∃b,ah f202=[b]:=⟨_,rfl⟩
 refine cv (lv:=(fun _=>[5])) (K:=(A.length+1)) (ax _) ?_;have L:dig 1000000000 (au 1000000000 A)=A:=by rw[dC (by omega) y,tA]
 have G:dig 1000000000 (au 1000000000 B)=B:=by rw[dC (by omega) H,J]
 by_cases Q:A.length=B.length
 ·have Z:=Bo (O:=cN) (K:=A.length+1) (lv:=fun _=>[5]) A B y H I Q (by omega) R rfl
  simp[ah,aE,f202] at R;subst R;obtain⟨F,Z⟩:=Z;have D:IntKind.i64.wrap ((B.length:Int)-1)=(B.length:Int)-1:=ae;by_cases V:A=B
  ·subst V
   have U:jH (au 1000000000 A) (au 1000000000 A)=0:=by unfold jH;simp
   rw[if_pos rfl] at Z;simp[aa,S,f202,Z,D,U]
  ·rw[if_neg V] at Z
   simp only[Q] at Z;simp[aa,S,f202,Z,Q,D,V]
 ·have C :¬((A.length:Int)=B.length):=by omega
  by_cases N:A.length<B.length
  ·have M:au 1000000000 A<au 1000000000 B:=dz (B:=1000000000) (by omega) (by rw[L,G];exact N)
   have U:jH (au 1000000000 A) (au 1000000000 B)= -1:=by unfold jH;rw[if_pos M]
   simp[aa,S,f202,C,N,U]
  ·have M:au 1000000000 B<au 1000000000 A:=dz (B:=1000000000) (by omega) (by rw[L,G];omega)
   have U:jH (au 1000000000 A) (au 1000000000 B)=1:=by unfold jH;rw[if_neg (by omega),if_pos M]
   simp[aa,S,f202,C,N,U]
theorem kF(l:List Nat):l.take (aU l).length=aU l:=(j8 l).symm
variable{M:Mem}{x:AV}
theorem MK(y:A.length≤1000000000)(H:afi .u64 M x A):∃b,x=.slice b 0 A.length none∧kO prog 206 [x] M (.slice b 0 (aU A).length none) M:=by obtain⟨b,e,h⟩:=kO.agJ (new:=[]) (rest:=[]) rfl rfl (P0 A y) H;refine⟨b,e,?_⟩;simpa [AV.ren,eL] using h
variable{y:AV}
theorem HA{A B:List Nat}(H:lok 1000000000 A=true)(I:lok 1000000000 B=true)(J:A.length≤1000000000)(tA:aU A=A)(W:aU B=B)(hx:afi .u64 M x A)(hy:afi .u64 M y B):
  kO prog 202 [x,y] M (.int .i64 (jH (au 1000000000 A) (au 1000000000 B))) M:=by
 obtain⟨b,c,Z,V,h⟩:=kO.af1 (new:=[]) rfl (Mu A B H I J tA W) hx hy;simpa [AV.ren] using h
noncomputable def bE:ae3:=fun c Z M=>match c,Z with
 |.fn 206,[x]=>match x,aW .u64 M x with
  |.slice b _ _ _,some A=>if A.length≤1000000000 then some ⟨.slice b 0 (aU A).length none,none,[]⟩ else none
  |_,_=>none
 |.fn 202,[x,y]=>match aW .u64 M x,aW .u64 M y with
  |some A,some B=>if lok 1000000000 A=true∧lok 1000000000 B=true∧A.length≤1000000000∧aU A=A∧aU B=B then some ⟨.int .i64 (jH (au 1000000000 A) (au 1000000000 B)),none,[]⟩ else none
  |_,_=>none
 |_,_=>none
theorem iA:qS prog bE:=by
 have V:∀c Z M r,bE c Z M=some r→(∃f,c=.fn f∧kO prog f Z M r.v (r.mem M))∧r.pre=none:=by
  intro c Z M r h;unfold bE at h;split at h
  ·split at h
   ·rename_i S
    split at h
    ·rename_i Q
     cases h;obtain⟨b,e,h⟩:=MK Q (aY S);cases e;exact⟨⟨_,rfl,by simpa [y9.mem] using h⟩,rfl⟩
    ·cases h
   ·cases h
  ·split at h
   ·rename_i S N
    split at h
    ·rename_i L
     obtain⟨G,F,D,C,B⟩:=L;cases h;exact⟨⟨_,rfl,by simpa [y9.mem] using HA G F D C B (aY S) (aY N)⟩,rfl⟩
    ·cases h
   ·cases h
  ·cases h
 refine⟨fun f Z M r h=>?_,fun b Z M r h=>?_,fun c Z M r p h R=>?_⟩
 ·obtain⟨⟨u,e,U⟩,_⟩:=V _ _ _ _ h
  cases e;exact U
 ·obtain⟨⟨u,e,U⟩,_⟩:=V _ _ _ _ h
  cases e
 ·obtain⟨_,U⟩:=V _ _ _ _ h
  rw[U] at R;cases R
def gV(X Y:List Nat):Nat→List Nat→Mem
 |0,_=>[.cells false 1 (iN .u64 X),.cells false 1 (iN .u64 Y),.cells true 1 []]
 |_+1,done=>[.cells false 1 (iN .u64 X),.cells false 1 (iN .u64 Y),.qK,.cells true 1 (iN .u64 done)]
def gF:Nat→AV
 |0=>.slice 2 0 0 none
 |i+1=>.slice 3 0 (i+1) none
theorem jE(X Y:List Nat)(i:Nat)(done:List Nat):gV X Y (i+1) done=[.cells false 1 (iN .u64 X),.cells false 1 (iN .u64 Y),.qK,.cells true 1 (iN .u64 done)]:=rfl
theorem kJ(X Y:List Nat):(gV X Y 0 []).length=3:=rfl
theorem jF(i:Nat):gF (i+1)=.slice 3 0 (i+1) none:=rfl
theorem bt{α:Type}{p q:α→Prop}{r:Prop}(hr:r)(h:∃s,p s∧q s):∃s,p s∧q s∧r:=let ⟨s,a,b⟩:=h;⟨s,a,b,hr⟩
theorem DO(X Y A B:List Nat)(H I:Nat)(hs:(H=0∧I=1∧X=A∧Y=B)∨(H=1∧I=0∧X=B∧Y=A))(hA:lok 1000000000 A=true)(hB:lok 1000000000 B=true)(hl:A.length≤1000000000)(D':B.length≤A.length)(hK:A.length<K){b:Code}(J:ah f201=[b])(W:lv b=[22,5,6]):
  ∃F:Env→Bool→Env,∀Z d,(ab Z 1=.slice I 0 B.length none∧ab Z 20=.slice H 0 A.length none∧ab Z 21=.int .i64 A.length∧ab Z 5=.slice 2 0 0 none∧ab Z 6=.int .u64 0∧ab Z 22=.int .i64 0)→
   bh (ba prog) lv O K 53 2 true (.loop b) ⟨Z,gV X Y 0 [],d⟩=some (.exit 0,⟨F Z d,gV X Y A.length ((uz 1000000000 A B 0).take A.length),d⟩)∧
    (ab (F Z d) 5=gF A.length∧ab (F Z d) 6=.int .u64 (((uz 1000000000 A B 0).getD A.length 0:Nat):Int)):=by
 refine bj W (fun Z=>ab Z 1=.slice I 0 B.length none∧ab Z 20=.slice H 0 A.length none∧ab Z 21=.int .i64 A.length∧ab Z 5=.slice 2 0 0 none∧ab Z 6=.int .u64 0∧ab Z 22=.int .i64 0)
  (fun _ C =>ab C 5=gF A.length∧ab C 6=.int .u64 (((uz 1000000000 A B 0).getD A.length 0:Nat):Int)) ?_
 clear W;rintro Z d ⟨h1,h20,h21,h5,h6,h22⟩;simp[ah,aE,f201] at J;have u:ay [22,5,6] (ad b) Z ((22,.int .i64 ((0:Nat):Int))::(5,gF 0)::(6,.int .u64 ((0:Nat):Int))::Z)=ay [22,5,6] (ad b) Z Z:=by simp[ay,h5,h6,h22,gF]
 rw[←u];refine bx (α:=Nat×List Nat×Nat) (fun a=>⟨ay [22,5,6] (ad b) Z ((22,.int .i64 (a.1:Int))::(5,gF a.1)::(6,.int .u64 (a.2.2:Int))::Z),gV X Y a.1 a.2.1,d⟩) (fun a=>A.length-a.1)
  (fun a=>a.1≤A.length∧a.2.1.length=a.1∧a.2.2≤1∧a.2.1++uz 1000000000 (A.drop a.1) (B.drop a.1) a.2.2=uz 1000000000 A B 0) (.exit 0) _ d _ (by simp) ?_ K (0,[],0) ⟨Nat.zero_le _,rfl,Nat.zero_le _,rfl⟩ (by simpa using hK)
 rintro ⟨i,done,c⟩ ⟨hi,hd,hc,H1⟩;simp only at hi hd hc H1;clear u;subst J;by_cases R:i=A.length
 ·right
  subst R;rw[List.drop_length,uz] at H1;rw[←H1,←hd];simp only[List.take_left'];simp[h21,hd]
 ·left
  have U:i<A.length:=by omega
  obtain⟨x,hx,S⟩:=cM U;have Ym:=ed hA hx;have o:A.drop i=x::A.drop (i+1):=by rw[List.drop_eq_getElem_cons U,S]
  have w0:IntKind.i64.wrap 1=1:=by decide
  have w1:IntKind.i64.wrap ((i:Int)+1)=(i:Int)+1:=ae;have m:(i:Int)<(A.length:Int):=by omega
  have j:(i+1)*8≤140737488355328:=by omega
  have Zo:i+1≤140737488355328:=by omega
  have ht:(iN .u64 done).take i=iN .u64 done:=List.take_of_length_le (by simp[hd]);have hM:0<i→gV X Y i done=[.cells false 1 (iN .u64 X),.cells false 1 (iN .u64 Y),.qK,.cells true 1 (iN .u64 done)]:=fun h=>by cases i with
   |zero=>omega
   |succ i=>rfl
  have hO:0<i→gF i=.slice 3 0 i none:=fun h=>by cases i with
   |zero=>omega
   |succ i=>rfl
  by_cases V:i<B.length
  ·obtain⟨y,hy,Q⟩:=cM V
   have hyb:=ed hB hy;have N:B.drop i=y::B.drop (i+1):=by rw[List.drop_eq_getElem_cons V,Q]
   rw[o,N,uz,List.headD_cons,List.tail_cons] at H1;obtain⟨s,L⟩:=xE (α:=Nat) (c+x+y);rw[←L] at H1;have w2:IntKind.u64.wrap ((c:Int)+(x:Int))=(c:Int)+(x:Int):=cC (by omega) (by omega);have w3:IntKind.u64.wrap ((c:Int)+(x:Int)+(y:Int))=(s:Int):=by rw[cC (by omega) (by omega)];omega
   have w4:(s:Int).tmod 1000000000=(s:Int)%1000000000:=AM s 1000000000;have w5:IntKind.u64.wrap ((s:Int) / 1000000000)=(s:Int) / 1000000000:=cC (by omega) (by omega);refine⟨(i+1,done++[s%1000000000],s / 1000000000),?_⟩;refine bt (r:=_∧_) (show(i+1≤A.length∧(done++[s%1000000000]).length=i+1∧s / 1000000000≤1∧(done++[s%1000000000])++uz 1000000000 (A.drop (i+1)) (B.drop (i+1)) (s / 1000000000)=uz 1000000000 A B 0)∧A.length-(i+1)<A.length-i by refine⟨⟨by omega,by simp[hd],by omega,?_⟩,by omega⟩;rw[←H1];simp) ?_
   clear H1;rcases hs with⟨rfl,rfl,rfl,rfl⟩ | ⟨rfl,rfl,rfl,rfl⟩<;>rcases Nat.eq_zero_or_pos i with rfl | hpos;all_goals first
    |(have G:=List.eq_nil_of_length_eq_zero hd;subst G;simp[gV,gF,h1,h20,h21,S,Q,U,V,w0,w2,w3,w4,w5,ca];done)
    |simp[hM hpos,hO hpos,jE,jF,kJ,h1,h20,h21,S,Q,m,j,Zo,U,V,hd,w1,w2,w3,w4,w5,ht,dh,ca]
  ·have N:B.drop i=[]:=List.drop_eq_nil_of_le (by omega)
   have D:B.drop (i+1)=[]:=List.drop_eq_nil_of_le (by omega);rw[o,N,uz] at H1;simp only[List.headD_nil,List.tail_nil,Nat.add_zero] at H1;obtain⟨s,L⟩:=xE (α:=Nat) (c+x);rw[←L] at H1;have w3:IntKind.u64.wrap ((c:Int)+(x:Int))=(s:Int):=by rw[cC (by omega) (by omega)];omega
   have w4:(s:Int).tmod 1000000000=(s:Int)%1000000000:=AM s 1000000000;have w5:IntKind.u64.wrap ((s:Int) / 1000000000)=(s:Int) / 1000000000:=cC (by omega) (by omega);refine⟨(i+1,done++[s%1000000000],s / 1000000000),?_⟩;refine bt (r:=_∧_) (show(i+1≤A.length∧(done++[s%1000000000]).length=i+1∧s / 1000000000≤1∧(done++[s%1000000000])++uz 1000000000 (A.drop (i+1)) (B.drop (i+1)) (s / 1000000000)=uz 1000000000 A B 0)∧A.length-(i+1)<A.length-i by refine⟨⟨by omega,by simp[hd],by omega,?_⟩,by omega⟩;rw[←H1,D];simp) ?_
   clear H1;rcases hs with⟨rfl,rfl,rfl,rfl⟩ | ⟨rfl,rfl,rfl,rfl⟩<;>rcases Nat.eq_zero_or_pos i with rfl | hpos;all_goals first
    |(have G:=List.eq_nil_of_length_eq_zero hd;subst G;simp[gV,gF,h1,h20,h21,S,U,V,w0,w3,w4,w5,ca];done)
    |simp[hM hpos,hO hpos,jE,jF,kJ,h1,h20,h21,S,m,j,Zo,U,V,hd,w1,w3,w4,w5,ht,dh,ca]
theorem BR(B:Nat):∀(a b:List Nat) (c:Nat),(uz B a b c).length=a.length+1
 | [],_,_=>rfl
 |x::a,b,c=>by rw[uz,List.length_cons,BR B a];rfl
theorem OJ{B:Nat}(H:2≤B){a b:List Nat}(I:lok B a=true)(J:lok B b=true)(W:b.length≤a.length):aU (uz B a b 0)=dig B (au B a+au B b):=by rw[←dC H (OX H a b 0 I J (by omega)),Lm B a b 0 W,Nat.add_zero]
theorem Ek{l:List Nat}{n:Nat}(h:l.length=n+1):l.take n++[l.getD n 0]=l:=by
 have Z:n<l.length:=by omega
 have:l.getD n 0=l[n]:=by simp[List.getD,Z]
 rw[this];have V:l.take (n+1)=l:=List.take_of_length_le (by omega);rw[List.take_add_one,List.getElem?_eq_getElem Z] at V;exact V
theorem vJ(X Y A B:List Nat)(H I:Nat)(hs:(H=0∧I=1∧X=A∧Y=B∧¬A.length<B.length)∨(H=1∧I=0∧X=B∧Y=A∧B.length<A.length))(hA:lok 1000000000 A=true)(hB:lok 1000000000 B=true)(hl:A.length≤100000000)(Yb:B.length≤A.length):
  aa (ba prog) (fun _=>[22,5,6]) (aT prog) bE (A.length+1) 201 [.slice 0 0 X.length none,.slice 1 0 Y.length none] [.cells false 1 (iN .u64 X),.cells false 1 (iN .u64 Y)]=
   some ⟨.slice 2 0 (aU (uz 1000000000 A B 0)).length none,none,[.cells true 1 (iN .u64 (uz 1000000000 A B 0))]⟩:=by
 have C:aT prog 201=some f201:=by kernel_rfl
 obtain⟨b,u⟩:∃b,ah f201=[b]:=⟨_,rfl⟩
 have N:=BR 1000000000 A B 0;have S:=Ek N;obtain⟨F,U⟩:=DO (O:=bE) (K:=A.length+1) (lv:=fun _=>[22,5,6]) X Y A B H I (by rcases hs with⟨a,b,c,d,_⟩ | ⟨a,b,c,d,_⟩;exact .inl ⟨a,b,c,d⟩;exact .inr ⟨a,b,c,d⟩) hA hB (by omega) Yb (by omega) u rfl;simp[ah,aE,f201] at u;subst u;obtain⟨Z,ZR⟩:=xE (α:=Int) ((A.length:Int)+1);have w1:IntKind.i64.wrap ((A.length:Int)+1)=Z:=by rw[ZR];exact ae
 have j:0≤Z:=by omega
 have W:8*Z≤281474976710656:=by omega
 have J:Z≤281474976710656:=by omega
 obtain⟨G,ZY⟩:=xE (uz 1000000000 A B 0);rcases Nat.eq_zero_or_pos A.length with hz | hpos
 ·have ZN:=List.eq_nil_of_length_eq_zero hz
  have o:B=[]:=List.eq_nil_of_length_eq_zero (by omega);subst ZN;subst o;simp only[List.length_nil,gV,gF,uz,Nat.zero_add,Int.cast_ofNat_Int,List.take_zero,List.getD_cons_zero] at U;have D:aW .u64 [.cells false 1 [],.cells false 1 [],.qK,.cells true 1 [.int .u64 0],.cells true 1 [.int .u64 0]] (.slice 4 0 1 none)=some [0]:=by rfl
  rcases hs with⟨rfl,rfl,rfl,rfl,Q⟩ | ⟨rfl,rfl,rfl,rfl,Q⟩
  ·have w0:IntKind.i64.wrap 1=1:=by decide
   simp only[OP] at U;simp[aa,C,f201,U,bE,D,uz,aU,ca,w0]
  ·simp at Q
 ·have hM:∀done,gV X Y A.length done=[.cells false 1 (iN .u64 X),.cells false 1 (iN .u64 Y),.qK,.cells true 1 (iN .u64 done)]:=fun done=>by
   cases h:A.length with
   |zero=>omega
   |succ i=>rfl
  have hO:gF A.length=.slice 3 0 A.length none:=by
   cases h:A.length with
   |zero=>omega
   |succ i=>rfl
  rw[hM,hO] at U;simp only[gV] at U;obtain⟨V,Yx⟩:=xE ((uz 1000000000 A B 0).take A.length);obtain⟨L,m⟩:=xE ((uz 1000000000 A B 0).getD A.length 0);rw[←Yx,←m] at U S;rw[←ZY] at S N ⊢;have R:V.length=A.length:=by rw[Yx,List.length_take,←ZY,N];omega
  have h3:(A.length+1)*8≤140737488355328:=by omega
  have h4:A.length≤140737488355327:=by omega
  have h5:(iN .u64 V).take A.length=iN .u64 V:=List.take_of_length_le (by simp[R]);have D:aW .u64 [.cells false 1 (iN .u64 X),.cells false 1 (iN .u64 Y),.qK,.qK,.cells true 1 [.int .u64 (L:Int)],.cells true 1 (iN .u64 G)] (.slice 5 0 (A.length+1) none)=some G:=
   aR rfl (by simp[N]) (List.take_of_length_le (by simp[N]))
  have h7:G.length≤1000000000:=by omega
  have h8:iN .u64 V++[.int .u64 (L:Int)]=iN .u64 G:=by rw[Wg,S]
  rcases hs with⟨rfl,rfl,rfl,rfl,Q⟩ | ⟨rfl,rfl,rfl,rfl,Q⟩
  ·simp[aa,C,f201,Q,w1,j,W,J,U,bE,R,h3,h4,h5,D,h7,h8]
  ·simp[aa,C,f201,Q,w1,j,W,J,U,bE,R,h3,h4,h5,D,h7,h8]
theorem Cb{k:IntKind}{l r:List Nat}(h:l <+: r):iN k l <+: iN k r:=by obtain⟨t,rfl⟩:=h;exact⟨iN k t,by rw[←dh]⟩
theorem di(l:List Nat):aU l <+: l:=by rw[j8 l];exact List.take_prefix _ _
theorem My{A B:List Nat}(H:lok 1000000000 A=true)(I:lok 1000000000 B=true)(J:A.length≤100000000)(W:B.length≤100000000)(hx:afi .u64 M x A)(hy:afi .u64 M y B):
  kO prog 201 [x,y] M (.slice M.length 0 (dig 1000000000 (au 1000000000 A+au 1000000000 B)).length none) (M++[.cells true 1 (iN .u64 (dig 1000000000 (au 1000000000 A+au 1000000000 B)))]):=by
 have V:∃Z,aU Z=dig 1000000000 (au 1000000000 A+au 1000000000 B)∧kO prog 201 [.slice 0 0 A.length none,.slice 1 0 B.length none] [.cells false 1 (iN .u64 A),.cells false 1 (iN .u64 B)] (.slice 2 0 (aU Z).length none) [.cells false 1 (iN .u64 A),.cells false 1 (iN .u64 B),.cells true 1 (iN .u64 Z)]:=by
  by_cases U:A.length<B.length
  ·refine⟨uz 1000000000 B A 0,by rw[OJ (by omega) I H (by omega),Nat.add_comm],?_⟩
   have:=(ar aj (aI _) iA (aP _) (vJ A B B A 1 0 (.inr ⟨rfl,rfl,rfl,rfl,U⟩) I H W (by omega))).1;simpa [y9.mem] using this
  ·refine⟨uz 1000000000 A B 0,OJ (by omega) H I (by omega),?_⟩
   have:=(ar aj (aI _) iA (aP _) (vJ A B A B 0 1 (.inl ⟨rfl,rfl,rfl,rfl,U⟩) H I J (by omega))).1;simpa [y9.mem] using this
 obtain⟨Z,S,h⟩:=V;have R:=kO.agY (m:=[.cells false 1 (iN .u64 A),.cells false 1 (iN .u64 B)]) h (Cb (di Z));obtain⟨b,c,rfl,rfl,h3⟩:=kO.af1 (new:=[.cells true 1 (iN .u64 (aU Z))]) rfl R hx hy;rw[S] at h3;simpa [AV.ren,eL] using h3
theorem C8(B:Nat):∀(a b:List Nat) (c:Nat),(uT B a b c).length=a.length
 | [],_,_=>rfl
 |x::a,b,c=>by unfold uT;split<;>simp[C8 B a]
theorem Vw(B x:Nat)(a:List Nat)(c:Nat):uT B (x::a) [] c=if x<c then (x+B-c)::uT B a [] 1 else (x-c)::uT B a [] 0:=rfl
theorem Bj(A B:List Nat)(hA:lok 1000000000 A=true)(hB:lok 1000000000 B=true)(hl:A.length≤1000000000)(D':B.length≤A.length)(hK:A.length<K){b:Code}(H:ah f203=[b])(I:lv b=[15,5,6]):
  ∃F:Env→Bool→Env,∀Z d,(ab Z 1=.slice 1 0 B.length none∧ab Z 13=.slice 0 0 A.length none∧ab Z 14=.int .i64 A.length∧ab Z 5=.slice 2 0 0 none∧ab Z 6=.int .u64 0∧ab Z 15=.int .i64 0)→
   bh (ba prog) lv O K 45 2 true (.loop b) ⟨Z,gV A B 0 [],d⟩=some (.exit 0,⟨F Z d,gV A B A.length (uT 1000000000 A B 0),d⟩)∧ab (F Z d) 5=gF A.length:=by
 refine bj I (fun Z=>ab Z 1=.slice 1 0 B.length none∧ab Z 13=.slice 0 0 A.length none∧ab Z 14=.int .i64 A.length∧ab Z 5=.slice 2 0 0 none∧ab Z 6=.int .u64 0∧ab Z 15=.int .i64 0)
  (fun _ AC =>ab AC 5=gF A.length) ?_
 clear I;rintro Z d ⟨h1,h20,h21,h5,h6,h22⟩;simp[ah,aE,f203] at H;have hn:ay [15,5,6] (ad b) Z ((15,.int .i64 ((0:Nat):Int))::(5,gF 0)::(6,.int .u64 ((0:Nat):Int))::Z)=ay [15,5,6] (ad b) Z Z:=by simp[ay,h5,h6,h22,gF]
 rw[←hn];refine bx (α:=Nat×List Nat×Nat) (fun a=>⟨ay [15,5,6] (ad b) Z ((15,.int .i64 (a.1:Int))::(5,gF a.1)::(6,.int .u64 (a.2.2:Int))::Z),gV A B a.1 a.2.1,d⟩) (fun a=>A.length-a.1)
  (fun a=>a.1≤A.length∧a.2.1.length=a.1∧a.2.2≤1∧a.2.1++uT 1000000000 (A.drop a.1) (B.drop a.1) a.2.2=uT 1000000000 A B 0) (.exit 0) _ d _ (by simp) ?_ K (0,[],0) ⟨Nat.zero_le _,rfl,Nat.zero_le _,rfl⟩ (by simpa using hK)
 rintro ⟨i,done,c⟩ ⟨hi,hd,hc,H1⟩;simp only at hi hd hc H1;clear hn;subst H;by_cases W:i=A.length
 ·right
  subst W;rw[List.drop_length,uT,List.append_nil] at H1;rw[←H1];simp[h21]
 ·left
  have S:i<A.length:=by omega
  obtain⟨x,hx,R⟩:=cM S;have Ym:=ed hA hx;have eA:A.drop i=x::A.drop (i+1):=by rw[List.drop_eq_getElem_cons S,R]
  have w0:IntKind.i64.wrap 1=1:=by decide
  have w1:IntKind.i64.wrap ((i:Int)+1)=(i:Int)+1:=ae;have G:(i:Int)<(A.length:Int):=by omega
  have D:(i+1)*8≤140737488355328:=by omega
  have C:i+1≤140737488355328:=by omega
  have u:(iN .u64 done).take i=iN .u64 done:=List.take_of_length_le (by simp[hd]);have o:0<i→gV A B i done=[.cells false 1 (iN .u64 A),.cells false 1 (iN .u64 B),.qK,.cells true 1 (iN .u64 done)]:=fun h=>by cases i with
   |zero=>omega
   |succ i=>rfl
  have m:0<i→gF i=.slice 3 0 i none:=fun h=>by cases i with
   |zero=>omega
   |succ i=>rfl
  have j:i=0→done=[]:=fun h=>List.eq_nil_of_length_eq_zero (by omega)
  by_cases V:i<B.length
  ·obtain⟨y,hy,N⟩:=cM V
   have hyb:=ed hB hy;have J:B.drop i=y::B.drop (i+1):=by rw[List.drop_eq_getElem_cons V,N]
   rw[eA,J,uT,List.headD_cons,List.tail_cons] at H1;obtain⟨s,YM⟩:=xE (α:=Nat) (c+y);rw[←YM] at H1;have w2:IntKind.u64.wrap ((c:Int)+(y:Int))=(s:Int):=by rw[cC (by omega) (by omega)];omega
   by_cases U:x<s
   ·rw[if_pos U] at H1
    obtain⟨r,Q⟩:=xE (α:=Nat) (x+1000000000-s);rw[←Q] at H1;have w3:IntKind.u64.wrap ((x:Int)+1000000000)=(x:Int)+1000000000:=cC (by omega) (by omega);have w4:IntKind.u64.wrap ((x:Int)+1000000000-(s:Int))=(r:Int):=by rw[cC (by omega) (by omega)];omega
    refine⟨(i+1,done++[r],1),?_⟩;refine bt (r:=_∧_) (show(i+1≤A.length∧(done++[r]).length=i+1∧1≤1∧(done++[r])++uT 1000000000 (A.drop (i+1)) (B.drop (i+1)) 1=uT 1000000000 A B 0)∧A.length-(i+1)<A.length-i by refine⟨⟨by omega,by simp[hd],by omega,?_⟩,by omega⟩;rw[←H1];simp) ?_
    clear H1;rcases Nat.eq_zero_or_pos i with rfl | hpos
    ·obtain rfl:=j rfl
     simp[gV,gF,h1,h20,h21,R,N,S,V,w0,w2,w3,w4,U,ca]
    ·simp[o hpos,m hpos,jE,jF,kJ,h1,h20,h21,R,N,G,D,C,S,V,hd,w1,w2,w3,w4,U,u,dh,ca]
   ·rw[if_neg U] at H1
    obtain⟨r,Q⟩:=xE (α:=Nat) (x-s);rw[←Q] at H1;have w4:IntKind.u64.wrap ((x:Int)-(s:Int))=(r:Int):=by rw[cC (by omega) (by omega)];omega
    refine⟨(i+1,done++[r],0),?_⟩;refine bt (r:=_∧_) (show(i+1≤A.length∧(done++[r]).length=i+1∧0≤1∧(done++[r])++uT 1000000000 (A.drop (i+1)) (B.drop (i+1)) 0=uT 1000000000 A B 0)∧A.length-(i+1)<A.length-i by refine⟨⟨by omega,by simp[hd],by omega,?_⟩,by omega⟩;rw[←H1];simp) ?_
    clear H1;rcases Nat.eq_zero_or_pos i with rfl | hpos
    ·obtain rfl:=j rfl
     simp[gV,gF,h1,h20,h21,R,N,S,V,w0,w2,w4,U,ca]
    ·simp[o hpos,m hpos,jE,jF,kJ,h1,h20,h21,R,N,G,D,C,S,V,hd,w1,w2,w4,U,u,dh,ca]
  ·have J:B.drop i=[]:=List.drop_eq_nil_of_le (by omega)
   have L:B.drop (i+1)=[]:=List.drop_eq_nil_of_le (by omega);rw[eA,J,Vw] at H1;by_cases U:x<c
   ·rw[if_pos U] at H1
    obtain⟨r,Q⟩:=xE (α:=Nat) (x+1000000000-c);rw[←Q] at H1;have w3:IntKind.u64.wrap ((x:Int)+1000000000)=(x:Int)+1000000000:=cC (by omega) (by omega);have w4:IntKind.u64.wrap ((x:Int)+1000000000-(c:Int))=(r:Int):=by rw[cC (by omega) (by omega)];omega
    refine⟨(i+1,done++[r],1),?_⟩;refine bt (r:=_∧_) (show(i+1≤A.length∧(done++[r]).length=i+1∧1≤1∧(done++[r])++uT 1000000000 (A.drop (i+1)) (B.drop (i+1)) 1=uT 1000000000 A B 0)∧A.length-(i+1)<A.length-i by refine⟨⟨by omega,by simp[hd],by omega,?_⟩,by omega⟩;rw[←H1,L];simp) ?_
    clear H1;rcases Nat.eq_zero_or_pos i with rfl | hpos
    ·obtain rfl:=j rfl
     simp[gV,gF,h1,h20,h21,R,S,V,w0,w3,w4,U,ca]
    ·simp[o hpos,m hpos,jE,jF,kJ,h1,h20,h21,R,G,D,C,S,V,hd,w1,w3,w4,U,u,dh,ca]
   ·rw[if_neg U] at H1
    obtain⟨r,Q⟩:=xE (α:=Nat) (x-c);rw[←Q] at H1;have w4:IntKind.u64.wrap ((x:Int)-(c:Int))=(r:Int):=by rw[cC (by omega) (by omega)];omega
    refine⟨(i+1,done++[r],0),?_⟩;refine bt (r:=_∧_) (show(i+1≤A.length∧(done++[r]).length=i+1∧0≤1∧(done++[r])++uT 1000000000 (A.drop (i+1)) (B.drop (i+1)) 0=uT 1000000000 A B 0)∧A.length-(i+1)<A.length-i by refine⟨⟨by omega,by simp[hd],by omega,?_⟩,by omega⟩;rw[←H1,L];simp) ?_
    clear H1;rcases Nat.eq_zero_or_pos i with rfl | hpos
    ·obtain rfl:=j rfl
     simp[gV,gF,h1,h20,h21,R,S,V,w0,w4,U,ca]
    ·simp[o hpos,m hpos,jE,jF,kJ,h1,h20,h21,R,G,D,C,S,V,hd,w1,w4,U,u,dh,ca]
theorem DJ(A B:List Nat)(H:lok 1000000000 A=true)(I:lok 1000000000 B=true)(hl:A.length≤100000000)(J:B.length≤A.length):
  aa (ba prog) (fun _=>[15,5,6]) (aT prog) bE (A.length+1) 203 [.slice 0 0 A.length none,.slice 1 0 B.length none] [.cells false 1 (iN .u64 A),.cells false 1 (iN .u64 B)]=
   some ⟨.slice 2 0 (aU (uT 1000000000 A B 0)).length none,none,[.cells true 1 (iN .u64 (uT 1000000000 A B 0))]⟩:=by
 have L:aT prog 203=some f203:=by kernel_rfl
 obtain⟨b,S⟩:∃b,ah f203=[b]:=⟨_,rfl⟩
 have V:=C8 1000000000 A B 0;obtain⟨F,Z⟩:=Bj (O:=bE) (K:=A.length+1) (lv:=fun _=>[15,5,6]) A B H I (by omega) J (by omega) S rfl;simp[ah,aE,f203] at S;subst S;obtain⟨G,ZR⟩:=xE (α:=Int) (A.length:Int);have h0:0≤(A.length:Int):=by omega
 have D:8*(A.length:Int)≤281474976710656:=by omega
 have C:(A.length:Int)≤281474976710656:=by omega
 obtain⟨U,u⟩:=xE (uT 1000000000 A B 0);rw[←u] at V Z ⊢;rcases Nat.eq_zero_or_pos A.length with hz | hpos
 ·have o:=List.eq_nil_of_length_eq_zero hz
  have R:B=[]:=List.eq_nil_of_length_eq_zero (by omega);subst o;subst R;have Q:U=[]:=List.eq_nil_of_length_eq_zero (by simpa using V);subst Q;simp only[List.length_nil,gV,gF,Nat.zero_add,Int.cast_ofNat_Int,OP] at Z;have N:aW .u64 [.cells false 1 [],.cells false 1 [],.cells true 1 []] (.slice 2 0 0 none)=some []:=by rfl
  simp[aa,L,f203,Z,bE,N,aU]
 ·have m:∀done,gV A B A.length done=[.cells false 1 (iN .u64 A),.cells false 1 (iN .u64 B),.qK,.cells true 1 (iN .u64 done)]:=fun done=>by
   cases h:A.length with
   |zero=>omega
   |succ i=>rfl
  have j:gF A.length=.slice 3 0 A.length none:=by
   cases h:A.length with
   |zero=>omega
   |succ i=>rfl
  rw[m,j] at Z;simp only[gV] at Z;have N:aW .u64 [.cells false 1 (iN .u64 A),.cells false 1 (iN .u64 B),.qK,.cells true 1 (iN .u64 U)] (.slice 3 0 A.length none)=some U:=
   aR rfl (by simp[V]) (List.take_of_length_le (by simp[V]))
  have W:U.length≤1000000000:=by omega
  simp[aa,L,f203,D,C,Z,bE,N,W]
theorem Hy{A B:List Nat}(H:lok 1000000000 A=true)(I:lok 1000000000 B=true)(W:A.length≤100000000)(J:B.length≤A.length)(Ya:au 1000000000 B≤au 1000000000 A)(hx:afi .u64 M x A)(hy:afi .u64 M y B):
  kO prog 203 [x,y] M (.slice M.length 0 (dig 1000000000 (au 1000000000 A-au 1000000000 B)).length none) (M++[.cells true 1 (iN .u64 (dig 1000000000 (au 1000000000 A-au 1000000000 B)))]):=by
 obtain⟨S,Z⟩:=Cp (B:=1000000000) (by omega) A B 0 H I (by omega) J (by omega);have V:aU (uT 1000000000 A B 0)=dig 1000000000 (au 1000000000 A-au 1000000000 B):=by rw[←dC (by omega) Z];congr 1;omega
 have:=(ar aj (aI _) iA (aP _) (DJ A B H I W J)).1;simp only[y9.mem,Option.getD_none,List.cons_append,List.nil_append] at this;have U:=kO.agY (m:=[.cells false 1 (iN .u64 A),.cells false 1 (iN .u64 B)]) this (Cb (di _));obtain⟨b,c,rfl,rfl,h3⟩:=kO.af1 (new:=[.cells true 1 (iN .u64 (aU (uT 1000000000 A B 0)))]) rfl U hx hy;rw[V] at h3;simpa [AV.ren,eL] using h3
end Go.Proofs
