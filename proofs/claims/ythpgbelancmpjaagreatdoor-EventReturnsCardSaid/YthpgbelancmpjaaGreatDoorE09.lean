/- See E54. -/
import Derived.Test.YthpgbelancmpjaaGreatDoorE08
set_option linter.all false
namespace Go.Eng
def aF(B:Nat):List Nat→Nat
 | []=>0
 |d::l=>d+B*aF B l
def lok(B:Nat)(l:List Nat):Bool:=l.all fun d=>decide (d<B)
def bD:List Nat→List Nat
 | []=>[]
 |d::l=>match bD l with
  | []=>if d=0 then [] else [d]
  |x::r=>d::x::r
def Th(B:Nat):Nat→Nat→List Nat
 |0,_=>[]
 |f+1,n=>if n=0 then [] else n%B::Th B f (n / B)
def dig(B n:Nat):List Nat:=Th B (n.log2+1) n
theorem Ry{B:Nat}(H:2≤B):∀(f g n:Nat),n<2 ^ f→n<2 ^ g→Th B f n=Th B g n
 |0,g,n,h,_=>by
  have:n=0:=by simp at h;omega
  subst this;cases g<;>simp[Th]
 |f+1,0,n,_,h=>by
  have:n=0:=by simp at h;omega
  subst this;simp[Th]
 |f+1,g+1,n,h1,h2=>by
  unfold Th;by_cases Z:n=0
  ·rw[if_pos Z,if_pos Z]
  ·rw[if_neg Z,if_neg Z]
   have h:n / B≤n / 2:=Nat.div_le_div_left H (by omega);rw[Nat.pow_succ] at h1 h2;rw[Ry H f g (n / B) (by omega) (by omega)]
theorem eF(B:Nat):dig B 0=[]:=by simp[dig,Th]
variable{B n:Nat}
section
variable (hB:2≤B)
include hB
theorem xz(H:n≠0):dig B n=n%B::dig B (n / B):=by
 have Z:n<2 ^ (n.log2+1):=Nat.lt_log2_self;have X:n / B<2 ^ ((n / B).log2+1):=Nat.lt_log2_self;have h:n / B≤n / 2:=Nat.div_le_div_left hB (by omega);show Th B (n.log2+1) n=_
 rw[Th,if_neg H];congr 1;exact Ry hB _ _ _ (by rw[Nat.pow_succ] at Z;omega) X
theorem MT{p:Nat→Prop}(h0:p 0)(h1:∀n,n≠0→p (n / B)→p n)(n:Nat):p n:=by
 induction n using Nat.strongRecOn with
 |_ n ih=>
  by_cases Z:n=0
  ·subst Z;exact h0
  ·exact h1 n Z (ih (n / B) (Nat.div_lt_self (by omega) hB))
theorem ct(n:Nat):aF B (dig B n)=n:=by
 induction n using MT hB with
 |h0=>rw[eF];rfl
 |h1 n hn ih=>
  rw[xz hB hn,aF,ih];have:=Nat.mod_add_div n B;omega
theorem cR(n:Nat):lok B (dig B n)=true:=by
 induction n using MT hB with
 |h0=>rw[eF];rfl
 |h1 n hn ih=>
  rw[xz hB hn];unfold lok at ih ⊢;rw[List.all_cons,ih];simp[Nat.mod_lt n (show 0<B by omega)]
end
theorem ix(B:Nat):∀(l r:List Nat),aF B (l++r)=aF B l+B ^ l.length*aF B r
 | [],r=>by simp[aF]
 |d::l,r=>by rw[List.cons_append,aF,aF,ix B l r,List.length_cons,Nat.pow_succ,Nat.mul_add,Nat.mul_comm (B ^ l.length) B,Nat.mul_assoc];omega
theorem iy{B:Nat}:∀{l:List Nat},lok B l=true→aF B l<B ^ l.length
 | [],_=>by simp[aF]
 |d::l,h=>by unfold lok at h;simp only[List.all_cons,Bool.and_eq_true,decide_eq_true_eq] at h;have:=iy (l:=l) h.2;rw[aF,List.length_cons,Nat.pow_succ];have Z:B*(aF B l+1)≤B*B ^ l.length:=Nat.mul_le_mul_left _ this;rw[Nat.mul_add] at Z;rw[Nat.mul_comm (B ^ l.length) B];omega
theorem DQ(B:Nat):∀l:List Nat,aF B (bD l)=aF B l
 | []=>rfl
 |d::l=>by
  have Z:=DQ B l;unfold bD;split
  ·rename_i h
   rw[h] at Z;rw[aF,←Z];split
   next X=>subst X;simp[aF]
   ·simp[aF]
  ·rename_i x r h
   rw[h] at Z;show d+B*aF B (x::r)=d+B*aF B l
   rw[Z]
theorem sk(H:2≤B):dig B n=[]↔n=0:=by
 constructor
 ·intro h
  by_cases Z:n=0
  ·exact Z
  ·rw[xz H Z] at h;cases h
 ·rintro rfl;exact eF B
theorem fM{B:Nat}(H:2≤B):∀{l:List Nat},lok B l=true→dig B (aF B l)=bD l
 | [],_=>eF B
 |d::l,h=>by
  unfold lok at h;simp only[List.all_cons,Bool.and_eq_true,decide_eq_true_eq] at h;have Z:=fM H (l:=l) h.2;have R:aF B (d::l)=d+B*aF B l:=rfl;have X:(d+B*aF B l) / B=aF B l:=by rw[Nat.add_mul_div_left _ _ (by omega),Nat.div_eq_of_lt h.1,Nat.zero_add]
  have V:(d+B*aF B l)%B=d:=by rw[Nat.add_mul_mod_self_left,Nat.mod_eq_of_lt h.1]
  rw[R];unfold bD;split
  ·rename_i U
   rw[U] at Z;have O:=(sk H).1 Z;rw[O];split
   next S=>subst S;exact eF B
   ·rename_i S
    rw[xz H (by omega),Nat.mul_zero,Nat.add_zero,Nat.mod_eq_of_lt h.1,Nat.div_eq_of_lt h.1,eF]
  ·rename_i x r U
   rw[U] at Z;have N:aF B l≠0:=by intro e;rw[e,eF] at Z;cases Z
   have:d+B*aF B l≠0:=by have:0<B*aF B l:=Nat.mul_pos (by omega) (by omega);omega
   rw[xz H this,X,V,Z]
theorem dv(H:2≤B)(n:Nat):bD (dig B n)=dig B n:=by rw[←fM H (cR H n),ct H]
theorem iO:∀l:List Nat,bD (l++[0])=bD l
 | []=>rfl
 |d::l=>by rw[List.cons_append,bD,iO l,bD]
theorem DP{d:Nat}(hd:d≠0):∀l:List Nat,bD (l++[d])=l++[d]
 | []=>by simp[bD,hd]
 |c::l=>by rw[List.cons_append,bD,DP hd l];cases l<;>rfl
theorem dw:∀l:List Nat,(bD l).length≤l.length
 | []=>Nat.le_refl _
 |d::l=>by
  have:=dw l;unfold bD;split
  ·split<;>simp
  ·rename_i x r h
   rw[h] at this;simp only[List.length_cons] at this ⊢;omega
theorem jL:∀l:List Nat,bD l=l.take (bD l).length
 | []=>rfl
 |d::l=>by
  have:=jL l;unfold bD;split
  ·split<;>simp
  ·rename_i x r h
   rw[h] at this;rw[List.length_cons,List.take_succ_cons,←this]
section
variable (hB:2≤B)
include hB
theorem xx(n:Nat):n<B ^ (dig B n).length:=by
 have:=iy (cR hB n)
 rwa [ct hB] at this
theorem sE(n:Nat)(H:n≠0):B ^ ((dig B n).length-1)≤n:=by
 induction n using MT hB with
 |h0=>exact absurd rfl H
 |h1 n _ ih=>
  rw[xz hB H,List.length_cons,Nat.add_sub_cancel];by_cases h0:n / B=0
  ·rw[h0,eF];simp;omega
  ·have:=ih h0
   have Z:0<(dig B (n / B)).length:=by
    cases h:dig B (n / B) with
    |nil=>exact absurd ((sk hB).1 h) h0
    |cons=>simp
   have e:B ^ (dig B (n / B)).length=B*B ^ ((dig B (n / B)).length-1):=by rw[Nat.mul_comm,←Nat.pow_succ];congr 1;omega
   rw[e];exact Nat.le_trans (Nat.mul_le_mul_left _ this) (Nat.mul_div_le n B)
theorem ez{m:Nat}(h:(dig B m).length<(dig B n).length):m<n:=by
 have Z:n≠0:=by rintro rfl;rw[eF] at h;simp at h
 have X:=xx hB m;have V:=sE hB n Z;have h3:B ^ (dig B m).length≤B ^ ((dig B n).length-1):=Nat.pow_le_pow_right (by omega) (by omega);omega
theorem fL{k:Nat}(h:n<B ^ k):(dig B n).length≤k:=by
 by_cases Z:n=0
 ·subst Z;rw[eF];simp
 ·have V:=sE hB n Z
  have X:B ^ ((dig B n).length-1)<B ^ k:=by omega
  have:=(Nat.pow_lt_pow_iff_right (by omega:1<B)).1 X;omega
end
variable{d:Nat}{l:List Nat}
theorem ga(h:lok B l=true){i:Nat}(H:l[i]? =some d):d<B:=by have:=List.all_eq_true.1 h d (List.mem_of_getElem? H);simpa using this
variable{r:List Nat}
theorem ss:lok B (l++r)=(lok B l&&lok B r):=by simp[lok,List.all_append]
theorem cU:lok B (d::r)=(decide (d<B)&&lok B r):=rfl
theorem jv(h:lok B l=true)(k:Nat):lok B (l.take k)=true:=by unfold lok at h ⊢;rw[List.all_eq_true] at h ⊢;exact fun d Z=>h d (List.mem_of_mem_take Z)
theorem kc(h:lok B l=true)(k:Nat):lok B (l.drop k)=true:=by unfold lok at h ⊢;rw[List.all_eq_true] at h ⊢;exact fun d Z=>h d (List.mem_of_mem_drop Z)
def um(B:Nat):List Nat→List Nat→Nat→List Nat
 | [],_,c=>[c]
 |x::a,b,c=>(c+x+b.headD 0)%B::um B a b.tail ((c+x+b.headD 0) / B)
theorem Ko(B:Nat)(b:List Nat):aF B b=b.headD 0+B*aF B b.tail:=by cases b<;>simp[aF]
theorem Kn(B:Nat):∀(a b:List Nat) (c:Nat),b.length≤a.length→aF B (um B a b c)=aF B a+aF B b+c
 | [],b,c,h=>by have:b=[]:=List.eq_nil_of_length_eq_zero (by simpa using h);subst this;simp[um,aF]
 |x::a,b,c,h=>by
  have Z:b.tail.length≤a.length:=by simp at h ⊢;omega
  rw[um,aF,Kn B a b.tail _ Z,Ko B b,aF];have:=Nat.mod_add_div (c+x+b.headD 0) B;rw[Nat.mul_add,Nat.mul_add];omega
variable{b:List Nat}
theorem Kl(H:0<B)(h:lok B b=true):b.headD 0<B:=by
 cases b with
 |nil=>exact H
 |cons d b=>rw[cU,Bool.and_eq_true,decide_eq_true_eq] at h;exact h.1
theorem N4(h:lok B b=true):lok B b.tail=true:=by
 cases b with
 |nil=>rfl
 |cons d b=>rw[cU,Bool.and_eq_true] at h;exact h.2
theorem N3{B:Nat}(H:2≤B):∀(a b:List Nat) (c:Nat),lok B a=true→lok B b=true→c≤1→lok B (um B a b c)=true
 | [],b,c,_,_,hc=>by simp[um,lok];omega
 |x::a,b,c,ha,hb,hc=>by
  rw[cU,Bool.and_eq_true,decide_eq_true_eq] at ha;have Z:=Kl (by omega) hb;rw[um,cU,Bool.and_eq_true,decide_eq_true_eq];refine⟨Nat.mod_lt _ (by omega),N3 H a _ _ ha.2 (N4 hb) ?_⟩;have:(c+x+b.headD 0) / B<2:=by rw[Nat.div_lt_iff_lt_mul (by omega)];omega
  omega
def uH(B:Nat):List Nat→List Nat→Nat→List Nat
 | [],_,_=>[]
 |x::a,b,c=>if x<c+b.headD 0 then (x+B-(c+b.headD 0))::uH B a b.tail 1 else (x-(c+b.headD 0))::uH B a b.tail 0
theorem BI{B:Nat}(H:2≤B):∀(a b:List Nat) (c:Nat),lok B a=true→lok B b=true→c≤1→b.length≤a.length→aF B b+c≤aF B a→
  aF B (uH B a b c)+aF B b+c=aF B a∧lok B (uH B a b c)=true
 | [],b,c,_,_,_,h,h2=>by have:b=[]:=List.eq_nil_of_length_eq_zero (by simpa using h);subst this;simp only[aF] at h2;simp only[uH,aF];exact⟨by omega,rfl⟩
 |x::a,b,c,ha,hb,hc,h,h2=>by
  have U:b.tail.length≤a.length:=by simp at h ⊢;omega
  rw[cU,Bool.and_eq_true,decide_eq_true_eq] at ha;have R:=Kl (by omega) hb;have Z:=N4 hb;rw[Ko B b] at h2 ⊢;rw[aF] at h2 ⊢;unfold uH;split
  ·rename_i S
   have h3:aF B b.tail+1≤aF B a:=by
    have:B*aF B b.tail<B*aF B a:=by omega
    have:=Nat.lt_of_mul_lt_mul_left this;omega
   obtain⟨X,V⟩:=BI H a b.tail 1 ha.2 Z (by omega) U h3;have e:B*aF B a=B*aF B (uH B a b.tail 1)+B*aF B b.tail+B:=by rw[←X,Nat.mul_add,Nat.mul_add,Nat.mul_one]
   rw[aF,cU,V,Bool.and_true,decide_eq_true_eq,e];exact⟨by omega,by omega⟩
  ·rename_i S
   have h3:aF B b.tail+0≤aF B a:=by
    have:B*aF B b.tail<B*aF B a+B:=by omega
    rw[←Nat.mul_succ] at this;have:=Nat.lt_of_mul_lt_mul_left this;omega
   obtain⟨X,V⟩:=BI H a b.tail 0 ha.2 Z (by omega) U h3;have e:B*aF B a=B*aF B (uH B a b.tail 0)+B*aF B b.tail:=by rw[←X,Nat.mul_add,Nat.mul_add,Nat.mul_zero,Nat.add_zero]
   rw[aF,cU,V,Bool.and_true,decide_eq_true_eq,e];exact⟨by omega,by omega⟩
def iJ(B:Nat):List Nat→Nat→List Nat
 | [],_=>[]
 |o::l,c=>if c=0 then o::l else (c+o)%B::iJ B l ((c+o) / B)
def Qi(B x:Nat):List Nat→List Nat→Nat→List Nat
 |o,[],c=>iJ B o c
 | [],_::_,_=>[]
 |o::l,y::b,c=>(c+(o+x*y))%B::Qi B x l b ((c+(o+x*y)) / B)
theorem vN(B:Nat):∀(o:List Nat) (c:Nat),(iJ B o c).length=o.length
 | [],_=>rfl
 |o::l,c=>by
  unfold iJ;split
  ·rfl
  ·simp[vN B l]
theorem ux(B x:Nat):∀(o b:List Nat) (c:Nat),(Qi B x o b c).length=o.length
 |o,[],c=>by cases o<;>exact vN B _ c
 | [],_::_,_=>rfl
 |o::l,y::b,c=>by simp[Qi,ux B x l b]
theorem BG{B:Nat}(H:2≤B):∀(o:List Nat) (c:Nat),lok B o=true→aF B o+c<B ^ o.length→aF B (iJ B o c)=aF B o+c∧lok B (iJ B o c)=true
 | [],c,_,h=>by simp only[aF,List.length_nil,Nat.pow_zero] at h;simp only[iJ,aF];exact⟨by omega,rfl⟩
 |o::l,c,ho,h=>by
  unfold iJ;split
  next Z=>subst Z;exact⟨by omega,ho⟩
  ·rw[cU,Bool.and_eq_true,decide_eq_true_eq] at ho
   have X:=Nat.mod_add_div (c+o) B;rw[aF,List.length_cons,Nat.pow_succ,Nat.mul_comm (B ^ l.length)] at h;have V:aF B l+(c+o) / B<B ^ l.length:=by
    have:B*(aF B l+(c+o) / B)<B*B ^ l.length:=by rw[Nat.mul_add];omega
    exact Nat.lt_of_mul_lt_mul_left this
   obtain⟨U,S⟩:=BG H l _ ho.2 V;rw[aF,aF,U,cU,S,Nat.mul_add];refine⟨by omega,?_⟩;simp[Nat.mod_lt (c+o) (show 0<B by omega)]
theorem BH{B:Nat}(H:2≤B)(x:Nat):∀(o b:List Nat) (c:Nat),lok B o=true→aF B o+x*aF B b+c<B ^ o.length→
  b.length≤o.length→aF B (Qi B x o b c)=aF B o+x*aF B b+c∧lok B (Qi B x o b c)=true
 |o,[],c,ho,h,_=>by
  simp only[aF,Nat.mul_zero,Nat.add_zero] at h ⊢;have:Qi B x o [] c=iJ B o c:=by cases o<;>rfl
  rw[this];exact BG H o c ho h
 | [],y::b,c,_,_,hl=>by simp at hl
 |o::l,y::b,c,ho,h,hl=>by
  rw[cU,Bool.and_eq_true,decide_eq_true_eq] at ho;have Z:=Nat.mod_add_div (c+(o+x*y)) B;have e:x*(y+B*aF B b)=x*y+B*(x*aF B b):=by rw[Nat.mul_add,←Nat.mul_assoc,←Nat.mul_assoc,Nat.mul_comm x B]
  rw[aF,aF,e,List.length_cons,Nat.pow_succ,Nat.mul_comm (B ^ l.length)] at h;have X:aF B l+x*aF B b+(c+(o+x*y)) / B<B ^ l.length:=by
   have:B*(aF B l+x*aF B b+(c+(o+x*y)) / B)<B*B ^ l.length:=by rw[Nat.mul_add,Nat.mul_add];omega
   exact Nat.lt_of_mul_lt_mul_left this
  obtain⟨V,U⟩:=BH H x l b _ ho.2 X (by simpa using hl);rw[Qi,aF,V,cU,U,aF,aF,e,Nat.mul_add,Nat.mul_add];refine⟨by omega,?_⟩;simp[Nat.mod_lt (c+(o+x*y)) (show 0<B by omega)]
def rM(B:Nat):List Nat→List Nat→List Nat→List Nat
 | [],_,o=>o
 |x::a,b,o=>match Qi B x o b 0 with
  | []=>[]
  |d::r=>d::rM B a b r
theorem DR{B:Nat}(H:2≤B):∀(a b o:List Nat),lok B o=true→aF B o+aF B a*aF B b<B ^ o.length→a.length+b.length≤o.length→
  aF B (rM B a b o)=aF B o+aF B a*aF B b∧lok B (rM B a b o)=true∧(rM B a b o).length=o.length
 | [],b,o,ho,h,_=>by simp only[rM,aF,Nat.zero_mul,Nat.add_zero];exact⟨trivial,ho,trivial⟩
 |x::a,b,o,ho,h,hl=>by
  have e:(x+B*aF B a)*aF B b=x*aF B b+B*(aF B a*aF B b):=by rw[Nat.add_mul,Nat.mul_assoc]
  rw[aF,e] at h;have V :a.length+1+b.length≤o.length:=by simpa using hl
  obtain⟨r1,r2⟩:=BH H x o b 0 ho (by omega) (by omega);have Z:=ux B x o b 0;unfold rM;split
  next X=>rw[X] at Z;simp at Z;omega
  ·rename_i d r X
   rw[X] at r1 r2 Z;rw[cU,Bool.and_eq_true,decide_eq_true_eq] at r2;simp only[List.length_cons] at Z;rw[aF] at r1;have U:aF B r+aF B a*aF B b<B ^ r.length:=by
    have:B*(aF B r+aF B a*aF B b)<B*B ^ r.length:=by rw[Nat.mul_comm B (B ^ r.length),←Nat.pow_succ,show r.length.succ=o.length from Z,Nat.mul_add];omega
    exact Nat.lt_of_mul_lt_mul_left this
   obtain⟨S,R,O⟩:=DR H a b r r2.2 U (by omega);rw[aF,S,cU,R,List.length_cons,O,aF,e,Nat.mul_add];exact⟨by omega,by simp[r2.1],Z⟩
theorem P8(H:2≤B){a:List Nat}(I:lok B a=true)(J:lok B b=true):
  aF B (rM B a b (List.replicate (a.length+b.length+1) 0))=aF B a*aF B b∧lok B (rM B a b (List.replicate (a.length+b.length+1) 0))=true∧
   (rM B a b (List.replicate (a.length+b.length+1) 0)).length=a.length+b.length+1:=by
 have X:∀n,aF B (List.replicate n 0)=0:=by
  intro n;induction n with
  |zero=>rfl
  |succ n ih=>rw[List.replicate_succ,aF,ih];simp
 have Z:∀n,lok B (List.replicate n 0)=true:=by intro n;unfold lok;rw[List.all_eq_true];intro d V;rw[List.mem_replicate] at V;simp[V.2];omega
 have h:aF B a*aF B b<B ^ (a.length+b.length+1):=by have U:=iy I;have S:=iy J;have h3:aF B a*aF B b<B ^ a.length*B ^ b.length:=Nat.mul_lt_mul_of_lt_of_lt U S;rw[←Nat.pow_add] at h3;have R:B ^ (a.length+b.length)≤B ^ (a.length+b.length+1):=Nat.pow_le_pow_right (by omega) (by omega);omega
 have:=DR H a b (List.replicate (a.length+b.length+1) 0) (Z _) (by rw[X,Nat.zero_add,List.length_replicate];exact h) (by rw[List.length_replicate];omega)
 rwa [X,Nat.zero_add,List.length_replicate] at this
def gR(B d:Nat):List Nat→List Nat×Nat
 | []=>([],0)
 |x::l=>let p:=gR B d l;((p.2*B+x) / d::p.1,(p.2*B+x)%d)
theorem Bp{B d:Nat}(hd:0<d)(H:d<B):∀l:List Nat,lok B l=true→(gR B d l).2<d∧aF B (gR B d l).1*d+(gR B d l).2=aF B l∧lok B (gR B d l).1=true∧(gR B d l).1.length=l.length
 | [],_=>by simp[gR,aF,lok,hd]
 |x::l,h=>by
  rw[cU,Bool.and_eq_true,decide_eq_true_eq] at h;obtain⟨X,V,U,S⟩:=Bp hd H l h.2;simp only[gR];have Z:=Nat.mod_add_div ((gR B d l).2*B+x) d;refine⟨Nat.mod_lt _ hd,?_,?_,by simp[S]⟩
  ·rw[aF,aF,←V,Nat.add_mul,Nat.mul_add]
   rw[Nat.mul_comm d] at Z;rw[Nat.mul_assoc,Nat.mul_comm B (gR B d l).2];omega
  ·rw[cU,Bool.and_eq_true,decide_eq_true_eq]
   refine⟨?_,U⟩;rw[Nat.div_lt_iff_lt_mul hd];have h3:((gR B d l).2+1)*B≤d*B:=Nat.mul_le_mul_right _ X;rw[Nat.add_mul] at h3;rw[Nat.mul_comm B d];omega
theorem Ur{p D top r b q:Nat}(hr:r<(D+1)*p)(H:top*p≤b)(hq:q*b≤r)(I:0<top):q≤D / top:=by
 rw[Nat.le_div_iff_mul_le I];have X:q*(top*p)≤q*b:=Nat.mul_le_mul_left _ H;have Z:(q*top)*p<(D+1)*p:=by rw[Nat.mul_assoc];omega
 have:=Nat.lt_of_mul_lt_mul_right Z;omega
end Go.Eng
namespace Go.Proofs
open Go.Eng
open Tryz
variable{A:List Nat}
theorem BF{n:Nat}(h:A[n]? =some 0):bD (A.take (n+1))=bD (A.take n):=by rw[List.take_add_one,h];exact iO _
theorem BE{n d:Nat}(h:A[n]? =some d)(hd:d≠0):bD (A.take (n+1))=A.take (n+1):=by rw[List.take_add_one,h];exact DP hd _
variable{K:Nat}{O:y9}{lv:Code→List Nat}
theorem CY(A:List Nat)(W:A.length≤1000000000)(J:A.length<K){b:Code}(H:ah f253=[b])(I:lv b=[0]):
  ∃F:Env→Bool→Env,∀Z d,ad Z 0=.slice 0 0 A.length none→
   aS (aV prog) lv O K 21 1 true (.loop b) ⟨Z,[.cells false 1 (iN .u64 A)],d⟩=some (.exit 0,⟨F Z d,[.cells false 1 (iN .u64 A)],d⟩)∧ad (F Z d) 0=.slice 0 0 (bD A).length none:=by
 refine bw I (fun Z=>ad Z 0=.slice 0 0 A.length none) (fun _ L =>ad L 0=.slice 0 0 (bD A).length none) ?_;clear I;intro Z d G;simp[ah,aG,f253] at H;have S:aw [0] (ae b) Z ((0,.slice 0 0 A.length none)::Z)=aw [0] (ae b) Z Z:=by simp[aw,G]
 rw[←S];refine bO (α:=Nat) (fun n=>⟨aw [0] (ae b) Z ((0,.slice 0 0 n none)::Z),[.cells false 1 (iN .u64 A)],d⟩) id (fun n=>n≤A.length∧bD (A.take n)=bD A) (.exit 0) _ d _ (by simp) ?_ K A.length ⟨Nat.le_refl _,by rw[List.take_length]⟩ J;rintro n ⟨Y9,Z4⟩;clear S;subst H;cases n with
 |zero=>
  right;rw[←Z4];simp[bD]
 |succ n=>
  have D:n<A.length:=by omega
  obtain⟨x,V⟩:∃x,A[n]? =some x:=⟨A[n],by simp[D]⟩
  have R:IntKind.i64.wrap (n:Int)=(n:Int):=af;have N:(n:Int)<(n:Int)+1:=by omega
  have M:0<(n:Int)+1:=by omega
  by_cases X:x=0
  ·subst X
   left;refine⟨n,?_⟩;have h3:(n:Int)≤(n:Int)+1:=by omega
   have U:n+1≤A.length:=by omega
   simp[R,N,M,h3,U,V];exact⟨by omega,by rw[←BF V];exact Z4⟩
  ·right
   rw[←Z4,BE V X];have U:min (n+1) A.length=n+1:=by omega
   simp[R,N,M,U,V,X]
theorem O2(A:List Nat)(H:A.length≤1000000000):kO prog 253 [.slice 0 0 A.length none] [.cells false 1 (iN .u64 A)] (.slice 0 0 (bD A).length none) [.cells false 1 (iN .u64 A)]:=by
 have X:aT prog 253=some f253:=by kernel_rfl
 obtain⟨b,Z⟩:∃b,ah f253=[b]:=⟨_,rfl⟩
 obtain⟨F,V⟩:=CY (O:=cu) (K:=A.length+1) (lv:=fun _=>[0]) A H (by omega) Z rfl;simp[ah,aG,f253] at Z;subst Z;refine ca (lv:=(fun _=>[0])) (K:=(A.length+1)) (az _) ?_;simp[aa,X,f253,V]
variable{X Y:List Nat}
theorem VG{B n a b:Nat}(I:lok B X=true)(J:lok B Y=true)(H':X.length=Y.length)(hd:X.drop (n+1)=Y.drop (n+1))(H:X[n]? =some a)(W:Y[n]? =some b)(YC:a≠b):
  jG (aF B X) (aF B Y)=if a<b then -1 else 1:=by
 have F:n<X.length:=gL H;have U:X=X.take n++([a]++X.drop (n+1)):=by
  conv=>lhs;rw[←List.take_append_drop (n+1) X,List.take_add_one,H]
  simp
 have S:Y=Y.take n++([b]++Y.drop (n+1)):=by
  conv=>lhs;rw[←List.take_append_drop (n+1) Y,List.take_add_one,W]
  simp
 have R:=iy (jv I n);have N:=iy (jv J n);have Z:(X.take n).length=n:=by simp;omega
 have V:(Y.take n).length=n:=by simp;omega
 rw[Z] at R;rw[V] at N;have M:aF B X=aF B (X.take n)+B ^ n*(a+B*aF B (X.drop (n+1))):=by
  conv=>lhs;rw[U,ix,ix,Z]
  simp[aF]
 have L:aF B Y=aF B (Y.take n)+B ^ n*(b+B*aF B (X.drop (n+1))):=by
  conv=>lhs;rw[S,ix,ix,V,←hd]
  simp[aF]
 rw[M,L];generalize B*aF B (X.drop (n+1))=D;generalize B ^ n=p at*;split
 ·rename_i G
  have:p*(a+D+1)≤p*(b+D):=Nat.mul_le_mul_left _ (by omega);rw[Nat.mul_add,Nat.mul_one] at this;unfold jG;rw[if_pos (by omega)]
 ·rename_i G
  have:p*(b+D+1)≤p*(a+D):=Nat.mul_le_mul_left _ (by omega);rw[Nat.mul_add,Nat.mul_one] at this;unfold jG;rw[if_neg (by omega),if_pos (by omega)]
theorem Rz{n a:Nat}(h:X.drop (n+1)=Y.drop (n+1))(H:X[n]? =some a)(I:Y[n]? =some a):X.drop n=Y.drop n:=by have Z:n<X.length:=gL H;have V:n<Y.length:=gL I;rw[List.drop_eq_getElem_cons Z,List.drop_eq_getElem_cons V,h];have:=(List.getElem?_eq_some_iff.1 H).2;have:=(List.getElem?_eq_some_iff.1 I).2;simp_all
theorem AO(A B:List Nat)(W:lok 1000000000 A=true)(hB:lok 1000000000 B=true)(hl:A.length≤1000000000)(H:A.length=B.length)(hK:A.length<K){b:Code}(I:ah f249=[b])(J:lv b=[5]):
  ∃F:Env→Bool→Env,∀Z d,(ad Z 0=.slice 0 0 A.length none∧ad Z 1=.slice 1 0 A.length none∧ad Z 5=.int .i64 ((A.length:Int)-1))→
   aS (aV prog) lv O K 41 2 true (.loop b) ⟨Z,[.cells false 1 (iN .u64 A),.cells false 1 (iN .u64 B)],d⟩=some (if A=B then .exit 0 else .ret,⟨F Z d,[.cells false 1 (iN .u64 A),.cells false 1 (iN .u64 B)],d⟩)∧
    (A≠B→ad (F Z d) 4=.int .i64 (jG (aF 1000000000 A) (aF 1000000000 B))):=by
 refine bw J (fun Z=>ad Z 0=.slice 0 0 A.length none∧ad Z 1=.slice 1 0 A.length none∧ad Z 5=.int .i64 ((A.length:Int)-1)) (fun _ m =>A≠B→ad m 4=.int .i64 (jG (aF 1000000000 A) (aF 1000000000 B))) ?_;clear J;rintro Z d ⟨h0,h1,h5⟩;simp[ah,aG,f249] at I;have u:aw [5] (ae b) Z ((5,.int .i64 ((A.length:Int)-1))::Z)=aw [5] (ae b) Z Z:=by simp[aw,h5]
 rw[←u];refine bO (α:=Nat) (fun n=>⟨aw [5] (ae b) Z ((5,.int .i64 ((n:Int)-1))::Z),[.cells false 1 (iN .u64 A),.cells false 1 (iN .u64 B)],d⟩) id (fun n=>n≤A.length∧A.drop n=B.drop n) (if A=B then .exit 0 else .ret) _ d _ (by split<;>simp) ?_ K A.length ⟨Nat.le_refl _,by rw[List.drop_length,H,List.drop_length]⟩ hK;rintro n ⟨Y9,Z4⟩;clear u;subst I;cases n with
 |zero=>
  right;rw[List.drop_zero,List.drop_zero] at Z4;simp[Z4]
 |succ n=>
  have R:n<A.length:=by omega
  have U:n<B.length:=by omega
  obtain⟨x,L,G⟩:=dW R;obtain⟨y,N,D⟩:=dW U;have j:(((n+1:Nat):Int)-1)=(n:Int):=by omega
  have e2:IntKind.i64.wrap ((n:Int)-1)=(n:Int)-1:=af;rw[j];by_cases C:x=y
  ·left
   subst C;refine⟨n,?_⟩;simp[h0,h1,G,D,R,U,e2];exact⟨by omega,Rz Z4 L N⟩
  ·right
   have o:A≠B:=by rintro rfl;rw[L] at N;cases N;exact C rfl
   have M:=VG W hB H Z4 L N C;have S :¬((x:Int)=(y:Int)):=by omega
   by_cases V:x<y
   ·rw[if_pos V] at M
    simp[h0,h1,G,D,R,U,S,V,o,M]
   ·rw[if_neg V] at M
    simp[h0,h1,G,D,R,U,S,V,o,M]
theorem LA(A B:List Nat)(H:lok 1000000000 A=true)(I:lok 1000000000 B=true)(J:A.length≤1000000000)(tA:bD A=A)(W:bD B=B):
  kO prog 249 [.slice 0 0 A.length none,.slice 1 0 B.length none] [.cells false 1 (iN .u64 A),.cells false 1 (iN .u64 B)] (.int .i64 (jG (aF 1000000000 A) (aF 1000000000 B))) [.cells false 1 (iN .u64 A),.cells false 1 (iN .u64 B)]:=by
 have R:aT prog 249=some f249:=by kernel_rfl
 obtain⟨b,N⟩:∃b,ah f249=[b]:=⟨_,rfl⟩
 refine ca (lv:=(fun _=>[5])) (K:=(A.length+1)) (az _) ?_;have D:dig 1000000000 (aF 1000000000 A)=A:=by rw[fM (by omega) H,tA]
 have C:dig 1000000000 (aF 1000000000 B)=B:=by rw[fM (by omega) I,W]
 by_cases M:A.length=B.length
 ·have Z:=AO (O:=cu) (K:=A.length+1) (lv:=fun _=>[5]) A B H I J M (by omega) N rfl
  simp[ah,aG,f249] at N;subst N;obtain⟨F,Z⟩:=Z;have u:IntKind.i64.wrap ((B.length:Int)-1)=(B.length:Int)-1:=af;by_cases V:A=B
  ·subst V
   have U:jG (aF 1000000000 A) (aF 1000000000 A)=0:=by unfold jG;simp
   rw[if_pos rfl] at Z;simp[aa,R,f249,Z,u,U]
  ·rw[if_neg V] at Z
   simp only[M] at Z;simp[aa,R,f249,Z,M,u,V]
 ·have S :¬((A.length:Int)=B.length):=by omega
  by_cases L:A.length<B.length
  ·have G:aF 1000000000 A<aF 1000000000 B:=ez (B:=1000000000) (by omega) (by rw[D,C];exact L)
   have U:jG (aF 1000000000 A) (aF 1000000000 B)= -1:=by unfold jG;rw[if_pos G]
   simp[aa,R,f249,S,L,U]
  ·have G:aF 1000000000 B<aF 1000000000 A:=ez (B:=1000000000) (by omega) (by rw[D,C];omega)
   have U:jG (aF 1000000000 A) (aF 1000000000 B)=1:=by unfold jG;rw[if_neg (by omega),if_pos G]
   simp[aa,R,f249,S,L,U]
theorem na(l:List Nat):l.take (bD l).length=bD l:=(jL l).symm
variable{M:Mem}{x:AV}
theorem LI(H:A.length≤1000000000)(I:aev .u64 M x A):∃b,x=.slice b 0 A.length none∧kO prog 253 [x] M (.slice b 0 (bD A).length none) M:=by obtain⟨b,e,h⟩:=kO.ago (new:=[]) (rest:=[]) rfl rfl (O2 A H) I;refine⟨b,e,?_⟩;simpa [AV.ren,fq] using h
variable{y:AV}
theorem GS{A B:List Nat}(H:lok 1000000000 A=true)(I:lok 1000000000 B=true)(J:A.length≤1000000000)(tA:bD A=A)(W:bD B=B)(hx:aev .u64 M x A)(hy:aev .u64 M y B):
  kO prog 249 [x,y] M (.int .i64 (jG (aF 1000000000 A) (aF 1000000000 B))) M:=by
 obtain⟨b,c,Z,V,h⟩:=kO.afn (new:=[]) rfl (LA A B H I J tA W) hx hy;simpa [AV.ren] using h
noncomputable def bB:y9:=fun c Z M=>match c,Z with
 |.fn 253,[x]=>match x,bP .u64 M x with
  |.slice b _ _ _,some A=>if A.length≤1000000000 then some ⟨.slice b 0 (bD A).length none,none,[]⟩ else none
  |_,_=>none
 |.fn 249,[x,y]=>match bP .u64 M x,bP .u64 M y with
  |some A,some B=>if lok 1000000000 A=true∧lok 1000000000 B=true∧A.length≤1000000000∧bD A=A∧bD B=B then some ⟨.int .i64 (jG (aF 1000000000 A) (aF 1000000000 B)),none,[]⟩ else none
  |_,_=>none
 |_,_=>none
theorem iA:qS prog bB:=by
 have V:∀c Z M r,bB c Z M=some r→(∃f,c=.fn f∧kO prog f Z M r.v (r.mem M))∧r.pre=none:=by
  intro c Z M r h;unfold bB at h;split at h
  ·split at h
   ·rename_i S
    split at h
    ·rename_i N
     cases h;obtain⟨b,e,h⟩:=LI N (bU S);cases e;exact⟨⟨_,rfl,by simpa [aee.mem] using h⟩,rfl⟩
    ·cases h
   ·cases h
  ·split at h
   ·rename_i S L
    split at h
    ·rename_i G
     obtain⟨F,D,C,B,u⟩:=G;cases h;exact⟨⟨_,rfl,by simpa [aee.mem] using GS F D C B u (bU S) (bU L)⟩,rfl⟩
    ·cases h
   ·cases h
  ·cases h
 refine⟨fun f Z M r h=>?_,fun b Z M r h=>?_,fun c Z M r p h R=>?_⟩
 ·obtain⟨⟨o,e,U⟩,_⟩:=V _ _ _ _ h
  cases e;exact U
 ·obtain⟨⟨o,e,U⟩,_⟩:=V _ _ _ _ h
  cases e
 ·obtain⟨_,U⟩:=V _ _ _ _ h
  rw[U] at R;cases R
def gP(X Y:List Nat):Nat→List Nat→Mem
 |0,_=>[.cells false 1 (iN .u64 X),.cells false 1 (iN .u64 Y),.cells true 1 []]
 |_+1,done=>[.cells false 1 (iN .u64 X),.cells false 1 (iN .u64 Y),.qK,.cells true 1 (iN .u64 done)]
def gx:Nat→AV
 |0=>.slice 2 0 0 none
 |i+1=>.slice 3 0 (i+1) none
theorem jj(X Y:List Nat)(i:Nat)(done:List Nat):gP X Y (i+1) done=[.cells false 1 (iN .u64 X),.cells false 1 (iN .u64 Y),.qK,.cells true 1 (iN .u64 done)]:=rfl
theorem kz(X Y:List Nat):(gP X Y 0 []).length=3:=rfl
theorem jl(i:Nat):gx (i+1)=.slice 3 0 (i+1) none:=rfl
theorem bH{α:Type}{p q:α→Prop}{r:Prop}(hr:r)(h:∃s,p s∧q s):∃s,p s∧q s∧r:=let ⟨s,a,b⟩:=h;⟨s,a,b,hr⟩
theorem CW(X Y A B:List Nat)(H I:Nat)(J:(H=0∧I=1∧X=A∧Y=B)∨(H=1∧I=0∧X=B∧Y=A))(hA:lok 1000000000 A=true)(hB:lok 1000000000 B=true)(hl:A.length≤1000000000)(H':B.length≤A.length)(hK:A.length<K){b:Code}(W:ah f248=[b])(X':lv b=[22,5,6]):
  ∃F:Env→Bool→Env,∀Z d,(ad Z 1=.slice I 0 B.length none∧ad Z 20=.slice H 0 A.length none∧ad Z 21=.int .i64 A.length∧ad Z 5=.slice 2 0 0 none∧ad Z 6=.int .u64 0∧ad Z 22=.int .i64 0)→
   aS (aV prog) lv O K 53 2 true (.loop b) ⟨Z,gP X Y 0 [],d⟩=some (.exit 0,⟨F Z d,gP X Y A.length ((um 1000000000 A B 0).take A.length),d⟩)∧
    (ad (F Z d) 5=gx A.length∧ad (F Z d) 6=.int .u64 (((um 1000000000 A B 0).getD A.length 0:Nat):Int)):=by
 refine bw X' (fun Z=>ad Z 1=.slice I 0 B.length none∧ad Z 20=.slice H 0 A.length none∧ad Z 21=.int .i64 A.length∧ad Z 5=.slice 2 0 0 none∧ad Z 6=.int .u64 0∧ad Z 22=.int .i64 0)
  (fun _ o =>ad o 5=gx A.length∧ad o 6=.int .u64 (((um 1000000000 A B 0).getD A.length 0:Nat):Int)) ?_
 clear X';rintro Z d ⟨h1,Zm,Z5,h5,h6,h22⟩;simp[ah,aG,f248] at W;have m:aw [22,5,6] (ae b) Z ((22,.int .i64 ((0:Nat):Int))::(5,gx 0)::(6,.int .u64 ((0:Nat):Int))::Z)=aw [22,5,6] (ae b) Z Z:=by simp[aw,h5,h6,h22,gx]
 rw[←m];refine bO (α:=Nat×List Nat×Nat) (fun a=>⟨aw [22,5,6] (ae b) Z ((22,.int .i64 (a.1:Int))::(5,gx a.1)::(6,.int .u64 (a.2.2:Int))::Z),gP X Y a.1 a.2.1,d⟩) (fun a=>A.length-a.1)
  (fun a=>a.1≤A.length∧a.2.1.length=a.1∧a.2.2≤1∧a.2.1++um 1000000000 (A.drop a.1) (B.drop a.1) a.2.2=um 1000000000 A B 0) (.exit 0) _ d _ (by simp) ?_ K (0,[],0) ⟨Nat.zero_le _,rfl,Nat.zero_le _,rfl⟩ (by simpa using hK)
 rintro ⟨i,done,c⟩ ⟨hi,hd,hc,J'⟩;simp only at hi hd hc J';clear m;subst W;by_cases N:i=A.length
 ·right
  subst N;rw[List.drop_length,um] at J';rw[←J',←hd];simp only[List.take_left'];simp[Z5,hd]
 ·left
  have U:i<A.length:=by omega
  obtain⟨x,hx,S⟩:=dW U;have Yg:=ga hA hx;have j:A.drop i=x::A.drop (i+1):=by rw[List.drop_eq_getElem_cons U,S]
  have w0:IntKind.i64.wrap 1=1:=by decide
  have w1:IntKind.i64.wrap ((i:Int)+1)=(i:Int)+1:=af;have hI:(i:Int)<(A.length:Int):=by omega
  have Yp:(i+1)*8≤140737488355328:=by omega
  have R:i+1≤140737488355328:=by omega
  have ht:(iN .u64 done).take i=iN .u64 done:=List.take_of_length_le (by simp[hd]);have hM:0<i→gP X Y i done=[.cells false 1 (iN .u64 X),.cells false 1 (iN .u64 Y),.qK,.cells true 1 (iN .u64 done)]:=fun h=>by cases i with
   |zero=>omega
   |succ i=>rfl
  have hO:0<i→gx i=.slice 3 0 i none:=fun h=>by cases i with
   |zero=>omega
   |succ i=>rfl
  by_cases V:i<B.length
  ·obtain⟨y,hy,L⟩:=dW V
   have hyb:=ga hB hy;have G:B.drop i=y::B.drop (i+1):=by rw[List.drop_eq_getElem_cons V,L]
   rw[j,G,um,List.headD_cons,List.tail_cons] at J';obtain⟨s,D⟩:=xE (α:=Nat) (c+x+y);rw[←D] at J';have w2:IntKind.u64.wrap ((c:Int)+(x:Int))=(c:Int)+(x:Int):=cf (by omega) (by omega);have w3:IntKind.u64.wrap ((c:Int)+(x:Int)+(y:Int))=(s:Int):=by rw[cf (by omega) (by omega)];omega
   have w4:(s:Int).tmod 1000000000=(s:Int)%1000000000:=Af s 1000000000;have w5:IntKind.u64.wrap ((s:Int) / 1000000000)=(s:Int) / 1000000000:=cf (by omega) (by omega);refine⟨(i+1,done++[s%1000000000],s / 1000000000),?_⟩;refine bH (r:=_∧_) (show(i+1≤A.length∧(done++[s%1000000000]).length=i+1∧s / 1000000000≤1∧(done++[s%1000000000])++um 1000000000 (A.drop (i+1)) (B.drop (i+1)) (s / 1000000000)=um 1000000000 A B 0)∧A.length-(i+1)<A.length-i by refine⟨⟨by omega,by simp[hd],by omega,?_⟩,by omega⟩;rw[←J'];simp) ?_
   clear J';rcases J with⟨rfl,rfl,rfl,rfl⟩ | ⟨rfl,rfl,rfl,rfl⟩<;>rcases Nat.eq_zero_or_pos i with rfl | hpos;all_goals first
    |(have C:=List.eq_nil_of_length_eq_zero hd;subst C;simp[gP,gx,h1,Zm,Z5,S,L,U,V,w0,w2,w3,w4,w5,cB];done)
    |simp[hM hpos,hO hpos,jj,jl,kz,h1,Zm,Z5,S,L,hI,Yp,R,U,V,hd,w1,w2,w3,w4,w5,ht,dU,cB]
  ·have G:B.drop i=[]:=List.drop_eq_nil_of_le (by omega)
   have u:B.drop (i+1)=[]:=List.drop_eq_nil_of_le (by omega);rw[j,G,um] at J';simp only[List.headD_nil,List.tail_nil,Nat.add_zero] at J';obtain⟨s,D⟩:=xE (α:=Nat) (c+x);rw[←D] at J';have w3:IntKind.u64.wrap ((c:Int)+(x:Int))=(s:Int):=by rw[cf (by omega) (by omega)];omega
   have w4:(s:Int).tmod 1000000000=(s:Int)%1000000000:=Af s 1000000000;have w5:IntKind.u64.wrap ((s:Int) / 1000000000)=(s:Int) / 1000000000:=cf (by omega) (by omega);refine⟨(i+1,done++[s%1000000000],s / 1000000000),?_⟩;refine bH (r:=_∧_) (show(i+1≤A.length∧(done++[s%1000000000]).length=i+1∧s / 1000000000≤1∧(done++[s%1000000000])++um 1000000000 (A.drop (i+1)) (B.drop (i+1)) (s / 1000000000)=um 1000000000 A B 0)∧A.length-(i+1)<A.length-i by refine⟨⟨by omega,by simp[hd],by omega,?_⟩,by omega⟩;rw[←J',u];simp) ?_
   clear J';rcases J with⟨rfl,rfl,rfl,rfl⟩ | ⟨rfl,rfl,rfl,rfl⟩<;>rcases Nat.eq_zero_or_pos i with rfl | hpos;all_goals first
    |(have C:=List.eq_nil_of_length_eq_zero hd;subst C;simp[gP,gx,h1,Zm,Z5,S,U,V,w0,w3,w4,w5,cB];done)
    |simp[hM hpos,hO hpos,jj,jl,kz,h1,Zm,Z5,S,hI,Yp,R,U,V,hd,w1,w3,w4,w5,ht,dU,cB]
theorem Bd(B:Nat):∀(a b:List Nat) (c:Nat),(um B a b c).length=a.length+1
 | [],_,_=>rfl
 |x::a,b,c=>by rw[um,List.length_cons,Bd B a];rfl
theorem NQ{B:Nat}(H:2≤B){a b:List Nat}(I:lok B a=true)(J:lok B b=true)(W:b.length≤a.length):bD (um B a b 0)=dig B (aF B a+aF B b):=by rw[←fM H (N3 H a b 0 I J (by omega)),Kn B a b 0 W,Nat.add_zero]
theorem Dn{l:List Nat}{n:Nat}(h:l.length=n+1):l.take n++[l.getD n 0]=l:=by
 have Z:n<l.length:=by omega
 have:l.getD n 0=l[n]:=by simp[List.getD,Z]
 rw[this];have V:l.take (n+1)=l:=List.take_of_length_le (by omega);rw[List.take_add_one,List.getElem?_eq_getElem Z] at V;exact V
theorem vi(X Y A B:List Nat)(H I:Nat)(J:(H=0∧I=1∧X=A∧Y=B∧¬A.length<B.length)∨(H=1∧I=0∧X=B∧Y=A∧B.length<A.length))(hA:lok 1000000000 A=true)(hB:lok 1000000000 B=true)(hl:A.length≤100000000)(Yb:B.length≤A.length):
  aa (aV prog) (fun _=>[22,5,6]) (aT prog) bB (A.length+1) 248 [.slice 0 0 X.length none,.slice 1 0 Y.length none] [.cells false 1 (iN .u64 X),.cells false 1 (iN .u64 Y)]=
   some ⟨.slice 2 0 (bD (um 1000000000 A B 0)).length none,none,[.cells true 1 (iN .u64 (um 1000000000 A B 0))]⟩:=by
 have u:aT prog 248=some f248:=by kernel_rfl
 obtain⟨b,o⟩:∃b,ah f248=[b]:=⟨_,rfl⟩
 have L:=Bd 1000000000 A B 0;have S:=Dn L;obtain⟨F,U⟩:=CW (O:=bB) (K:=A.length+1) (lv:=fun _=>[22,5,6]) X Y A B H I (by rcases J with⟨a,b,c,d,_⟩ | ⟨a,b,c,d,_⟩;exact .inl ⟨a,b,c,d⟩;exact .inr ⟨a,b,c,d⟩) hA hB (by omega) Yb (by omega) o rfl;simp[ah,aG,f248] at o;subst o;obtain⟨Z,Zz⟩:=xE (α:=Int) ((A.length:Int)+1);have w1:IntKind.i64.wrap ((A.length:Int)+1)=Z:=by rw[Zz];exact af
 have h0:0≤Z:=by omega
 have h1:8*Z≤281474976710656:=by omega
 have h2:Z≤281474976710656:=by omega
 obtain⟨D,ZF⟩:=xE (um 1000000000 A B 0);rcases Nat.eq_zero_or_pos A.length with hz | hpos
 ·have m:=List.eq_nil_of_length_eq_zero hz
  have j:B=[]:=List.eq_nil_of_length_eq_zero (by omega);subst m;subst j;simp only[List.length_nil,gP,gx,um,Nat.zero_add,Int.cast_ofNat_Int,List.take_zero,List.getD_cons_zero] at U;have C:bP .u64 [.cells false 1 [],.cells false 1 [],.qK,.cells true 1 [.int .u64 0],.cells true 1 [.int .u64 0]] (.slice 4 0 1 none)=some [0]:=by rfl
  rcases J with⟨rfl,rfl,rfl,rfl,N⟩ | ⟨rfl,rfl,rfl,rfl,N⟩
  ·have w0:IntKind.i64.wrap 1=1:=by decide
   simp only[RR] at U;simp[aa,u,f248,U,bB,C,um,bD,cB,w0]
  ·simp at N
 ·have hM:∀done,gP X Y A.length done=[.cells false 1 (iN .u64 X),.cells false 1 (iN .u64 Y),.qK,.cells true 1 (iN .u64 done)]:=fun done=>by
   cases h:A.length with
   |zero=>omega
   |succ i=>rfl
  have hO:gx A.length=.slice 3 0 A.length none:=by
   cases h:A.length with
   |zero=>omega
   |succ i=>rfl
  rw[hM,hO] at U;simp only[gP] at U;obtain⟨V,Yl⟩:=xE ((um 1000000000 A B 0).take A.length);obtain⟨G,W⟩:=xE ((um 1000000000 A B 0).getD A.length 0);rw[←Yl,←W] at U S;rw[←ZF] at S L ⊢;have R:V.length=A.length:=by rw[Yl,List.length_take,←ZF,L];omega
  have h3:(A.length+1)*8≤140737488355328:=by omega
  have h4:A.length≤140737488355327:=by omega
  have h5:(iN .u64 V).take A.length=iN .u64 V:=List.take_of_length_le (by simp[R]);have C:bP .u64 [.cells false 1 (iN .u64 X),.cells false 1 (iN .u64 Y),.qK,.qK,.cells true 1 [.int .u64 (G:Int)],.cells true 1 (iN .u64 D)] (.slice 5 0 (A.length+1) none)=some D:=
   bz rfl (by simp[L]) (List.take_of_length_le (by simp[L]))
  have h7:D.length≤1000000000:=by omega
  have h8:iN .u64 V++[.int .u64 (G:Int)]=iN .u64 D:=by rw[VM,S]
  rcases J with⟨rfl,rfl,rfl,rfl,N⟩ | ⟨rfl,rfl,rfl,rfl,N⟩
  ·simp[aa,u,f248,N,w1,h0,h1,h2,U,bB,R,h3,h4,h5,C,h7,h8]
  ·simp[aa,u,f248,N,w1,h0,h1,h2,U,bB,R,h3,h4,h5,C,h7,h8]
theorem Bt{k:IntKind}{l r:List Nat}(h:l <+: r):iN k l <+: iN k r:=by obtain⟨t,rfl⟩:=h;exact⟨iN k t,by rw[←dU]⟩
theorem eU(l:List Nat):bD l <+: l:=by rw[jL l];exact List.take_prefix _ _
theorem LB{A B:List Nat}(H:lok 1000000000 A=true)(I:lok 1000000000 B=true)(J:A.length≤100000000)(W:B.length≤100000000)(hx:aev .u64 M x A)(hy:aev .u64 M y B):
  kO prog 248 [x,y] M (.slice M.length 0 (dig 1000000000 (aF 1000000000 A+aF 1000000000 B)).length none) (M++[.cells true 1 (iN .u64 (dig 1000000000 (aF 1000000000 A+aF 1000000000 B)))]):=by
 have V:∃Z,bD Z=dig 1000000000 (aF 1000000000 A+aF 1000000000 B)∧kO prog 248 [.slice 0 0 A.length none,.slice 1 0 B.length none] [.cells false 1 (iN .u64 A),.cells false 1 (iN .u64 B)] (.slice 2 0 (bD Z).length none) [.cells false 1 (iN .u64 A),.cells false 1 (iN .u64 B),.cells true 1 (iN .u64 Z)]:=by
  by_cases U:A.length<B.length
  ·refine⟨um 1000000000 B A 0,by rw[NQ (by omega) I H (by omega),Nat.add_comm],?_⟩
   have:=(aq ai (aO _) iA (aR _) (vi A B B A 1 0 (.inr ⟨rfl,rfl,rfl,rfl,U⟩) I H W (by omega))).1;simpa [aee.mem] using this
  ·refine⟨um 1000000000 A B 0,NQ (by omega) H I (by omega),?_⟩
   have:=(aq ai (aO _) iA (aR _) (vi A B A B 0 1 (.inl ⟨rfl,rfl,rfl,rfl,U⟩) H I J (by omega))).1;simpa [aee.mem] using this
 obtain⟨Z,S,h⟩:=V;have R:=kO.af5 (m:=[.cells false 1 (iN .u64 A),.cells false 1 (iN .u64 B)]) h (Bt (eU Z));obtain⟨b,c,rfl,rfl,h3⟩:=kO.afn (new:=[.cells true 1 (iN .u64 (bD Z))]) rfl R hx hy;rw[S] at h3;simpa [AV.ren,fq] using h3
theorem Co(B:Nat):∀(a b:List Nat) (c:Nat),(uH B a b c).length=a.length
 | [],_,_=>rfl
 |x::a,b,c=>by unfold uH;split<;>simp[Co B a]
theorem U0(B x:Nat)(a:List Nat)(c:Nat):uH B (x::a) [] c=if x<c then (x+B-c)::uH B a [] 1 else (x-c)::uH B a [] 0:=rfl
theorem AJ(A B:List Nat)(hA:lok 1000000000 A=true)(hB:lok 1000000000 B=true)(hl:A.length≤1000000000)(H':B.length≤A.length)(hK:A.length<K){b:Code}(H:ah f250=[b])(X':lv b=[15,5,6]):
  ∃F:Env→Bool→Env,∀Z d,(ad Z 1=.slice 1 0 B.length none∧ad Z 13=.slice 0 0 A.length none∧ad Z 14=.int .i64 A.length∧ad Z 5=.slice 2 0 0 none∧ad Z 6=.int .u64 0∧ad Z 15=.int .i64 0)→
   aS (aV prog) lv O K 45 2 true (.loop b) ⟨Z,gP A B 0 [],d⟩=some (.exit 0,⟨F Z d,gP A B A.length (uH 1000000000 A B 0),d⟩)∧ad (F Z d) 5=gx A.length:=by
 refine bw X' (fun Z=>ad Z 1=.slice 1 0 B.length none∧ad Z 13=.slice 0 0 A.length none∧ad Z 14=.int .i64 A.length∧ad Z 5=.slice 2 0 0 none∧ad Z 6=.int .u64 0∧ad Z 15=.int .i64 0)
  (fun _ AC =>ad AC 5=gx A.length) ?_
 clear X';rintro Z d ⟨h1,Zm,Z5,h5,h6,h22⟩;simp[ah,aG,f250] at H;have hn:aw [15,5,6] (ae b) Z ((15,.int .i64 ((0:Nat):Int))::(5,gx 0)::(6,.int .u64 ((0:Nat):Int))::Z)=aw [15,5,6] (ae b) Z Z:=by simp[aw,h5,h6,h22,gx]
 rw[←hn];refine bO (α:=Nat×List Nat×Nat) (fun a=>⟨aw [15,5,6] (ae b) Z ((15,.int .i64 (a.1:Int))::(5,gx a.1)::(6,.int .u64 (a.2.2:Int))::Z),gP A B a.1 a.2.1,d⟩) (fun a=>A.length-a.1)
  (fun a=>a.1≤A.length∧a.2.1.length=a.1∧a.2.2≤1∧a.2.1++uH 1000000000 (A.drop a.1) (B.drop a.1) a.2.2=uH 1000000000 A B 0) (.exit 0) _ d _ (by simp) ?_ K (0,[],0) ⟨Nat.zero_le _,rfl,Nat.zero_le _,rfl⟩ (by simpa using hK)
 rintro ⟨i,done,c⟩ ⟨hi,hd,hc,J'⟩;simp only at hi hd hc J';clear hn;subst H;by_cases J:i=A.length
 ·right
  subst J;rw[List.drop_length,uH,List.append_nil] at J';rw[←J'];simp[Z5]
 ·left
  have S:i<A.length:=by omega
  obtain⟨x,hx,R⟩:=dW S;have Yg:=ga hA hx;have eA:A.drop i=x::A.drop (i+1):=by rw[List.drop_eq_getElem_cons S,R]
  have w0:IntKind.i64.wrap 1=1:=by decide
  have w1:IntKind.i64.wrap ((i:Int)+1)=(i:Int)+1:=af;have u:(i:Int)<(A.length:Int):=by omega
  have o:(i+1)*8≤140737488355328:=by omega
  have N:i+1≤140737488355328:=by omega
  have m:(iN .u64 done).take i=iN .u64 done:=List.take_of_length_le (by simp[hd]);have j:0<i→gP A B i done=[.cells false 1 (iN .u64 A),.cells false 1 (iN .u64 B),.qK,.cells true 1 (iN .u64 done)]:=fun h=>by cases i with
   |zero=>omega
   |succ i=>rfl
  have W:0<i→gx i=.slice 3 0 i none:=fun h=>by cases i with
   |zero=>omega
   |succ i=>rfl
  have L:i=0→done=[]:=fun h=>List.eq_nil_of_length_eq_zero (by omega)
  by_cases V:i<B.length
  ·obtain⟨y,hy,D⟩:=dW V
   have hyb:=ga hB hy;have I:B.drop i=y::B.drop (i+1):=by rw[List.drop_eq_getElem_cons V,D]
   rw[eA,I,uH,List.headD_cons,List.tail_cons] at J';obtain⟨s,Zj⟩:=xE (α:=Nat) (c+y);rw[←Zj] at J';have w2:IntKind.u64.wrap ((c:Int)+(y:Int))=(s:Int):=by rw[cf (by omega) (by omega)];omega
   by_cases U:x<s
   ·rw[if_pos U] at J'
    obtain⟨r,G⟩:=xE (α:=Nat) (x+1000000000-s);rw[←G] at J';have w3:IntKind.u64.wrap ((x:Int)+1000000000)=(x:Int)+1000000000:=cf (by omega) (by omega);have w4:IntKind.u64.wrap ((x:Int)+1000000000-(s:Int))=(r:Int):=by rw[cf (by omega) (by omega)];omega
    refine⟨(i+1,done++[r],1),?_⟩;refine bH (r:=_∧_) (show(i+1≤A.length∧(done++[r]).length=i+1∧1≤1∧(done++[r])++uH 1000000000 (A.drop (i+1)) (B.drop (i+1)) 1=uH 1000000000 A B 0)∧A.length-(i+1)<A.length-i by refine⟨⟨by omega,by simp[hd],by omega,?_⟩,by omega⟩;rw[←J'];simp) ?_
    clear J';rcases Nat.eq_zero_or_pos i with rfl | hpos
    ·obtain rfl:=L rfl
     simp[gP,gx,h1,Zm,Z5,R,D,S,V,w0,w2,w3,w4,U,cB]
    ·simp[j hpos,W hpos,jj,jl,kz,h1,Zm,Z5,R,D,u,o,N,S,V,hd,w1,w2,w3,w4,U,m,dU,cB]
   ·rw[if_neg U] at J'
    obtain⟨r,G⟩:=xE (α:=Nat) (x-s);rw[←G] at J';have w4:IntKind.u64.wrap ((x:Int)-(s:Int))=(r:Int):=by rw[cf (by omega) (by omega)];omega
    refine⟨(i+1,done++[r],0),?_⟩;refine bH (r:=_∧_) (show(i+1≤A.length∧(done++[r]).length=i+1∧0≤1∧(done++[r])++uH 1000000000 (A.drop (i+1)) (B.drop (i+1)) 0=uH 1000000000 A B 0)∧A.length-(i+1)<A.length-i by refine⟨⟨by omega,by simp[hd],by omega,?_⟩,by omega⟩;rw[←J'];simp) ?_
    clear J';rcases Nat.eq_zero_or_pos i with rfl | hpos
    ·obtain rfl:=L rfl
     simp[gP,gx,h1,Zm,Z5,R,D,S,V,w0,w2,w4,U,cB]
    ·simp[j hpos,W hpos,jj,jl,kz,h1,Zm,Z5,R,D,u,o,N,S,V,hd,w1,w2,w4,U,m,dU,cB]
  ·have I:B.drop i=[]:=List.drop_eq_nil_of_le (by omega)
   have C:B.drop (i+1)=[]:=List.drop_eq_nil_of_le (by omega);rw[eA,I,U0] at J';by_cases U:x<c
   ·rw[if_pos U] at J'
    obtain⟨r,G⟩:=xE (α:=Nat) (x+1000000000-c);rw[←G] at J';have w3:IntKind.u64.wrap ((x:Int)+1000000000)=(x:Int)+1000000000:=cf (by omega) (by omega);have w4:IntKind.u64.wrap ((x:Int)+1000000000-(c:Int))=(r:Int):=by rw[cf (by omega) (by omega)];omega
    refine⟨(i+1,done++[r],1),?_⟩;refine bH (r:=_∧_) (show(i+1≤A.length∧(done++[r]).length=i+1∧1≤1∧(done++[r])++uH 1000000000 (A.drop (i+1)) (B.drop (i+1)) 1=uH 1000000000 A B 0)∧A.length-(i+1)<A.length-i by refine⟨⟨by omega,by simp[hd],by omega,?_⟩,by omega⟩;rw[←J',C];simp) ?_
    clear J';rcases Nat.eq_zero_or_pos i with rfl | hpos
    ·obtain rfl:=L rfl
     simp[gP,gx,h1,Zm,Z5,R,S,V,w0,w3,w4,U,cB]
    ·simp[j hpos,W hpos,jj,jl,kz,h1,Zm,Z5,R,u,o,N,S,V,hd,w1,w3,w4,U,m,dU,cB]
   ·rw[if_neg U] at J'
    obtain⟨r,G⟩:=xE (α:=Nat) (x-c);rw[←G] at J';have w4:IntKind.u64.wrap ((x:Int)-(c:Int))=(r:Int):=by rw[cf (by omega) (by omega)];omega
    refine⟨(i+1,done++[r],0),?_⟩;refine bH (r:=_∧_) (show(i+1≤A.length∧(done++[r]).length=i+1∧0≤1∧(done++[r])++uH 1000000000 (A.drop (i+1)) (B.drop (i+1)) 0=uH 1000000000 A B 0)∧A.length-(i+1)<A.length-i by refine⟨⟨by omega,by simp[hd],by omega,?_⟩,by omega⟩;rw[←J',C];simp) ?_
    clear J';rcases Nat.eq_zero_or_pos i with rfl | hpos
    ·obtain rfl:=L rfl
     simp[gP,gx,h1,Zm,Z5,R,S,V,w0,w4,U,cB]
    ·simp[j hpos,W hpos,jj,jl,kz,h1,Zm,Z5,R,u,o,N,S,V,hd,w1,w4,U,m,dU,cB]
theorem CS(A B:List Nat)(H:lok 1000000000 A=true)(I:lok 1000000000 B=true)(hl:A.length≤100000000)(J:B.length≤A.length):
  aa (aV prog) (fun _=>[15,5,6]) (aT prog) bB (A.length+1) 250 [.slice 0 0 A.length none,.slice 1 0 B.length none] [.cells false 1 (iN .u64 A),.cells false 1 (iN .u64 B)]=
   some ⟨.slice 2 0 (bD (uH 1000000000 A B 0)).length none,none,[.cells true 1 (iN .u64 (uH 1000000000 A B 0))]⟩:=by
 have D:aT prog 250=some f250:=by kernel_rfl
 obtain⟨b,S⟩:∃b,ah f250=[b]:=⟨_,rfl⟩
 have V:=Co 1000000000 A B 0;obtain⟨F,Z⟩:=AJ (O:=bB) (K:=A.length+1) (lv:=fun _=>[15,5,6]) A B H I (by omega) J (by omega) S rfl;simp[ah,aG,f250] at S;subst S;obtain⟨C,Zz⟩:=xE (α:=Int) (A.length:Int);have h0:0≤(A.length:Int):=by omega
 have u:8*(A.length:Int)≤281474976710656:=by omega
 have o:(A.length:Int)≤281474976710656:=by omega
 obtain⟨U,m⟩:=xE (uH 1000000000 A B 0);rw[←m] at V Z ⊢;rcases Nat.eq_zero_or_pos A.length with hz | hpos
 ·have R:=List.eq_nil_of_length_eq_zero hz
  have N:B=[]:=List.eq_nil_of_length_eq_zero (by omega);subst R;subst N;have L:U=[]:=List.eq_nil_of_length_eq_zero (by simpa using V);subst L;simp only[List.length_nil,gP,gx,Nat.zero_add,Int.cast_ofNat_Int,RR] at Z;have G:bP .u64 [.cells false 1 [],.cells false 1 [],.cells true 1 []] (.slice 2 0 0 none)=some []:=by rfl
  simp[aa,D,f250,Z,bB,G,bD]
 ·have j:∀done,gP A B A.length done=[.cells false 1 (iN .u64 A),.cells false 1 (iN .u64 B),.qK,.cells true 1 (iN .u64 done)]:=fun done=>by
   cases h:A.length with
   |zero=>omega
   |succ i=>rfl
  have W:gx A.length=.slice 3 0 A.length none:=by
   cases h:A.length with
   |zero=>omega
   |succ i=>rfl
  rw[j,W] at Z;simp only[gP] at Z;have G:bP .u64 [.cells false 1 (iN .u64 A),.cells false 1 (iN .u64 B),.qK,.cells true 1 (iN .u64 U)] (.slice 3 0 A.length none)=some U:=
   bz rfl (by simp[V]) (List.take_of_length_le (by simp[V]))
  have h7:U.length≤1000000000:=by omega
  simp[aa,D,f250,u,o,Z,bB,G,h7]
theorem GQ{A B:List Nat}(H:lok 1000000000 A=true)(I:lok 1000000000 B=true)(W:A.length≤100000000)(J:B.length≤A.length)(XY:aF 1000000000 B≤aF 1000000000 A)(hx:aev .u64 M x A)(hy:aev .u64 M y B):
  kO prog 250 [x,y] M (.slice M.length 0 (dig 1000000000 (aF 1000000000 A-aF 1000000000 B)).length none) (M++[.cells true 1 (iN .u64 (dig 1000000000 (aF 1000000000 A-aF 1000000000 B)))]):=by
 obtain⟨S,Z⟩:=BI (B:=1000000000) (by omega) A B 0 H I (by omega) J (by omega);have V:bD (uH 1000000000 A B 0)=dig 1000000000 (aF 1000000000 A-aF 1000000000 B):=by rw[←fM (by omega) Z];congr 1;omega
 have:=(aq ai (aO _) iA (aR _) (CS A B H I W J)).1;simp only[aee.mem,Option.getD_none,List.cons_append,List.nil_append] at this;have U:=kO.af5 (m:=[.cells false 1 (iN .u64 A),.cells false 1 (iN .u64 B)]) this (Bt (eU _));obtain⟨b,c,rfl,rfl,h3⟩:=kO.afn (new:=[.cells true 1 (iN .u64 (bD (uH 1000000000 A B 0)))]) rfl U hx hy;rw[V] at h3;simpa [AV.ren,fq] using h3
end Go.Proofs
