/- See K51. -/
import Derived.Test.YtffdedmakncfmaaGreatDoorK08
set_option linter.all false
namespace Go.Eng
def ay(B:Nat):List Nat→Nat
 | []=>0
 |d::l=>d+B*ay B l
def lok(B:Nat) (l:List Nat):Bool:=l.all fun d=>decide (d<B)
def bd:List Nat→List Nat
 | []=>[]
 |d::l=>match bd l with
  | []=>if d=0 then [] else [d]
  |x::r=>d::x::r
def OL(B:Nat):Nat→Nat→List Nat
 |0,_=>[]
 |f+1,n=>if n=0 then [] else n%B::OL B f (n / B)
def dig(B n:Nat):List Nat:=OL B (n.log2+1) n
theorem NA{B:Nat}(hB:2≤B):∀(f g n:Nat),n<2 ^ f→n<2 ^ g→OL B f n=OL B g n
 |0,g,n,h,_=>by
  have:n=0:=by simp at h;omega
  subst this
  cases g<;>simp[OL]
 |f+1,0,n,_,h=>by
  have:n=0:=by simp at h;omega
  subst this
  simp[OL]
 |f+1,g+1,n,h1,h2=>by
  unfold OL
  by_cases hn:n=0
  ·rw[if_pos hn,if_pos hn]
  ·rw[if_neg hn,if_neg hn]
   have h:n / B≤n / 2:=Nat.div_le_div_left hB (by omega)
   rw[Nat.pow_succ] at h1 h2
   rw[NA hB f g (n / B) (by omega) (by omega)]
theorem dq(B:Nat):dig B 0=[]:=by simp[dig,OL]
theorem uM{B n:Nat}(hB:2≤B) (hn:n≠0):dig B n=n%B::dig B (n / B):=by
 have h1:n<2 ^ (n.log2+1):=Nat.lt_log2_self
 have h2:n / B<2 ^ ((n / B).log2+1):=Nat.lt_log2_self
 have h:n / B≤n / 2:=Nat.div_le_div_left hB (by omega)
 show OL B (n.log2+1) n=_
 rw[OL,if_neg hn]
 congr 1
 exact NA hB _ _ _ (by rw[Nat.pow_succ] at h1;omega) h2
theorem I6{B:Nat}(hB:2≤B) {p:Nat→Prop}(h0:p 0) (h1:∀n,n≠0→p (n / B)→p n) (n:Nat):p n:=by
 induction n using Nat.strongRecOn with
 |_ n ih=>
  by_cases hn:n=0
  ·subst hn;exact h0
  ·exact h1 n hn (ih (n / B) (Nat.div_lt_self (by omega) hB))
theorem bU{B:Nat}(hB:2≤B) (n:Nat):ay B (dig B n)=n:=by
 induction n using I6 hB with
 |h0=>rw[dq];rfl
 |h1 n hn ih=>
  rw[uM hB hn,ay,ih]
  have:=Nat.mod_add_div n B
  omega
theorem ct{B:Nat}(hB:2≤B) (n:Nat):lok B (dig B n)=true:=by
 induction n using I6 hB with
 |h0=>rw[dq];rfl
 |h1 n hn ih=>
  rw[uM hB hn]
  unfold lok at ih ⊢
  rw[List.all_cons,ih]
  simp[Nat.mod_lt n (show 0<B by omega)]
theorem fW(B:Nat):∀(l r:List Nat),ay B (l++r)=ay B l+B ^ l.length*ay B r
 | [],r=>by simp[ay]
 |d::l,r=>by
  rw[List.cons_append,ay,ay,fW B l r,List.length_cons,Nat.pow_succ,Nat.mul_add,Nat.mul_comm (B ^ l.length) B,Nat.mul_assoc]
  omega
theorem fX{B:Nat}:∀{l:List Nat},lok B l=true→ay B l<B ^ l.length
 | [],_=>by simp[ay]
 |d::l,h=>by
  unfold lok at h
  simp only[List.all_cons,Bool.and_eq_true,decide_eq_true_eq] at h
  have:=fX (l:=l) h.2
  rw[ay,List.length_cons,Nat.pow_succ]
  have h2:B*(ay B l+1)≤B*B ^ l.length:=Nat.mul_le_mul_left _ this
  rw[Nat.mul_add] at h2
  rw[Nat.mul_comm (B ^ l.length) B]
  omega
theorem Bi(B:Nat):∀l:List Nat,ay B (bd l)=ay B l
 | []=>rfl
 |d::l=>by
  have ih:=Bi B l
  unfold bd
  split
  ·rename_i h
   rw[h] at ih
   rw[ay,←ih]
   split
   ·rename_i h0;subst h0;simp[ay]
   ·simp[ay]
  ·rename_i x r h
   rw[h] at ih
   show d+B*ay B (x::r)=d+B*ay B l
   rw[ih]
theorem pz{B n:Nat}(hB:2≤B):dig B n=[]↔n=0:=by
 constructor
 ·intro h
  by_cases hn:n=0
  ·exact hn
  ·rw[uM hB hn] at h;cases h
 ·rintro rfl;exact dq B
theorem ez{B:Nat}(hB:2≤B):∀{l:List Nat},lok B l=true→dig B (ay B l)=bd l
 | [],_=>dq B
 |d::l,h=>by
  unfold lok at h
  simp only[List.all_cons,Bool.and_eq_true,decide_eq_true_eq] at h
  have ih:=ez hB (l:=l) h.2
  have hd:ay B (d::l)=d+B*ay B l:=rfl
  have hdiv:(d+B*ay B l) / B=ay B l:=by
   rw[Nat.add_mul_div_left _ _ (by omega),Nat.div_eq_of_lt h.1,Nat.zero_add]
  have hmod:(d+B*ay B l)%B=d:=by
   rw[Nat.add_mul_mod_self_left,Nat.mod_eq_of_lt h.1]
  rw[hd]
  unfold bd
  split
  ·rename_i ht
   rw[ht] at ih
   have h0:=(pz hB).1 ih
   rw[h0]
   split
   ·rename_i hd0;subst hd0;exact dq B
   ·rename_i hd0
    rw[uM hB (by omega),Nat.mul_zero,Nat.add_zero,Nat.mod_eq_of_lt h.1,Nat.div_eq_of_lt h.1,dq]
  ·rename_i x r ht
   rw[ht] at ih
   have hne:ay B l≠0:=by
    intro e
    rw[e,dq] at ih;cases ih
   have:d+B*ay B l≠0:=by
    have:0<B*ay B l:=Nat.mul_pos (by omega) (by omega)
    omega
   rw[uM hB this,hdiv,hmod,ih]
theorem cE{B:Nat}(hB:2≤B) (n:Nat):bd (dig B n)=dig B n:=by
 rw[←ez hB (ct hB n),bU hB]
theorem gu:∀l:List Nat,bd (l++[0])=bd l
 | []=>rfl
 |d::l=>by
  rw[List.cons_append,bd,gu l,bd]
theorem Bh{d:Nat}(hd:d≠0):∀l:List Nat,bd (l++[d])=l++[d]
 | []=>by simp[bd,hd]
 |c::l=>by
  rw[List.cons_append,bd,Bh hd l]
  cases l<;>rfl
theorem cF:∀l:List Nat,(bd l).length≤l.length
 | []=>Nat.le_refl _
 |d::l=>by
  have:=cF l
  unfold bd
  split
  ·split<;>simp
  ·rename_i x r h
   rw[h] at this
   simp only[List.length_cons] at this ⊢
   omega
theorem iC:∀l:List Nat,bd l=l.take (bd l).length
 | []=>rfl
 |d::l=>by
  have:=iC l
  unfold bd
  split
  ·split<;>simp
  ·rename_i x r h
   rw[h] at this
   rw[List.length_cons,List.take_succ_cons,←this]
theorem uL{B:Nat}(hB:2≤B) (n:Nat):n<B ^ (dig B n).length:=by
 have:=fX (ct hB n)
 rwa [bU hB] at this
theorem pX{B:Nat}(hB:2≤B) (n:Nat) (hn:n≠0):B ^ ((dig B n).length-1)≤n:=by
 induction n using I6 hB with
 |h0=>exact absurd rfl hn
 |h1 n _ ih=>
  rw[uM hB hn,List.length_cons,Nat.add_sub_cancel]
  by_cases h0:n / B=0
  ·rw[h0,dq];simp;omega
  ·have:=ih h0
   have hp:0<(dig B (n / B)).length:=by
    cases h:dig B (n / B) with
    |nil=>exact absurd ((pz hB).1 h) h0
    |cons=>simp
   have e:B ^ (dig B (n / B)).length=B*B ^ ((dig B (n / B)).length-1):=by
    rw[Nat.mul_comm,←Nat.pow_succ];congr 1;omega
   rw[e]
   exact Nat.le_trans (Nat.mul_le_mul_left _ this) (Nat.mul_div_le n B)
theorem dp{B:Nat}(hB:2≤B) {m n:Nat}(h:(dig B m).length<(dig B n).length):m<n:=by
 have hn:n≠0:=by rintro rfl;rw[dq] at h;simp at h
 have h1:=uL hB m
 have h2:=pX hB n hn
 have h3:B ^ (dig B m).length≤B ^ ((dig B n).length-1):=Nat.pow_le_pow_right (by omega) (by omega)
 omega
theorem er{B:Nat}(hB:2≤B) {n k:Nat}(h:n<B ^ k):(dig B n).length≤k:=by
 by_cases hn:n=0
 ·subst hn;rw[dq];simp
 ·have h1:=pX hB n hn
  have h2:B ^ ((dig B n).length-1)<B ^ k:=by omega
  have:=(Nat.pow_lt_pow_iff_right (by omega:1<B)).1 h2
  omega
theorem eS{B:Nat}{l:List Nat}(h:lok B l=true) {i d:Nat}(hi:l[i]? =some d):d<B:=by
 have:=List.all_eq_true.1 h d (List.mem_of_getElem? hi)
 simpa using this
theorem pP{B:Nat}{l r:List Nat}:lok B (l++r)=(lok B l&&lok B r):=by simp[lok,List.all_append]
theorem cu{B d:Nat}{r:List Nat}:lok B (d::r)=(decide (d<B)&&lok B r):=rfl
theorem il{B:Nat}{l:List Nat}(h:lok B l=true) (k:Nat):lok B (l.take k)=true:=by
 unfold lok at h ⊢
 rw[List.all_eq_true] at h ⊢
 exact fun d hd=>h d (List.mem_of_mem_take hd)
theorem iQ{B:Nat}{l:List Nat}(h:lok B l=true) (k:Nat):lok B (l.drop k)=true:=by
 unfold lok at h ⊢
 rw[List.all_eq_true] at h ⊢
 exact fun d hd=>h d (List.mem_of_mem_drop hd)
def rB(B:Nat):List Nat→List Nat→Nat→List Nat
 | [],_,c=>[c]
 |x::a,b,c=>(c+x+b.headD 0)%B::rB B a b.tail ((c+x+b.headD 0) / B)
theorem G5(B:Nat) (b:List Nat):ay B b=b.headD 0+B*ay B b.tail:=by
 cases b<;>simp[ay]
theorem G4(B:Nat):∀(a b:List Nat) (c:Nat),b.length≤a.length→ay B (rB B a b c)=ay B a+ay B b+c
 | [],b,c,h=>by
  have:b=[]:=List.eq_nil_of_length_eq_zero (by simpa using h)
  subst this
  simp[rB,ay]
 |x::a,b,c,h=>by
  have ht:b.tail.length≤a.length:=by simp at h ⊢;omega
  rw[rB,ay,G4 B a b.tail _ ht,G5 B b,ay]
  have:=Nat.mod_add_div (c+x+b.headD 0) B
  rw[Nat.mul_add,Nat.mul_add]
  omega
theorem G2{B:Nat}(hB:0<B) {b:List Nat}(h:lok B b=true):b.headD 0<B:=by
 cases b with
 |nil=>exact hB
 |cons d b=>rw[cu,Bool.and_eq_true,decide_eq_true_eq] at h;exact h.1
theorem J6{B:Nat}{b:List Nat}(h:lok B b=true):lok B b.tail=true:=by
 cases b with
 |nil=>rfl
 |cons d b=>rw[cu,Bool.and_eq_true] at h;exact h.2
theorem J5{B:Nat}(hB:2≤B):∀(a b:List Nat) (c:Nat),lok B a=true→lok B b=true→c≤1→lok B (rB B a b c)=true
 | [],b,c,_,_,hc=>by simp[rB,lok];omega
 |x::a,b,c,ha,hb,hc=>by
  rw[cu,Bool.and_eq_true,decide_eq_true_eq] at ha
  have h1:=G2 (by omega) hb
  rw[rB,cu,Bool.and_eq_true,decide_eq_true_eq]
  refine⟨Nat.mod_lt _ (by omega),J5 hB a _ _ ha.2 (J6 hb) ?_⟩
  have:(c+x+b.headD 0) / B<2:=by rw[Nat.div_lt_iff_lt_mul (by omega)];omega
  omega
def rQ(B:Nat):List Nat→List Nat→Nat→List Nat
 | [],_,_=>[]
 |x::a,b,c=>if x<c+b.headD 0 then (x+B-(c+b.headD 0))::rQ B a b.tail 1 else (x-(c+b.headD 0))::rQ B a b.tail 0
theorem zm{B:Nat}(hB:2≤B):∀(a b:List Nat) (c:Nat),lok B a=true→lok B b=true→c≤1→b.length≤a.length→ay B b+c≤ay B a→
  ay B (rQ B a b c)+ay B b+c=ay B a∧lok B (rQ B a b c)=true
 | [],b,c,_,_,_,h,h2=>by
  have:b=[]:=List.eq_nil_of_length_eq_zero (by simpa using h)
  subst this
  simp only[ay] at h2
  simp only[rQ,ay]
  exact⟨by omega,rfl⟩
 |x::a,b,c,ha,hb,hc,h,h2=>by
  have ht:b.tail.length≤a.length:=by simp at h ⊢;omega
  rw[cu,Bool.and_eq_true,decide_eq_true_eq] at ha
  have h1:=G2 (by omega) hb
  have hbt:=J6 hb
  rw[G5 B b] at h2 ⊢
  rw[ay] at h2 ⊢
  unfold rQ
  split
  ·rename_i hlt
   have h3:ay B b.tail+1≤ay B a:=by
    have:B*ay B b.tail<B*ay B a:=by omega
    have:=Nat.lt_of_mul_lt_mul_left this
    omega
   obtain⟨i1,i2⟩:=zm hB a b.tail 1 ha.2 hbt (by omega) ht h3
   have e:B*ay B a=B*ay B (rQ B a b.tail 1)+B*ay B b.tail+B:=by rw[←i1,Nat.mul_add,Nat.mul_add,Nat.mul_one]
   rw[ay,cu,i2,Bool.and_true,decide_eq_true_eq,e]
   exact⟨by omega,by omega⟩
  ·rename_i hlt
   have h3:ay B b.tail+0≤ay B a:=by
    have:B*ay B b.tail<B*ay B a+B:=by omega
    rw[←Nat.mul_succ] at this
    have:=Nat.lt_of_mul_lt_mul_left this
    omega
   obtain⟨i1,i2⟩:=zm hB a b.tail 0 ha.2 hbt (by omega) ht h3
   have e:B*ay B a=B*ay B (rQ B a b.tail 0)+B*ay B b.tail:=by rw[←i1,Nat.mul_add,Nat.mul_add,Nat.mul_zero,Nat.add_zero]
   rw[ay,cu,i2,Bool.and_true,decide_eq_true_eq,e]
   exact⟨by omega,by omega⟩
def gn(B:Nat):List Nat→Nat→List Nat
 | [],_=>[]
 |o::l,c=>if c=0 then o::l else (c+o)%B::gn B l ((c+o) / B)
def Mq(B x:Nat):List Nat→List Nat→Nat→List Nat
 |o,[],c=>gn B o c
 | [],_::_,_=>[]
 |o::l,y::b,c=>(c+(o+x*y))%B::Mq B x l b ((c+(o+x*y)) / B)
theorem sV(B:Nat):∀(o:List Nat) (c:Nat),(gn B o c).length=o.length
 | [],_=>rfl
 |o::l,c=>by
  unfold gn
  split
  ·rfl
  ·simp[sV B l]
theorem rH(B x:Nat):∀(o b:List Nat) (c:Nat),(Mq B x o b c).length=o.length
 |o,[],c=>by cases o<;>exact sV B _ c
 | [],_::_,_=>rfl
 |o::l,y::b,c=>by simp[Mq,rH B x l b]
theorem zk{B:Nat}(hB:2≤B):∀(o:List Nat) (c:Nat),lok B o=true→ay B o+c<B ^ o.length→ay B (gn B o c)=ay B o+c∧lok B (gn B o c)=true
 | [],c,_,h=>by
  simp only[ay,List.length_nil,Nat.pow_zero] at h
  simp only[gn,ay]
  exact⟨by omega,rfl⟩
 |o::l,c,ho,h=>by
  unfold gn
  split
  ·rename_i hc;subst hc;exact⟨by omega,ho⟩
  ·rw[cu,Bool.and_eq_true,decide_eq_true_eq] at ho
   have hmd:=Nat.mod_add_div (c+o) B
   rw[ay,List.length_cons,Nat.pow_succ,Nat.mul_comm (B ^ l.length)] at h
   have h2:ay B l+(c+o) / B<B ^ l.length:=by
    have:B*(ay B l+(c+o) / B)<B*B ^ l.length:=by rw[Nat.mul_add];omega
    exact Nat.lt_of_mul_lt_mul_left this
   obtain⟨i1,i2⟩:=zk hB l _ ho.2 h2
   rw[ay,ay,i1,cu,i2,Nat.mul_add]
   refine⟨by omega,?_⟩
   simp[Nat.mod_lt (c+o) (show 0<B by omega)]
theorem zl{B:Nat}(hB:2≤B) (x:Nat):∀(o b:List Nat) (c:Nat),lok B o=true→ay B o+x*ay B b+c<B ^ o.length→
  b.length≤o.length→ay B (Mq B x o b c)=ay B o+x*ay B b+c∧lok B (Mq B x o b c)=true
 |o,[],c,ho,h,_=>by
  simp only[ay,Nat.mul_zero,Nat.add_zero] at h ⊢
  have:Mq B x o [] c=gn B o c:=by cases o<;>rfl
  rw[this]
  exact zk hB o c ho h
 | [],y::b,c,_,_,hl=>by simp at hl
 |o::l,y::b,c,ho,h,hl=>by
  rw[cu,Bool.and_eq_true,decide_eq_true_eq] at ho
  have hmd:=Nat.mod_add_div (c+(o+x*y)) B
  have e:x*(y+B*ay B b)=x*y+B*(x*ay B b):=by rw[Nat.mul_add,←Nat.mul_assoc,←Nat.mul_assoc,Nat.mul_comm x B]
  rw[ay,ay,e,List.length_cons,Nat.pow_succ,Nat.mul_comm (B ^ l.length)] at h
  have h2:ay B l+x*ay B b+(c+(o+x*y)) / B<B ^ l.length:=by
   have:B*(ay B l+x*ay B b+(c+(o+x*y)) / B)<B*B ^ l.length:=by rw[Nat.mul_add,Nat.mul_add];omega
   exact Nat.lt_of_mul_lt_mul_left this
  obtain⟨i1,i2⟩:=zl hB x l b _ ho.2 h2 (by simpa using hl)
  rw[Mq,ay,i1,cu,i2,ay,ay,e,Nat.mul_add,Nat.mul_add]
  refine⟨by omega,?_⟩
  simp[Nat.mod_lt (c+(o+x*y)) (show 0<B by omega)]
def o9(B:Nat):List Nat→List Nat→List Nat→List Nat
 | [],_,o=>o
 |x::a,b,o=>match Mq B x o b 0 with
  | []=>[]
  |d::r=>d::o9 B a b r
theorem Bj{B:Nat}(hB:2≤B):∀(a b o:List Nat),lok B o=true→ay B o+ay B a*ay B b<B ^ o.length→a.length+b.length≤o.length→
  ay B (o9 B a b o)=ay B o+ay B a*ay B b∧lok B (o9 B a b o)=true∧(o9 B a b o).length=o.length
 | [],b,o,ho,h,_=>by simp only[o9,ay,Nat.zero_mul,Nat.add_zero];exact⟨trivial,ho,trivial⟩
 |x::a,b,o,ho,h,hl=>by
  have e:(x+B*ay B a)*ay B b=x*ay B b+B*(ay B a*ay B b):=by rw[Nat.add_mul,Nat.mul_assoc]
  rw[ay,e] at h
  have hl' :a.length+1+b.length≤o.length:=by simpa using hl
  obtain⟨r1,r2⟩:=zl hB x o b 0 ho (by omega) (by omega)
  have r3:=rH B x o b 0
  unfold o9
  split
  ·rename_i hr;rw[hr] at r3;simp at r3;omega
  ·rename_i d r hr
   rw[hr] at r1 r2 r3
   rw[cu,Bool.and_eq_true,decide_eq_true_eq] at r2
   simp only[List.length_cons] at r3
   rw[ay] at r1
   have h2:ay B r+ay B a*ay B b<B ^ r.length:=by
    have:B*(ay B r+ay B a*ay B b)<B*B ^ r.length:=by
     rw[Nat.mul_comm B (B ^ r.length),←Nat.pow_succ,show r.length.succ=o.length from r3,Nat.mul_add];omega
    exact Nat.lt_of_mul_lt_mul_left this
   obtain⟨i1,i2,i3⟩:=Bj hB a b r r2.2 h2 (by omega)
   rw[ay,i1,cu,i2,List.length_cons,i3,ay,e,Nat.mul_add]
   exact⟨by omega,by simp[r2.1],r3⟩
theorem Mh{B:Nat}(hB:2≤B) {a b:List Nat}(ha:lok B a=true) (hb:lok B b=true):
  ay B (o9 B a b (List.replicate (a.length+b.length+1) 0))=ay B a*ay B b∧lok B (o9 B a b (List.replicate (a.length+b.length+1) 0))=true∧
   (o9 B a b (List.replicate (a.length+b.length+1) 0)).length=a.length+b.length+1:=by
 have hz:∀n,ay B (List.replicate n 0)=0:=by
  intro n
  induction n with
  |zero=>rfl
  |succ n ih=>rw[List.replicate_succ,ay,ih];simp
 have hzo:∀n,lok B (List.replicate n 0)=true:=by
  intro n
  unfold lok
  rw[List.all_eq_true]
  intro d hd
  rw[List.mem_replicate] at hd
  simp[hd.2];omega
 have h:ay B a*ay B b<B ^ (a.length+b.length+1):=by
  have h1:=fX ha
  have h2:=fX hb
  have h3:ay B a*ay B b<B ^ a.length*B ^ b.length:=Nat.mul_lt_mul_of_lt_of_lt h1 h2
  rw[←Nat.pow_add] at h3
  have h4:B ^ (a.length+b.length)≤B ^ (a.length+b.length+1):=Nat.pow_le_pow_right (by omega) (by omega)
  omega
 have:=Bj hB a b (List.replicate (a.length+b.length+1) 0) (hzo _) (by rw[hz,Nat.zero_add,List.length_replicate];exact h) (by rw[List.length_replicate];omega)
 rwa [hz,Nat.zero_add,List.length_replicate] at this
def fC(B d:Nat):List Nat→List Nat×Nat
 | []=>([],0)
 |x::l=>let p:=fC B d l;((p.2*B+x) / d::p.1,(p.2*B+x)%d)
theorem yW{B d:Nat}(hd:0<d) (hdB:d<B):∀l:List Nat,lok B l=true→(fC B d l).2<d∧ay B (fC B d l).1*d+(fC B d l).2=ay B l∧lok B (fC B d l).1=true∧(fC B d l).1.length=l.length
 | [],_=>by simp[fC,ay,lok,hd]
 |x::l,h=>by
  rw[cu,Bool.and_eq_true,decide_eq_true_eq] at h
  obtain⟨i1,i2,i3,i4⟩:=yW hd hdB l h.2
  simp only[fC]
  have hmd:=Nat.mod_add_div ((fC B d l).2*B+x) d
  refine⟨Nat.mod_lt _ hd,?_,?_,by simp[i4]⟩
  ·rw[ay,ay,←i2,Nat.add_mul,Nat.mul_add]
   rw[Nat.mul_comm d] at hmd
   rw[Nat.mul_assoc,Nat.mul_comm B (fC B d l).2]
   omega
  ·rw[cu,Bool.and_eq_true,decide_eq_true_eq]
   refine⟨?_,i3⟩
   rw[Nat.div_lt_iff_lt_mul hd]
   have h3:((fC B d l).2+1)*B≤d*B:=Nat.mul_le_mul_right _ i1
   rw[Nat.add_mul] at h3
   rw[Nat.mul_comm B d]
   omega
theorem PN{p D top r b q:Nat}(hr:r<(D+1)*p) (hb:top*p≤b) (hq:q*b≤r) (ht:0<top):q≤D / top:=by
 rw[Nat.le_div_iff_mul_le ht]
 have h1:q*(top*p)≤q*b:=Nat.mul_le_mul_left _ hb
 have h2:(q*top)*p<(D+1)*p:=by rw[Nat.mul_assoc];omega
 have:=Nat.lt_of_mul_lt_mul_right h2
 omega
end Go.Eng
namespace Go.Proofs
open Go.Eng
theorem zj{A:List Nat}{n:Nat}(h:A[n]? =some 0):bd (A.take (n+1))=bd (A.take n):=by
 rw[List.take_add_one,h]
 exact gu _
theorem zi{A:List Nat}{n d:Nat}(h:A[n]? =some d) (hd:d≠0):bd (A.take (n+1))=A.take (n+1):=by
 rw[List.take_add_one,h]
 exact Bh hd _
theorem Az{O:Oracle}{K:Nat}{lv:Code→List Nat}(A:List Nat) (hl:A.length≤1000000000) (hK:A.length<K) {b:Code}(hb:aj Tryz.f206=[b]) (hlv:lv b=[0]):
  ∃F:Env→Bool→Env,∀env0 d,ab env0 0=.slice 0 0 A.length none→
   aU (aO Tryz.prog) lv O K 21 1 true (.loop b) ⟨env0,[.cells false 1 (iN .u64 A)],d⟩=some (.exit 0,⟨F env0 d,[.cells false 1 (iN .u64 A)],d⟩)∧ab (F env0 d) 0=.slice 0 0 (bd A).length none:=by
 refine bp hlv (fun env0=>ab env0 0=.slice 0 0 A.length none) (fun _ env' =>ab env' 0=.slice 0 0 (bd A).length none) ?_
 clear hlv
 intro env0 d h0
 simp[aj,aM,Tryz.f206] at hb
 have hn:az [0] (ad b) env0 ((0,.slice 0 0 A.length none)::env0)=az [0] (ad b) env0 env0:=by simp[az,h0]
 rw[←hn]
 refine bK (α:=Nat) (fun n=>⟨az [0] (ad b) env0 ((0,.slice 0 0 n none)::env0),[.cells false 1 (iN .u64 A)],d⟩) id (fun n=>n≤A.length∧bd (A.take n)=bd A) (.exit 0) _ d _ (by simp) ?_ K A.length ⟨Nat.le_refl _,by rw[List.take_length]⟩ hK
 rintro n ⟨hn1,hn2⟩
 clear hn
 subst hb
 cases n with
 |zero=>
  right
  rw[←hn2]
  simp[bd]
 |succ n=>
  have hlt:n<A.length:=by omega
  obtain⟨x,hx⟩:∃x,A[n]? =some x:=⟨A[n],by simp[hlt]⟩
  have hw:IntKind.i64.wrap (n:Int)=(n:Int):=ag (by omega) (by omega)
  have h1:(n:Int)<(n:Int)+1:=by omega
  have h2:0<(n:Int)+1:=by omega
  by_cases hx0:x=0
  ·subst hx0
   left
   refine⟨n,?_⟩
   have h3:(n:Int)≤(n:Int)+1:=by omega
   have h4:n+1≤A.length:=by omega
   simp[hw,h1,h2,h3,h4,hx]
   exact⟨by omega,by rw[←zj hx];exact hn2⟩
  ·right
   rw[←hn2,zi hx hx0]
   have h4:min (n+1) A.length=n+1:=by omega
   simp[hw,h1,h2,h4,hx,hx0]
theorem KX(A:List Nat) (hl:A.length≤1000000000):ACallsTo Tryz.prog 206 [.slice 0 0 A.length none] [.cells false 1 (iN .u64 A)] (.slice 0 0 (bd A).length none) [.cells false 1 (iN .u64 A)]:=by
 have hG:aN Tryz.prog 206=some Tryz.f206:=by kernel_rfl
 obtain⟨b,hb⟩:∃b,aj Tryz.f206=[b]:=⟨_,rfl⟩
 obtain⟨F,hF⟩:=Az (O:=bt) (K:=A.length+1) (lv:=fun _=>[0]) A hl (by omega) hb rfl
 simp[aj,aM,Tryz.f206] at hb
 subst hb
 have h:aa (aO Tryz.prog) (fun _=>[0]) (aN Tryz.prog) bt (A.length+1) 206 [.slice 0 0 A.length none] [.cells false 1 (iN .u64 A)]=some ⟨.slice 0 0 (bd A).length none,none,[]⟩:=by
  simp[aa,hG,Tryz.f206,hF]
 have:=(af ae (aw _) (ak _) (ax _) h).1
 simpa [CallRes.mem] using this
theorem QV{B n a b:Nat}{X Y:List Nat}(hX:lok B X=true) (hY:lok B Y=true) (hlen:X.length=Y.length) (hd:X.drop (n+1)=Y.drop (n+1)) (ha:X[n]? =some a) (hb:Y[n]? =some b) (hab:a≠b):
  ie (ay B X) (ay B Y)=if a<b then -1 else 1:=by
 have hn:n<X.length:=(List.getElem?_eq_some_iff.1 ha).1
 have eX:X=X.take n++([a]++X.drop (n+1)):=by
  conv=>lhs;rw[←List.take_append_drop (n+1) X,List.take_add_one,ha]
  simp
 have eY:Y=Y.take n++([b]++Y.drop (n+1)):=by
  conv=>lhs;rw[←List.take_append_drop (n+1) Y,List.take_add_one,hb]
  simp
 have h1:=fX (il hX n)
 have h2:=fX (il hY n)
 have l1:(X.take n).length=n:=by simp;omega
 have l2:(Y.take n).length=n:=by simp;omega
 rw[l1] at h1
 rw[l2] at h2
 have vX:ay B X=ay B (X.take n)+B ^ n*(a+B*ay B (X.drop (n+1))):=by
  conv=>lhs;rw[eX,fW,fW,l1]
  simp[ay]
 have vY:ay B Y=ay B (Y.take n)+B ^ n*(b+B*ay B (X.drop (n+1))):=by
  conv=>lhs;rw[eY,fW,fW,l2,←hd]
  simp[ay]
 rw[vX,vY]
 generalize B*ay B (X.drop (n+1))=D
 generalize B ^ n=p at*
 split
 ·rename_i hlt
  have:p*(a+D+1)≤p*(b+D):=Nat.mul_le_mul_left _ (by omega)
  rw[Nat.mul_add,Nat.mul_one] at this
  unfold ie
  rw[if_pos (by omega)]
 ·rename_i hlt
  have:p*(b+D+1)≤p*(a+D):=Nat.mul_le_mul_left _ (by omega)
  rw[Nat.mul_add,Nat.mul_one] at this
  unfold ie
  rw[if_neg (by omega),if_pos (by omega)]
theorem NB{X Y:List Nat}{n a:Nat}(h:X.drop (n+1)=Y.drop (n+1)) (ha:X[n]? =some a) (hb:Y[n]? =some a):X.drop n=Y.drop n:=by
 have h1:n<X.length:=(List.getElem?_eq_some_iff.1 ha).1
 have h2:n<Y.length:=(List.getElem?_eq_some_iff.1 hb).1
 rw[List.drop_eq_getElem_cons h1,List.drop_eq_getElem_cons h2,h]
 have:=(List.getElem?_eq_some_iff.1 ha).2
 have:=(List.getElem?_eq_some_iff.1 hb).2
 simp_all
theorem yp{O:Oracle}{K:Nat}{lv:Code→List Nat}(A B:List Nat) (hA:lok 1000000000 A=true) (hB:lok 1000000000 B=true) (hl:A.length≤1000000000) (hlen:A.length=B.length) (hK:A.length<K) {b:Code}(hb:aj Tryz.f202=[b]) (hlv:lv b=[5]):
  ∃F:Env→Bool→Env,∀env0 d,(ab env0 0=.slice 0 0 A.length none∧ab env0 1=.slice 1 0 A.length none∧ab env0 5=.int .i64 ((A.length:Int)-1))→
   aU (aO Tryz.prog) lv O K 41 2 true (.loop b) ⟨env0,[.cells false 1 (iN .u64 A),.cells false 1 (iN .u64 B)],d⟩=some (if A=B then .exit 0 else .ret,⟨F env0 d,[.cells false 1 (iN .u64 A),.cells false 1 (iN .u64 B)],d⟩)∧
    (A≠B→ab (F env0 d) 4=.int .i64 (ie (ay 1000000000 A) (ay 1000000000 B))):=by
 refine bp hlv (fun env0=>ab env0 0=.slice 0 0 A.length none∧ab env0 1=.slice 1 0 A.length none∧ab env0 5=.int .i64 ((A.length:Int)-1)) (fun _ env' =>A≠B→ab env' 4=.int .i64 (ie (ay 1000000000 A) (ay 1000000000 B))) ?_
 clear hlv
 rintro env0 d ⟨h0,h1,h5⟩
 simp[aj,aM,Tryz.f202] at hb
 have hn:az [5] (ad b) env0 ((5,.int .i64 ((A.length:Int)-1))::env0)=az [5] (ad b) env0 env0:=by simp[az,h5]
 rw[←hn]
 refine bK (α:=Nat) (fun n=>⟨az [5] (ad b) env0 ((5,.int .i64 ((n:Int)-1))::env0),[.cells false 1 (iN .u64 A),.cells false 1 (iN .u64 B)],d⟩) id (fun n=>n≤A.length∧A.drop n=B.drop n) (if A=B then .exit 0 else .ret) _ d _ (by split<;>simp) ?_ K A.length ⟨Nat.le_refl _,by rw[List.drop_length,hlen,List.drop_length]⟩ hK
 rintro n ⟨hn1,hn2⟩
 clear hn
 subst hb
 cases n with
 |zero=>
  right
  rw[List.drop_zero,List.drop_zero] at hn2
  simp[hn2]
 |succ n=>
  have hlt:n<A.length:=by omega
  have hltB:n<B.length:=by omega
  obtain⟨x,hx,hx'⟩:=cV hlt
  obtain⟨y,hy,hy'⟩:=cV hltB
  have e1:(((n+1:Nat):Int)-1)=(n:Int):=by omega
  have e2:IntKind.i64.wrap ((n:Int)-1)=(n:Int)-1:=ag (by omega) (by omega)
  rw[e1]
  by_cases hxy:x=y
  ·left
   subst hxy
   refine⟨n,?_⟩
   simp[h0,h1,hx',hy',hlt,hltB,e2]
   exact⟨by omega,NB hn2 hx hy⟩
  ·right
   have hne:A≠B:=by rintro rfl;rw[hx] at hy;cases hy;exact hxy rfl
   have hc:=QV hA hB hlen hn2 hx hy hxy
   have hxy' :¬((x:Int)=(y:Int)):=by omega
   by_cases hlt2:x<y
   ·rw[if_pos hlt2] at hc
    simp[h0,h1,hx',hy',hlt,hltB,hxy',hlt2,hne,hc]
   ·rw[if_neg hlt2] at hc
    simp[h0,h1,hx',hy',hlt,hltB,hxy',hlt2,hne,hc]
theorem HU(A B:List Nat) (hA:lok 1000000000 A=true) (hB:lok 1000000000 B=true) (hl:A.length≤1000000000) (tA:bd A=A) (tB:bd B=B):
  ACallsTo Tryz.prog 202 [.slice 0 0 A.length none,.slice 1 0 B.length none] [.cells false 1 (iN .u64 A),.cells false 1 (iN .u64 B)] (.int .i64 (ie (ay 1000000000 A) (ay 1000000000 B))) [.cells false 1 (iN .u64 A),.cells false 1 (iN .u64 B)]:=by
 have hG:aN Tryz.prog 202=some Tryz.f202:=by kernel_rfl
 obtain⟨b,hb⟩:∃b,aj Tryz.f202=[b]:=⟨_,rfl⟩
 have h:aa (aO Tryz.prog) (fun _=>[5]) (aN Tryz.prog) bt (A.length+1) 202 [.slice 0 0 A.length none,.slice 1 0 B.length none] [.cells false 1 (iN .u64 A),.cells false 1 (iN .u64 B)]=some ⟨.int .i64 (ie (ay 1000000000 A) (ay 1000000000 B)),none,[]⟩:=by
  have dA:dig 1000000000 (ay 1000000000 A)=A:=by rw[ez (by omega) hA,tA]
  have dB:dig 1000000000 (ay 1000000000 B)=B:=by rw[ez (by omega) hB,tB]
  by_cases hlen:A.length=B.length
  ·have hF:=yp (O:=bt) (K:=A.length+1) (lv:=fun _=>[5]) A B hA hB hl hlen (by omega) hb rfl
   simp[aj,aM,Tryz.f202] at hb
   subst hb
   obtain⟨F,hF⟩:=hF
   have e1:IntKind.i64.wrap ((B.length:Int)-1)=(B.length:Int)-1:=ag (by omega) (by omega)
   by_cases hAB:A=B
   ·subst hAB
    have hc:ie (ay 1000000000 A) (ay 1000000000 A)=0:=by unfold ie;simp
    rw[if_pos rfl] at hF
    simp[aa,hG,Tryz.f202,hF,e1,hc]
   ·rw[if_neg hAB] at hF
    simp only[hlen] at hF
    simp[aa,hG,Tryz.f202,hF,hlen,e1,hAB]
  ·have hlen' :¬((A.length:Int)=B.length):=by omega
   by_cases hlt:A.length<B.length
   ·have hv:ay 1000000000 A<ay 1000000000 B:=dp (B:=1000000000) (by omega) (by rw[dA,dB];exact hlt)
    have hc:ie (ay 1000000000 A) (ay 1000000000 B)= -1:=by unfold ie;rw[if_pos hv]
    simp[aa,hG,Tryz.f202,hlen',hlt,hc]
   ·have hv:ay 1000000000 B<ay 1000000000 A:=dp (B:=1000000000) (by omega) (by rw[dA,dB];omega)
    have hc:ie (ay 1000000000 A) (ay 1000000000 B)=1:=by unfold ie;rw[if_neg (by omega),if_pos hv]
    simp[aa,hG,Tryz.f202,hlen',hlt,hc]
 have:=(af ae (aw _) (ak _) (ax _) h).1
 simpa [CallRes.mem] using this
theorem kV(l:List Nat):l.take (bd l).length=bd l:=(iC l).symm
theorem H3{M:Mem}{x:AV}{A:List Nat}(hl:A.length≤1000000000) (hx:RowAt .u64 M x A):∃b,x=.slice b 0 A.length none∧ACallsTo Tryz.prog 206 [x] M (.slice b 0 (bd A).length none) M:=by
 obtain⟨b,e,h⟩:=ACallsTo.rows1 (new:=[]) (rest:=[]) rfl rfl (KX A hl) hx
 refine⟨b,e,?_⟩
 simpa [AV.ren,eK] using h
theorem Dx{M:Mem}{x y:AV}{A B:List Nat}(hA:lok 1000000000 A=true) (hB:lok 1000000000 B=true) (hl:A.length≤1000000000) (tA:bd A=A) (tB:bd B=B) (hx:RowAt .u64 M x A) (hy:RowAt .u64 M y B):
  ACallsTo Tryz.prog 202 [x,y] M (.int .i64 (ie (ay 1000000000 A) (ay 1000000000 B))) M:=by
 obtain⟨b,c,e1,e2,h⟩:=ACallsTo.rows2 (new:=[]) rfl (HU A B hA hB hl tA tB) hx hy
 simpa [AV.ren] using h
noncomputable def be:Oracle:=fun c args M=>match c,args with
 |.fn 206,[x]=>match x,bB .u64 M x with
  |.slice b _ _ _,some A=>if A.length≤1000000000 then some ⟨.slice b 0 (bd A).length none,none,[]⟩ else none
  |_,_=>none
 |.fn 202,[x,y]=>match bB .u64 M x,bB .u64 M y with
  |some A,some B=>if lok 1000000000 A=true∧lok 1000000000 B=true∧A.length≤1000000000∧bd A=A∧bd B=B then some ⟨.int .i64 (ie (ay 1000000000 A) (ay 1000000000 B)),none,[]⟩ else none
  |_,_=>none
 |_,_=>none
theorem ga:OracleOk Tryz.prog be:=by
 have key:∀c args M r,be c args M=some r→(∃f,c=.fn f∧ACallsTo Tryz.prog f args M r.v (r.mem M))∧r.pre=none:=by
  intro c args M r h
  unfold be at h
  split at h
  ·split at h
   ·rename_i hA
    split at h
    ·rename_i hl
     cases h
     obtain⟨b,e,h⟩:=H3 hl (bI hA)
     cases e
     exact⟨⟨_,rfl,by simpa [CallRes.mem] using h⟩,rfl⟩
    ·cases h
   ·cases h
  ·split at h
   ·rename_i hA hB
    split at h
    ·rename_i hc
     obtain⟨c1,c2,c3,c4,c5⟩:=hc
     cases h
     exact⟨⟨_,rfl,by simpa [CallRes.mem] using Dx c1 c2 c3 c4 c5 (bI hA) (bI hB)⟩,rfl⟩
    ·cases h
   ·cases h
  ·cases h
 refine⟨fun f args M r h=>?_,fun b args M r h=>?_,fun c args M r p h hp=>?_⟩
 ·obtain⟨⟨f',e,h1⟩,_⟩:=key _ _ _ _ h
  cases e;exact h1
 ·obtain⟨⟨f',e,h1⟩,_⟩:=key _ _ _ _ h
  cases e
 ·obtain⟨_,h1⟩:=key _ _ _ _ h
  rw[h1] at hp;cases hp
def fB(X Y:List Nat):Nat→List Nat→Mem
 |0,_=>[.cells false 1 (iN .u64 X),.cells false 1 (iN .u64 Y),.cells true 1 []]
 |_+1,done=>[.cells false 1 (iN .u64 X),.cells false 1 (iN .u64 Y),.absent,.cells true 1 (iN .u64 done)]
def fj:Nat→AV
 |0=>.slice 2 0 0 none
 |i+1=>.slice 3 0 (i+1) none
theorem gV(X Y:List Nat) (i:Nat) (done:List Nat):fB X Y (i+1) done=[.cells false 1 (iN .u64 X),.cells false 1 (iN .u64 Y),.absent,.cells true 1 (iN .u64 done)]:=rfl
theorem jc(X Y:List Nat):(fB X Y 0 []).length=3:=rfl
theorem gW(i:Nat):fj (i+1)=.slice 3 0 (i+1) none:=rfl
theorem bC{α:Type}{p q:α→Prop}{r:Prop}(hr:r) (h:∃s,p s∧q s):∃s,p s∧q s∧r:=let ⟨s,a,b⟩:=h;⟨s,a,b,hr⟩
theorem Ax{O:Oracle}{K:Nat}{lv:Code→List Nat}(X Y A B:List Nat) (sa sb:Nat) (hs:(sa=0∧sb=1∧X=A∧Y=B)∨(sa=1∧sb=0∧X=B∧Y=A)) (hA:lok 1000000000 A=true) (hB:lok 1000000000 B=true) (hl:A.length≤1000000000) (hlen:B.length≤A.length) (hK:A.length<K)
  {b:Code}(hb:aj Tryz.f201=[b]) (hlv:lv b=[22,5,6]):
  ∃F:Env→Bool→Env,∀env0 d,(ab env0 1=.slice sb 0 B.length none∧ab env0 20=.slice sa 0 A.length none∧ab env0 21=.int .i64 A.length∧ab env0 5=.slice 2 0 0 none∧ab env0 6=.int .u64 0∧ab env0 22=.int .i64 0)→
   aU (aO Tryz.prog) lv O K 53 2 true (.loop b) ⟨env0,fB X Y 0 [],d⟩=some (.exit 0,⟨F env0 d,fB X Y A.length ((rB 1000000000 A B 0).take A.length),d⟩)∧
    (ab (F env0 d) 5=fj A.length∧ab (F env0 d) 6=.int .u64 (((rB 1000000000 A B 0).getD A.length 0:Nat):Int)):=by
 refine bp hlv (fun env0=>ab env0 1=.slice sb 0 B.length none∧ab env0 20=.slice sa 0 A.length none∧ab env0 21=.int .i64 A.length∧ab env0 5=.slice 2 0 0 none∧ab env0 6=.int .u64 0∧ab env0 22=.int .i64 0)
  (fun _ env' =>ab env' 5=fj A.length∧ab env' 6=.int .u64 (((rB 1000000000 A B 0).getD A.length 0:Nat):Int)) ?_
 clear hlv
 rintro env0 d ⟨h1,h20,h21,h5,h6,h22⟩
 simp[aj,aM,Tryz.f201] at hb
 have hn:az [22,5,6] (ad b) env0 ((22,.int .i64 ((0:Nat):Int))::(5,fj 0)::(6,.int .u64 ((0:Nat):Int))::env0)=az [22,5,6] (ad b) env0 env0:=by simp[az,h5,h6,h22,fj]
 rw[←hn]
 refine bK (α:=Nat×List Nat×Nat) (fun a=>⟨az [22,5,6] (ad b) env0 ((22,.int .i64 (a.1:Int))::(5,fj a.1)::(6,.int .u64 (a.2.2:Int))::env0),fB X Y a.1 a.2.1,d⟩) (fun a=>A.length-a.1)
  (fun a=>a.1≤A.length∧a.2.1.length=a.1∧a.2.2≤1∧a.2.1++rB 1000000000 (A.drop a.1) (B.drop a.1) a.2.2=rB 1000000000 A B 0) (.exit 0) _ d _ (by simp) ?_ K (0,[],0) ⟨Nat.zero_le _,rfl,Nat.zero_le _,rfl⟩ (by simpa using hK)
 rintro ⟨i,done,c⟩ ⟨hi,hd,hc,hinv⟩
 simp only at hi hd hc hinv
 clear hn
 subst hb
 by_cases hiA:i=A.length
 ·right
  subst hiA
  rw[List.drop_length,rB] at hinv
  rw[←hinv,←hd]
  simp only[List.take_left']
  simp[h21,hd]
 ·left
  have hlt:i<A.length:=by omega
  obtain⟨x,hx,hx'⟩:=cV hlt
  have hxb:=eS hA hx
  have eA:A.drop i=x::A.drop (i+1):=by rw[List.drop_eq_getElem_cons hlt,hx']
  have w0:IntKind.i64.wrap 1=1:=by decide
  have w1:IntKind.i64.wrap ((i:Int)+1)=(i:Int)+1:=ag (by omega) (by omega)
  have hI:(i:Int)<(A.length:Int):=by omega
  have hm1:(i+1)*8≤140737488355328:=by omega
  have hm2:i+1≤140737488355328:=by omega
  have ht:(iN .u64 done).take i=iN .u64 done:=List.take_of_length_le (by simp[hd])
  have hM:0<i→fB X Y i done=[.cells false 1 (iN .u64 X),.cells false 1 (iN .u64 Y),.absent,.cells true 1 (iN .u64 done)]:=fun h=>by cases i with
   |zero=>omega
   |succ i=>rfl
  have hO:0<i→fj i=.slice 3 0 i none:=fun h=>by cases i with
   |zero=>omega
   |succ i=>rfl
  by_cases hb1:i<B.length
  ·obtain⟨y,hy,hy'⟩:=cV hb1
   have hyb:=eS hB hy
   have eB:B.drop i=y::B.drop (i+1):=by rw[List.drop_eq_getElem_cons hb1,hy']
   rw[eA,eB,rB,List.headD_cons,List.tail_cons] at hinv
   obtain⟨s,hs'⟩:∃s:Nat,s=c+x+y:=⟨_,rfl⟩
   rw[←hs'] at hinv
   have w2:IntKind.u64.wrap ((c:Int)+(x:Int))=(c:Int)+(x:Int):=bR (by omega) (by omega)
   have w3:IntKind.u64.wrap ((c:Int)+(x:Int)+(y:Int))=(s:Int):=by rw[bR (by omega) (by omega)];omega
   have w4:(s:Int).tmod 1000000000=(s:Int)%1000000000:=xJ s 1000000000
   have w5:IntKind.u64.wrap ((s:Int) / 1000000000)=(s:Int) / 1000000000:=bR (by omega) (by omega)
   refine⟨(i+1,done++[s%1000000000],s / 1000000000),?_⟩
   refine bC (r:=_∧_) (show(i+1≤A.length∧(done++[s%1000000000]).length=i+1∧s / 1000000000≤1∧(done++[s%1000000000])++rB 1000000000 (A.drop (i+1)) (B.drop (i+1)) (s / 1000000000)=rB 1000000000 A B 0)∧A.length-(i+1)<A.length-i by
    refine⟨⟨by omega,by simp[hd],by omega,?_⟩,by omega⟩
    rw[←hinv];simp) ?_
   clear hinv
   rcases hs with⟨rfl,rfl,rfl,rfl⟩ | ⟨rfl,rfl,rfl,rfl⟩<;>rcases Nat.eq_zero_or_pos i with rfl | hpos
   all_goals first
    |(have hd0:=List.eq_nil_of_length_eq_zero hd;subst hd0;simp[fB,fj,h1,h20,h21,hx',hy',hlt,hb1,w0,w2,w3,w4,w5,bV];done)
    |simp[hM hpos,hO hpos,gV,gW,jc,h1,h20,h21,hx',hy',hI,hm1,hm2,hlt,hb1,hd,w1,w2,w3,w4,w5,ht,cR,bV]
  ·have eB:B.drop i=[]:=List.drop_eq_nil_of_le (by omega)
   have eB2:B.drop (i+1)=[]:=List.drop_eq_nil_of_le (by omega)
   rw[eA,eB,rB] at hinv
   simp only[List.headD_nil,List.tail_nil,Nat.add_zero] at hinv
   obtain⟨s,hs'⟩:∃s:Nat,s=c+x:=⟨_,rfl⟩
   rw[←hs'] at hinv
   have w3:IntKind.u64.wrap ((c:Int)+(x:Int))=(s:Int):=by rw[bR (by omega) (by omega)];omega
   have w4:(s:Int).tmod 1000000000=(s:Int)%1000000000:=xJ s 1000000000
   have w5:IntKind.u64.wrap ((s:Int) / 1000000000)=(s:Int) / 1000000000:=bR (by omega) (by omega)
   refine⟨(i+1,done++[s%1000000000],s / 1000000000),?_⟩
   refine bC (r:=_∧_) (show(i+1≤A.length∧(done++[s%1000000000]).length=i+1∧s / 1000000000≤1∧(done++[s%1000000000])++rB 1000000000 (A.drop (i+1)) (B.drop (i+1)) (s / 1000000000)=rB 1000000000 A B 0)∧A.length-(i+1)<A.length-i by
    refine⟨⟨by omega,by simp[hd],by omega,?_⟩,by omega⟩
    rw[←hinv,eB2];simp) ?_
   clear hinv
   rcases hs with⟨rfl,rfl,rfl,rfl⟩ | ⟨rfl,rfl,rfl,rfl⟩<;>rcases Nat.eq_zero_or_pos i with rfl | hpos
   all_goals first
    |(have hd0:=List.eq_nil_of_length_eq_zero hd;subst hd0;simp[fB,fj,h1,h20,h21,hx',hlt,hb1,w0,w3,w4,w5,bV];done)
    |simp[hM hpos,hO hpos,gV,gW,jc,h1,h20,h21,hx',hI,hm1,hm2,hlt,hb1,hd,w1,w3,w4,w5,ht,cR,bV]
theorem yL(B:Nat):∀(a b:List Nat) (c:Nat),(rB B a b c).length=a.length+1
 | [],_,_=>rfl
 |x::a,b,c=>by rw[rB,List.length_cons,yL B a];rfl
theorem JU{B:Nat}(hB:2≤B) {a b:List Nat}(ha:lok B a=true) (hb:lok B b=true) (hl:b.length≤a.length):bd (rB B a b 0)=dig B (ay B a+ay B b):=by
 rw[←ez hB (J5 hB a b 0 ha hb (by omega)),G4 B a b 0 hl,Nat.add_zero]
theorem AT{l:List Nat}{n:Nat}(h:l.length=n+1):l.take n++[l.getD n 0]=l:=by
 have hn:n<l.length:=by omega
 have:l.getD n 0=l[n]:=by simp[List.getD,hn]
 rw[this]
 have h2:l.take (n+1)=l:=List.take_of_length_le (by omega)
 rw[List.take_add_one,List.getElem?_eq_getElem hn] at h2
 exact h2
theorem sz(X Y A B:List Nat) (sa sb:Nat) (hs:(sa=0∧sb=1∧X=A∧Y=B∧¬A.length<B.length)∨(sa=1∧sb=0∧X=B∧Y=A∧B.length<A.length)) (hA:lok 1000000000 A=true) (hB:lok 1000000000 B=true) (hl:A.length≤100000000) (hl2:B.length≤A.length):
  aa (aO Tryz.prog) (fun _=>[22,5,6]) (aN Tryz.prog) be (A.length+1) 201 [.slice 0 0 X.length none,.slice 1 0 Y.length none] [.cells false 1 (iN .u64 X),.cells false 1 (iN .u64 Y)]=
   some ⟨.slice 2 0 (bd (rB 1000000000 A B 0)).length none,none,[.cells true 1 (iN .u64 (rB 1000000000 A B 0))]⟩:=by
 have hG:aN Tryz.prog 201=some Tryz.f201:=by kernel_rfl
 obtain⟨b,hb⟩:∃b,aj Tryz.f201=[b]:=⟨_,rfl⟩
 have hlen:=yL 1000000000 A B 0
 have hlast:=AT hlen
 obtain⟨F,hF⟩:=Ax (O:=be) (K:=A.length+1) (lv:=fun _=>[22,5,6]) X Y A B sa sb (by rcases hs with⟨a,b,c,d,_⟩ | ⟨a,b,c,d,_⟩;exact .inl ⟨a,b,c,d⟩;exact .inr ⟨a,b,c,d⟩) hA hB (by omega) hl2 (by omega) hb rfl
 simp[aj,aM,Tryz.f201] at hb
 subst hb
 obtain⟨cap,hcap⟩:∃cap:Int,cap=(A.length:Int)+1:=⟨_,rfl⟩
 have w1:IntKind.i64.wrap ((A.length:Int)+1)=cap:=by rw[hcap];exact ag (by omega) (by omega)
 have h0:0≤cap:=by omega
 have h1:8*cap≤281474976710656:=by omega
 have h2:cap≤281474976710656:=by omega
 obtain⟨raw,hraw⟩:∃raw,raw=rB 1000000000 A B 0:=⟨_,rfl⟩
 rcases Nat.eq_zero_or_pos A.length with hz | hpos
 ·have hA0:=List.eq_nil_of_length_eq_zero hz
  have hB0:B=[]:=List.eq_nil_of_length_eq_zero (by omega)
  subst hA0
  subst hB0
  simp only[List.length_nil,fB,fj,rB,Nat.zero_add,Int.cast_ofNat_Int,List.take_zero,List.getD_cons_zero] at hF
  have h6:bB .u64 [.cells false 1 [],.cells false 1 [],.absent,.cells true 1 [.int .u64 0],.cells true 1 [.int .u64 0]] (.slice 4 0 1 none)=some [0]:=by rfl
  rcases hs with⟨rfl,rfl,rfl,rfl,hlt⟩ | ⟨rfl,rfl,rfl,rfl,hlt⟩
  ·have w0:IntKind.i64.wrap 1=1:=by decide
   simp only[NO] at hF
   simp[aa,hG,Tryz.f201,hF,be,h6,rB,bd,bV,w0]
  ·simp at hlt
 ·have hM:∀done,fB X Y A.length done=[.cells false 1 (iN .u64 X),.cells false 1 (iN .u64 Y),.absent,.cells true 1 (iN .u64 done)]:=fun done=>by
   cases h:A.length with
   |zero=>omega
   |succ i=>rfl
  have hO:fj A.length=.slice 3 0 A.length none:=by
   cases h:A.length with
   |zero=>omega
   |succ i=>rfl
  rw[hM,hO] at hF
  simp only[fB] at hF
  obtain⟨pre,hpre⟩:∃pre,pre=(rB 1000000000 A B 0).take A.length:=⟨_,rfl⟩
  obtain⟨last,hla2⟩:∃last,last=(rB 1000000000 A B 0).getD A.length 0:=⟨_,rfl⟩
  rw[←hpre,←hla2] at hF hlast
  rw[←hraw] at hlast hlen ⊢
  have hpl:pre.length=A.length:=by rw[hpre,List.length_take,←hraw,hlen];omega
  have h3:(A.length+1)*8≤140737488355328:=by omega
  have h4:A.length≤140737488355327:=by omega
  have h5:(iN .u64 pre).take A.length=iN .u64 pre:=List.take_of_length_le (by simp[hpl])
  have h6:bB .u64 [.cells false 1 (iN .u64 X),.cells false 1 (iN .u64 Y),.absent,.absent,.cells true 1 [.int .u64 (last:Int)],.cells true 1 (iN .u64 raw)] (.slice 5 0 (A.length+1) none)=some raw:=
   ba rfl (by simp[hlen]) (List.take_of_length_le (by simp[hlen]))
  have h7:raw.length≤1000000000:=by omega
  have h8:iN .u64 pre++[.int .u64 (last:Int)]=iN .u64 raw:=by rw[QZ,hlast]
  rcases hs with⟨rfl,rfl,rfl,rfl,hlt⟩ | ⟨rfl,rfl,rfl,rfl,hlt⟩
  ·simp[aa,hG,Tryz.f201,hlt,w1,h0,h1,h2,hF,be,hpl,h3,h4,h5,h6,h7,h8]
  ·simp[aa,hG,Tryz.f201,hlt,w1,h0,h1,h2,hF,be,hpl,h3,h4,h5,h6,h7,h8]
theorem y8{k:IntKind}{l r:List Nat}(h:l <+: r):iN k l <+: iN k r:=by
 obtain⟨t,rfl⟩:=h
 exact⟨iN k t,by rw[←cR]⟩
theorem dy(l:List Nat):bd l <+: l:=by
 rw[iC l];exact List.take_prefix _ _
theorem HW{M:Mem}{x y:AV}{A B:List Nat}(hA:lok 1000000000 A=true) (hB:lok 1000000000 B=true) (hl:A.length≤100000000) (hl2:B.length≤100000000) (hx:RowAt .u64 M x A) (hy:RowAt .u64 M y B):
  ACallsTo Tryz.prog 201 [x,y] M (.slice M.length 0 (dig 1000000000 (ay 1000000000 A+ay 1000000000 B)).length none) (M++[.cells true 1 (iN .u64 (dig 1000000000 (ay 1000000000 A+ay 1000000000 B)))]):=by
 have main:∃raw,bd raw=dig 1000000000 (ay 1000000000 A+ay 1000000000 B)∧ACallsTo Tryz.prog 201 [.slice 0 0 A.length none,.slice 1 0 B.length none] [.cells false 1 (iN .u64 A),.cells false 1 (iN .u64 B)] (.slice 2 0 (bd raw).length none) [.cells false 1 (iN .u64 A),.cells false 1 (iN .u64 B),.cells true 1 (iN .u64 raw)]:=by
  by_cases hlt:A.length<B.length
  ·refine⟨rB 1000000000 B A 0,by rw[JU (by omega) hB hA (by omega),Nat.add_comm],?_⟩
   have:=(af ae (aw _) ga (ax _) (sz A B B A 1 0 (.inr ⟨rfl,rfl,rfl,rfl,hlt⟩) hB hA hl2 (by omega))).1
   simpa [CallRes.mem] using this
  ·refine⟨rB 1000000000 A B 0,JU (by omega) hA hB (by omega),?_⟩
   have:=(af ae (aw _) ga (ax _) (sz A B A B 0 1 (.inl ⟨rfl,rfl,rfl,rfl,hlt⟩) hA hB hl (by omega))).1
   simpa [CallRes.mem] using this
 obtain⟨raw,hr,h⟩:=main
 have h2:=ACallsTo.trunc (m:=[.cells false 1 (iN .u64 A),.cells false 1 (iN .u64 B)]) h (y8 (dy raw))
 obtain⟨b,c,rfl,rfl,h3⟩:=ACallsTo.rows2 (new:=[.cells true 1 (iN .u64 (bd raw))]) rfl h2 hx hy
 rw[hr] at h3
 simpa [AV.ren,eK] using h3
theorem zR(B:Nat):∀(a b:List Nat) (c:Nat),(rQ B a b c).length=a.length
 | [],_,_=>rfl
 |x::a,b,c=>by unfold rQ;split<;>simp[zR B a]
theorem Qk(B x:Nat) (a:List Nat) (c:Nat):rQ B (x::a) [] c=if x<c then (x+B-c)::rQ B a [] 1 else (x-c)::rQ B a [] 0:=rfl
theorem yj{O:Oracle}{K:Nat}{lv:Code→List Nat}(A B:List Nat) (hA:lok 1000000000 A=true) (hB:lok 1000000000 B=true) (hl:A.length≤1000000000) (hlen:B.length≤A.length) (hK:A.length<K)
  {b:Code}(hb:aj Tryz.f203=[b]) (hlv:lv b=[15,5,6]):
  ∃F:Env→Bool→Env,∀env0 d,(ab env0 1=.slice 1 0 B.length none∧ab env0 13=.slice 0 0 A.length none∧ab env0 14=.int .i64 A.length∧ab env0 5=.slice 2 0 0 none∧ab env0 6=.int .u64 0∧ab env0 15=.int .i64 0)→
   aU (aO Tryz.prog) lv O K 45 2 true (.loop b) ⟨env0,fB A B 0 [],d⟩=some (.exit 0,⟨F env0 d,fB A B A.length (rQ 1000000000 A B 0),d⟩)∧ab (F env0 d) 5=fj A.length:=by
 refine bp hlv (fun env0=>ab env0 1=.slice 1 0 B.length none∧ab env0 13=.slice 0 0 A.length none∧ab env0 14=.int .i64 A.length∧ab env0 5=.slice 2 0 0 none∧ab env0 6=.int .u64 0∧ab env0 15=.int .i64 0)
  (fun _ env' =>ab env' 5=fj A.length) ?_
 clear hlv
 rintro env0 d ⟨h1,h20,h21,h5,h6,h22⟩
 simp[aj,aM,Tryz.f203] at hb
 have hn:az [15,5,6] (ad b) env0 ((15,.int .i64 ((0:Nat):Int))::(5,fj 0)::(6,.int .u64 ((0:Nat):Int))::env0)=az [15,5,6] (ad b) env0 env0:=by simp[az,h5,h6,h22,fj]
 rw[←hn]
 refine bK (α:=Nat×List Nat×Nat) (fun a=>⟨az [15,5,6] (ad b) env0 ((15,.int .i64 (a.1:Int))::(5,fj a.1)::(6,.int .u64 (a.2.2:Int))::env0),fB A B a.1 a.2.1,d⟩) (fun a=>A.length-a.1)
  (fun a=>a.1≤A.length∧a.2.1.length=a.1∧a.2.2≤1∧a.2.1++rQ 1000000000 (A.drop a.1) (B.drop a.1) a.2.2=rQ 1000000000 A B 0) (.exit 0) _ d _ (by simp) ?_ K (0,[],0) ⟨Nat.zero_le _,rfl,Nat.zero_le _,rfl⟩ (by simpa using hK)
 rintro ⟨i,done,c⟩ ⟨hi,hd,hc,hinv⟩
 simp only at hi hd hc hinv
 clear hn
 subst hb
 by_cases hiA:i=A.length
 ·right
  subst hiA
  rw[List.drop_length,rQ,List.append_nil] at hinv
  rw[←hinv]
  simp[h21]
 ·left
  have hlt:i<A.length:=by omega
  obtain⟨x,hx,hx'⟩:=cV hlt
  have hxb:=eS hA hx
  have eA:A.drop i=x::A.drop (i+1):=by rw[List.drop_eq_getElem_cons hlt,hx']
  have w0:IntKind.i64.wrap 1=1:=by decide
  have w1:IntKind.i64.wrap ((i:Int)+1)=(i:Int)+1:=ag (by omega) (by omega)
  have hI:(i:Int)<(A.length:Int):=by omega
  have hm1:(i+1)*8≤140737488355328:=by omega
  have hm2:i+1≤140737488355328:=by omega
  have ht:(iN .u64 done).take i=iN .u64 done:=List.take_of_length_le (by simp[hd])
  have hM:0<i→fB A B i done=[.cells false 1 (iN .u64 A),.cells false 1 (iN .u64 B),.absent,.cells true 1 (iN .u64 done)]:=fun h=>by cases i with
   |zero=>omega
   |succ i=>rfl
  have hO:0<i→fj i=.slice 3 0 i none:=fun h=>by cases i with
   |zero=>omega
   |succ i=>rfl
  have hdone:i=0→done=[]:=fun h=>List.eq_nil_of_length_eq_zero (by omega)
  by_cases hb1:i<B.length
  ·obtain⟨y,hy,hy'⟩:=cV hb1
   have hyb:=eS hB hy
   have eB:B.drop i=y::B.drop (i+1):=by rw[List.drop_eq_getElem_cons hb1,hy']
   rw[eA,eB,rQ,List.headD_cons,List.tail_cons] at hinv
   obtain⟨s,hs'⟩:∃s:Nat,s=c+y:=⟨_,rfl⟩
   rw[←hs'] at hinv
   have w2:IntKind.u64.wrap ((c:Int)+(y:Int))=(s:Int):=by rw[bR (by omega) (by omega)];omega
   by_cases hxs:x<s
   ·rw[if_pos hxs] at hinv
    obtain⟨r,hr⟩:∃r:Nat,r=x+1000000000-s:=⟨_,rfl⟩
    rw[←hr] at hinv
    have w3:IntKind.u64.wrap ((x:Int)+1000000000)=(x:Int)+1000000000:=bR (by omega) (by omega)
    have w4:IntKind.u64.wrap ((x:Int)+1000000000-(s:Int))=(r:Int):=by rw[bR (by omega) (by omega)];omega
    refine⟨(i+1,done++[r],1),?_⟩
    refine bC (r:=_∧_) (show(i+1≤A.length∧(done++[r]).length=i+1∧1≤1∧(done++[r])++rQ 1000000000 (A.drop (i+1)) (B.drop (i+1)) 1=rQ 1000000000 A B 0)∧A.length-(i+1)<A.length-i by
     refine⟨⟨by omega,by simp[hd],by omega,?_⟩,by omega⟩
     rw[←hinv];simp) ?_
    clear hinv
    rcases Nat.eq_zero_or_pos i with rfl | hpos
    ·obtain rfl:=hdone rfl
     simp[fB,fj,h1,h20,h21,hx',hy',hlt,hb1,w0,w2,w3,w4,hxs,bV]
    ·simp[hM hpos,hO hpos,gV,gW,jc,h1,h20,h21,hx',hy',hI,hm1,hm2,hlt,hb1,hd,w1,w2,w3,w4,hxs,ht,cR,bV]
   ·rw[if_neg hxs] at hinv
    obtain⟨r,hr⟩:∃r:Nat,r=x-s:=⟨_,rfl⟩
    rw[←hr] at hinv
    have w4:IntKind.u64.wrap ((x:Int)-(s:Int))=(r:Int):=by rw[bR (by omega) (by omega)];omega
    refine⟨(i+1,done++[r],0),?_⟩
    refine bC (r:=_∧_) (show(i+1≤A.length∧(done++[r]).length=i+1∧0≤1∧(done++[r])++rQ 1000000000 (A.drop (i+1)) (B.drop (i+1)) 0=rQ 1000000000 A B 0)∧A.length-(i+1)<A.length-i by
     refine⟨⟨by omega,by simp[hd],by omega,?_⟩,by omega⟩
     rw[←hinv];simp) ?_
    clear hinv
    rcases Nat.eq_zero_or_pos i with rfl | hpos
    ·obtain rfl:=hdone rfl
     simp[fB,fj,h1,h20,h21,hx',hy',hlt,hb1,w0,w2,w4,hxs,bV]
    ·simp[hM hpos,hO hpos,gV,gW,jc,h1,h20,h21,hx',hy',hI,hm1,hm2,hlt,hb1,hd,w1,w2,w4,hxs,ht,cR,bV]
  ·have eB:B.drop i=[]:=List.drop_eq_nil_of_le (by omega)
   have eB2:B.drop (i+1)=[]:=List.drop_eq_nil_of_le (by omega)
   rw[eA,eB,Qk] at hinv
   by_cases hxs:x<c
   ·rw[if_pos hxs] at hinv
    obtain⟨r,hr⟩:∃r:Nat,r=x+1000000000-c:=⟨_,rfl⟩
    rw[←hr] at hinv
    have w3:IntKind.u64.wrap ((x:Int)+1000000000)=(x:Int)+1000000000:=bR (by omega) (by omega)
    have w4:IntKind.u64.wrap ((x:Int)+1000000000-(c:Int))=(r:Int):=by rw[bR (by omega) (by omega)];omega
    refine⟨(i+1,done++[r],1),?_⟩
    refine bC (r:=_∧_) (show(i+1≤A.length∧(done++[r]).length=i+1∧1≤1∧(done++[r])++rQ 1000000000 (A.drop (i+1)) (B.drop (i+1)) 1=rQ 1000000000 A B 0)∧A.length-(i+1)<A.length-i by
     refine⟨⟨by omega,by simp[hd],by omega,?_⟩,by omega⟩
     rw[←hinv,eB2];simp) ?_
    clear hinv
    rcases Nat.eq_zero_or_pos i with rfl | hpos
    ·obtain rfl:=hdone rfl
     simp[fB,fj,h1,h20,h21,hx',hlt,hb1,w0,w3,w4,hxs,bV]
    ·simp[hM hpos,hO hpos,gV,gW,jc,h1,h20,h21,hx',hI,hm1,hm2,hlt,hb1,hd,w1,w3,w4,hxs,ht,cR,bV]
   ·rw[if_neg hxs] at hinv
    obtain⟨r,hr⟩:∃r:Nat,r=x-c:=⟨_,rfl⟩
    rw[←hr] at hinv
    have w4:IntKind.u64.wrap ((x:Int)-(c:Int))=(r:Int):=by rw[bR (by omega) (by omega)];omega
    refine⟨(i+1,done++[r],0),?_⟩
    refine bC (r:=_∧_) (show(i+1≤A.length∧(done++[r]).length=i+1∧0≤1∧(done++[r])++rQ 1000000000 (A.drop (i+1)) (B.drop (i+1)) 0=rQ 1000000000 A B 0)∧A.length-(i+1)<A.length-i by
     refine⟨⟨by omega,by simp[hd],by omega,?_⟩,by omega⟩
     rw[←hinv,eB2];simp) ?_
    clear hinv
    rcases Nat.eq_zero_or_pos i with rfl | hpos
    ·obtain rfl:=hdone rfl
     simp[fB,fj,h1,h20,h21,hx',hlt,hb1,w0,w4,hxs,bV]
    ·simp[hM hpos,hO hpos,gV,gW,jc,h1,h20,h21,hx',hI,hm1,hm2,hlt,hb1,hd,w1,w4,hxs,ht,cR,bV]
theorem At(A B:List Nat) (hA:lok 1000000000 A=true) (hB:lok 1000000000 B=true) (hl:A.length≤100000000) (hl2:B.length≤A.length):
  aa (aO Tryz.prog) (fun _=>[15,5,6]) (aN Tryz.prog) be (A.length+1) 203 [.slice 0 0 A.length none,.slice 1 0 B.length none] [.cells false 1 (iN .u64 A),.cells false 1 (iN .u64 B)]=
   some ⟨.slice 2 0 (bd (rQ 1000000000 A B 0)).length none,none,[.cells true 1 (iN .u64 (rQ 1000000000 A B 0))]⟩:=by
 have hG:aN Tryz.prog 203=some Tryz.f203:=by kernel_rfl
 obtain⟨b,hb⟩:∃b,aj Tryz.f203=[b]:=⟨_,rfl⟩
 have hlen:=zR 1000000000 A B 0
 obtain⟨F,hF⟩:=yj (O:=be) (K:=A.length+1) (lv:=fun _=>[15,5,6]) A B hA hB (by omega) hl2 (by omega) hb rfl
 simp[aj,aM,Tryz.f203] at hb
 subst hb
 obtain⟨cap,hcap⟩:∃cap:Int,cap=(A.length:Int):=⟨_,rfl⟩
 have h0:0≤(A.length:Int):=by omega
 have h1:8*(A.length:Int)≤281474976710656:=by omega
 have h2:(A.length:Int)≤281474976710656:=by omega
 obtain⟨raw,hraw⟩:∃raw,raw=rQ 1000000000 A B 0:=⟨_,rfl⟩
 rw[←hraw] at hlen hF ⊢
 rcases Nat.eq_zero_or_pos A.length with hz | hpos
 ·have hA0:=List.eq_nil_of_length_eq_zero hz
  have hB0:B=[]:=List.eq_nil_of_length_eq_zero (by omega)
  subst hA0
  subst hB0
  have hr0:raw=[]:=List.eq_nil_of_length_eq_zero (by simpa using hlen)
  subst hr0
  simp only[List.length_nil,fB,fj,Nat.zero_add,Int.cast_ofNat_Int,NO] at hF
  have h6:bB .u64 [.cells false 1 [],.cells false 1 [],.cells true 1 []] (.slice 2 0 0 none)=some []:=by rfl
  simp[aa,hG,Tryz.f203,hF,be,h6,bd]
 ·have hM:∀done,fB A B A.length done=[.cells false 1 (iN .u64 A),.cells false 1 (iN .u64 B),.absent,.cells true 1 (iN .u64 done)]:=fun done=>by
   cases h:A.length with
   |zero=>omega
   |succ i=>rfl
  have hO:fj A.length=.slice 3 0 A.length none:=by
   cases h:A.length with
   |zero=>omega
   |succ i=>rfl
  rw[hM,hO] at hF
  simp only[fB] at hF
  have h6:bB .u64 [.cells false 1 (iN .u64 A),.cells false 1 (iN .u64 B),.absent,.cells true 1 (iN .u64 raw)] (.slice 3 0 A.length none)=some raw:=
   ba rfl (by simp[hlen]) (List.take_of_length_le (by simp[hlen]))
  have h7:raw.length≤1000000000:=by omega
  simp[aa,hG,Tryz.f203,h1,h2,hF,be,h6,h7]
theorem Dv{M:Mem}{x y:AV}{A B:List Nat}(hA:lok 1000000000 A=true) (hB:lok 1000000000 B=true) (hl:A.length≤100000000) (hl2:B.length≤A.length) (hle:ay 1000000000 B≤ay 1000000000 A) (hx:RowAt .u64 M x A) (hy:RowAt .u64 M y B):
  ACallsTo Tryz.prog 203 [x,y] M (.slice M.length 0 (dig 1000000000 (ay 1000000000 A-ay 1000000000 B)).length none) (M++[.cells true 1 (iN .u64 (dig 1000000000 (ay 1000000000 A-ay 1000000000 B)))]):=by
 obtain⟨s1,s2⟩:=zm (B:=1000000000) (by omega) A B 0 hA hB (by omega) hl2 (by omega)
 have hr:bd (rQ 1000000000 A B 0)=dig 1000000000 (ay 1000000000 A-ay 1000000000 B):=by
  rw[←ez (by omega) s2];congr 1;omega
 have:=(af ae (aw _) ga (ax _) (At A B hA hB hl hl2)).1
 simp only[CallRes.mem,Option.getD_none,List.cons_append,List.nil_append] at this
 have h2:=ACallsTo.trunc (m:=[.cells false 1 (iN .u64 A),.cells false 1 (iN .u64 B)]) this (y8 (dy _))
 obtain⟨b,c,rfl,rfl,h3⟩:=ACallsTo.rows2 (new:=[.cells true 1 (iN .u64 (bd (rQ 1000000000 A B 0)))]) rfl h2 hx hy
 rw[hr] at h3
 simpa [AV.ren,eK] using h3
end Go.Proofs
