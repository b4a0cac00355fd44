/- See G38. -/
import Derived.Test.YthpgbelancmpjaaGreatDoorG08
set_option linter.all false
namespace Go.Eng
def ao(B:Nat):List Nat->Nat
 | []=>0
 |d::l=>d+B*ao B l
def lok(B:Nat)(l:List Nat):Bool:=l.all fun d=>decide (d<B)
def aW:List Nat->List Nat
 | []=>[]
 |d::l=>match aW l with
  | []=>if d=0 then [] else [d]
  |x::r=>d::x::r
def UD(B:Nat):Nat->Nat->List Nat
 |0,_=>[]
 |f+1,n=>if n=0 then [] else n%B::UD B f (n / B)
def dig(B n:Nat):List Nat:=UD B (n.log2+1) n
theorem Te{B:Nat}(H:2<=B):∀(f g n:Nat),n<2 ^ f->n<2 ^ g->UD B f n=UD B g n
 |0,g,n,h,_=>by
  have:n=0:=by simp at h;omega
  subst this;cases g<;>simp[UD]
 |f+1,0,n,_,h=>by
  have:n=0:=by simp at h;omega
  subst this;simp[UD]
 |f+1,g+1,n,h1,h2=>by
  unfold UD;by_cases Z:n=0
  .rw[if_pos Z,if_pos Z]
  .rw[if_neg Z,if_neg Z]
   have h:n / B<=n / 2:=Nat.div_le_div_left H (by omega);rw[Nat.pow_succ] at h1 h2;rw[Te H f g (n / B) (by omega) (by omega)]
theorem dW(B:Nat):dig B 0=[]:=by simp[dig,UD]
variable{B n:Nat}
section
variable (hB:2<=B)
include hB
theorem yh(H:n≠0):dig B n=n%B::dig B (n / B):=by
 have Z:n<2 ^ (n.log2+1):=Nat.lt_log2_self;have X:n / B<2 ^ ((n / B).log2+1):=Nat.lt_log2_self;have h:n / B<=n / 2:=Nat.div_le_div_left hB (by omega);show UD B (n.log2+1) n=_
 rw[UD,if_neg H];congr 1;exact Te hB _ _ _ (by rw[Nat.pow_succ] at Z;omega) X
theorem Of{p:Nat->Prop}(h0:p 0)(h1:∀n,n≠0->p (n / B)->p n)(n:Nat):p n:=by
 induction n using Nat.strongRecOn with
 |_ n ih=>
  by_cases Z:n=0
  .subst Z;exact h0
  .exact h1 n Z (ih (n / B) (Nat.div_lt_self (by omega) hB))
theorem bL(n:Nat):ao B (dig B n)=n:=by
 induction n using Of hB with
 |h0=>rw[dW];rfl
 |h1 n hn ih=>
  rw[yh hB hn,ao,ih];have:=Nat.mod_add_div n B;omega
theorem ca(n:Nat):lok B (dig B n)=true:=by
 induction n using Of hB with
 |h0=>rw[dW];rfl
 |h1 n hn ih=>
  rw[yh hB hn];unfold lok at ih |-;rw[QQg,ih];simp[Nat.mod_lt n (show 0<B by omega)]
end
theorem im(B:Nat):∀(l r:List Nat),ao B (l++r)=ao B l+B ^ l.length*ao B r
 | [],r=>by simp[ao]
 |d::l,r=>by rw[List.cons_append,ao,ao,im B l r,List.length_cons,Nat.pow_succ,Nat.mul_add,QQZ (B ^ l.length) B,QXZ];omega
theorem gW{B:Nat}:∀{l:List Nat},lok B l=true->ao B l<B ^ l.length
 | [],_=>by simp[ao]
 |d::l,h=>by unfold lok at h;simp only[QQg,Es,GE] at h;have:=gW (l:=l) h.2;rw[ao,List.length_cons,Nat.pow_succ];have Z:B*(ao B l+1)<=B*B ^ l.length:=Nat.mul_le_mul_left _ this;rw[Nat.mul_add] at Z;rw[QQZ (B ^ l.length) B];omega
theorem EZ(B:Nat):∀l:List Nat,ao B (aW l)=ao B l
 | []=>rfl
 |d::l=>by
  have Z:=EZ B l;unfold aW;split
  .rename_i h
   rw[h] at Z;rw[ao,<-Z];split
   next X=>subst X;simp[ao]
   .simp[ao]
  .rename_i x r h
   rw[h] at Z;show d+B*ao B (x::r)=d+B*ao B l
   rw[Z]
theorem fC(H:2<=B):dig B n=[]↔n=0:=by
 constructor
 .intro h
  by_cases Z:n=0
  .exact Z
  .rw[yh H Z] at h;cases h
 .rintro rfl;exact dW B
theorem dV{B:Nat}(H:2<=B):∀{l:List Nat},lok B l=true->dig B (ao B l)=aW l
 | [],_=>dW B
 |d::l,h=>by
  unfold lok at h;simp only[QQg,Es,GE] at h;have Z:=dV H (l:=l) h.2;have R:ao B (d::l)=d+B*ao B l:=rfl;have V:(d+B*ao B l) / B=ao B l:=by rw[Nat.add_mul_div_left _ _ (by omega),Nat.div_eq_of_lt h.1,QQb]
  have U:(d+B*ao B l)%B=d:=by rw[Nat.add_mul_mod_self_left,QQj h.1]
  rw[R];unfold aW;split
  .rename_i S
   rw[S] at Z;have O:=(fC H).1 Z;rw[O];split
   next X=>subst X;exact dW B
   .rename_i X
    rw[yh H (by omega),Nat.mul_zero,Nat.add_zero,QQj h.1,Nat.div_eq_of_lt h.1,dW]
  .rename_i x r S
   rw[S] at Z;have N:ao B l≠0:=by intro e;rw[e,dW] at Z;cases Z
   have:d+B*ao B l≠0:=by have:0<B*ao B l:=Nat.mul_pos (by omega) (by omega);omega
   rw[yh H this,V,U,Z]
theorem cm(H:2<=B)(n:Nat):aW (dig B n)=dig B n:=by rw[<-dV H (ca H n),bL H]
theorem jK:∀l:List Nat,aW (l++[0])=aW l
 | []=>rfl
 |d::l=>by rw[List.cons_append,aW,jK l,aW]
theorem EY{d:Nat}(hd:d≠0):∀l:List Nat,aW (l++[d])=l++[d]
 | []=>by simp[aW,hd]
 |c::l=>by rw[List.cons_append,aW,EY hd l];cases l<;>rfl
theorem dm:∀l:List Nat,(aW l).length<=l.length
 | []=>L9 _
 |d::l=>by
  have:=dm l;unfold aW;split
  .split<;>simp
  .rename_i x r h
   rw[h] at this;simp only[List.length_cons] at this |-;omega
theorem kU:∀l:List Nat,aW l=l.take (aW l).length
 | []=>rfl
 |d::l=>by
  have:=kU l;unfold aW;split
  .split<;>simp
  .rename_i x r h
   rw[h] at this;rw[List.length_cons,List.take_succ_cons,<-this]
section
variable (hB:2<=B)
include hB
theorem sU(n:Nat):n<B ^ (dig B n).length:=by
 have:=gW (ca hB n)
 rwa [bL hB] at this
theorem tf(n:Nat)(H:n≠0):B ^ ((dig B n).length-1)<=n:=by
 induction n using Of hB with
 |h0=>exact absurd rfl H
 |h1 n _ ih=>
  rw[yh hB H,List.length_cons,Nat.add_sub_cancel];by_cases h0:n / B=0
  .rw[h0,dW];simp;omega
  .have:=ih h0
   have Z:0<(dig B (n / B)).length:=by
    cases h:dig B (n / B) with
    |nil=>exact absurd ((fC hB).1 h) h0
    |cons=>simp
   have e:B ^ (dig B (n / B)).length=B*B ^ ((dig B (n / B)).length-1):=by rw[QQZ,<-Nat.pow_succ];congr 1;omega
   rw[e];exact QQd (Nat.mul_le_mul_left _ this) (Nat.mul_div_le n B)
theorem dU{m:Nat}(h:(dig B m).length<(dig B n).length):m<n:=by
 have Z:n≠0:=by rintro rfl;rw[dW] at h;simp at h
 have X:=sU hB m;have V:=tf hB n Z;have h3:B ^ (dig B m).length<=B ^ ((dig B n).length-1):=P3 (by omega) (by omega);omega
theorem fH{k:Nat}(h:n<B ^ k):(dig B n).length<=k:=by
 by_cases Z:n=0
 .subst Z;rw[dW];simp
 .have V:=tf hB n Z
  have X:B ^ ((dig B n).length-1)<B ^ k:=by omega
  have:=(Nat.pow_lt_pow_iff_right (by omega:1<B)).1 X;omega
end
variable{d:Nat}{l:List Nat}
theorem fa(h:lok B l=true){i:Nat}(H:l[i]? =some d):d<B:=by have:=List.all_eq_true.1 h d (J1 H);simpa using this
variable{r:List Nat}
theorem nZ:lok B (l++r)=(lok B l&&lok B r):=by simp[lok,List.all_append]
theorem cX:lok B (d::r)=(decide (d<B)&&lok B r):=rfl
theorem jJ(h:lok B l=true)(k:Nat):lok B (l.take k)=true:=by unfold lok at h |-;rw[List.all_eq_true] at h |-;exact fun d Z=>h d (List.mem_of_mem_take Z)
theorem jI(h:lok B l=true)(k:Nat):lok B (l.drop k)=true:=by unfold lok at h |-;rw[List.all_eq_true] at h |-;exact fun d Z=>h d (List.mem_of_mem_drop Z)
theorem LZ(B:Nat)(l:List Nat)(d:Nat):ao B (l++[d])=ao B l+B ^ l.length*d:=by rw[im];simp[ao]
def uW(B:Nat):List Nat->List Nat->Nat->List Nat
 | [],_,c=>[c]
 |x::a,b,c=>(c+x+b.headD 0)%B::uW B a b.tail ((c+x+b.headD 0) / B)
theorem L3(B:Nat)(b:List Nat):ao B b=b.headD 0+B*ao B b.tail:=by cases b<;>simp[ao]
theorem LY(B:Nat):∀(a b:List Nat) (c:Nat),b.length<=a.length->ao B (uW B a b c)=ao B a+ao B b+c
 | [],b,c,h=>by have:b=[]:=Mp (by simpa using h);subst this;simp[uW,ao]
 |x::a,b,c,h=>by
  have Z:b.tail.length<=a.length:=by simp at h |-;omega
  rw[uW,ao,LY B a b.tail _ Z,L3 B b,ao];have:=Nat.mod_add_div (c+x+b.headD 0) B;rw[Nat.mul_add,Nat.mul_add];omega
variable{b:List Nat}
theorem LW(H:0<B)(h:lok B b=true):b.headD 0<B:=by
 cases b with
 |nil=>exact H
 |cons d b=>rw[cX,Es,GE] at h;exact h.1
theorem Pr(h:lok B b=true):lok B b.tail=true:=by
 cases b with
 |nil=>rfl
 |cons d b=>rw[cX,Es] at h;exact h.2
theorem Pq{B:Nat}(H:2<=B):∀(a b:List Nat) (c:Nat),lok B a=true->lok B b=true->c<=1->lok B (uW B a b c)=true
 | [],b,c,_,_,hc=>by simp[uW,lok];omega
 |x::a,b,c,ha,hb,hc=>by
  rw[cX,Es,GE] at ha;have Z:=LW (by omega) hb;rw[uW,cX,Es,GE];refine⟨Nat.mod_lt _ (by omega),Pq H a _ _ ha.2 (Pr hb) ?_⟩;have:(c+x+b.headD 0) / B<2:=by rw[Nat.div_lt_iff_lt_mul (by omega)];omega
  omega
def vy(B:Nat):List Nat->List Nat->Nat->List Nat
 | [],_,_=>[]
 |x::a,b,c=>if x<c+b.headD 0 then (x+B-(c+b.headD 0))::vy B a b.tail 1 else (x-(c+b.headD 0))::vy B a b.tail 0
theorem CE{B:Nat}(H:2<=B):∀(a b:List Nat) (c:Nat),lok B a=true->lok B b=true->c<=1->b.length<=a.length->ao B b+c<=ao B a->
  ao B (vy B a b c)+ao B b+c=ao B a/\lok B (vy B a b c)=true
 | [],b,c,_,_,_,h,h2=>by have:b=[]:=Mp (by simpa using h);subst this;simp only[ao] at h2;simp only[vy,ao];exact⟨by omega,rfl⟩
 |x::a,b,c,ha,hb,hc,h,h2=>by
  have U:b.tail.length<=a.length:=by simp at h |-;omega
  rw[cX,Es,GE] at ha;have R:=LW (by omega) hb;have Z:=Pr hb;rw[L3 B b] at h2 |-;rw[ao] at h2 |-;unfold vy;split
  .rename_i S
   have h3:ao B b.tail+1<=ao B a:=by
    have:B*ao B b.tail<B*ao B a:=by omega
    have:=Nat.lt_of_mul_lt_mul_left this;omega
   obtain⟨X,V⟩:=CE H a b.tail 1 ha.2 Z (by omega) U h3;have e:B*ao B a=B*ao B (vy B a b.tail 1)+B*ao B b.tail+B:=by rw[<-X,Nat.mul_add,Nat.mul_add,Nat.mul_one]
   rw[ao,cX,V,Bool.and_true,GE,e];exact⟨by omega,by omega⟩
  .rename_i S
   have h3:ao B b.tail+0<=ao B a:=by
    have:B*ao B b.tail<B*ao B a+B:=by omega
    rw[<-Nat.mul_succ] at this;have:=Nat.lt_of_mul_lt_mul_left this;omega
   obtain⟨X,V⟩:=CE H a b.tail 0 ha.2 Z (by omega) U h3;have e:B*ao B a=B*ao B (vy B a b.tail 0)+B*ao B b.tail:=by rw[<-X,Nat.mul_add,Nat.mul_add,Nat.mul_zero,Nat.add_zero]
   rw[ao,cX,V,Bool.and_true,GE,e];exact⟨by omega,by omega⟩
def jE(B:Nat):List Nat->Nat->List Nat
 | [],_=>[]
 |o::l,c=>if c=0 then o::l else (c+o)%B::jE B l ((c+o) / B)
def RL(B x:Nat):List Nat->List Nat->Nat->List Nat
 |o,[],c=>jE B o c
 | [],_::_,_=>[]
 |o::l,y::b,c=>(c+(o+x*y))%B::RL B x l b ((c+(o+x*y)) / B)
theorem wR(B:Nat):∀(o:List Nat) (c:Nat),(jE B o c).length=o.length
 | [],_=>rfl
 |o::l,c=>by
  unfold jE;split
  .rfl
  .simp[wR B l]
theorem vh(B x:Nat):∀(o b:List Nat) (c:Nat),(RL B x o b c).length=o.length
 |o,[],c=>by cases o<;>exact wR B _ c
 | [],_::_,_=>rfl
 |o::l,y::b,c=>by simp[RL,vh B x l b]
theorem CC{B:Nat}(H:2<=B):∀(o:List Nat) (c:Nat),lok B o=true->ao B o+c<B ^ o.length->ao B (jE B o c)=ao B o+c/\lok B (jE B o c)=true
 | [],c,_,h=>by simp only[ao,List.length_nil,Nat.pow_zero] at h;simp only[jE,ao];exact⟨by omega,rfl⟩
 |o::l,c,ho,h=>by
  unfold jE;split
  next Z=>subst Z;exact⟨by omega,ho⟩
  .rw[cX,Es,GE] at ho
   have X:=Nat.mod_add_div (c+o) B;rw[ao,List.length_cons,Nat.pow_succ,QQZ (B ^ l.length)] at h;have V:ao B l+(c+o) / B<B ^ l.length:=by
    have:B*(ao B l+(c+o) / B)<B*B ^ l.length:=by rw[Nat.mul_add];omega
    exact Nat.lt_of_mul_lt_mul_left this
   obtain⟨U,S⟩:=CC H l _ ho.2 V;rw[ao,ao,U,cX,S,Nat.mul_add];refine⟨by omega,?_⟩;simp[Nat.mod_lt (c+o) (show 0<B by omega)]
theorem CD{B:Nat}(H:2<=B)(x:Nat):∀(o b:List Nat) (c:Nat),lok B o=true->ao B o+x*ao B b+c<B ^ o.length->
  b.length<=o.length->ao B (RL B x o b c)=ao B o+x*ao B b+c/\lok B (RL B x o b c)=true
 |o,[],c,ho,h,_=>by
  simp only[ao,Nat.mul_zero,Nat.add_zero] at h |-;have:RL B x o [] c=jE B o c:=by cases o<;>rfl
  rw[this];exact CC H o c ho h
 | [],y::b,c,_,_,hl=>by simp at hl
 |o::l,y::b,c,ho,h,hl=>by
  rw[cX,Es,GE] at ho;have Z:=Nat.mod_add_div (c+(o+x*y)) B;have e:x*(y+B*ao B b)=x*y+B*(x*ao B b):=by rw[Nat.mul_add,<-QXZ,<-QXZ,QQZ x B]
  rw[ao,ao,e,List.length_cons,Nat.pow_succ,QQZ (B ^ l.length)] at h;have X:ao B l+x*ao B b+(c+(o+x*y)) / B<B ^ l.length:=by
   have:B*(ao B l+x*ao B b+(c+(o+x*y)) / B)<B*B ^ l.length:=by rw[Nat.mul_add,Nat.mul_add];omega
   exact Nat.lt_of_mul_lt_mul_left this
  obtain⟨V,U⟩:=CD H x l b _ ho.2 X (by simpa using hl);rw[RL,ao,V,cX,U,ao,ao,e,Nat.mul_add,Nat.mul_add];refine⟨by omega,?_⟩;simp[Nat.mod_lt (c+(o+x*y)) (show 0<B by omega)]
def sD(B:Nat):List Nat->List Nat->List Nat->List Nat
 | [],_,o=>o
 |x::a,b,o=>match RL B x o b 0 with
  | []=>[]
  |d::r=>d::sD B a b r
theorem E1{B:Nat}(H:2<=B):∀(a b o:List Nat),lok B o=true->ao B o+ao B a*ao B b<B ^ o.length->a.length+b.length<=o.length->
  ao B (sD B a b o)=ao B o+ao B a*ao B b/\lok B (sD B a b o)=true/\(sD B a b o).length=o.length
 | [],b,o,ho,h,_=>by simp only[sD,ao,Nat.zero_mul,Nat.add_zero];exact⟨trivial,ho,trivial⟩
 |x::a,b,o,ho,h,hl=>by
  have e:(x+B*ao B a)*ao B b=x*ao B b+B*(ao B a*ao B b):=by rw[Nat.add_mul,QXZ]
  rw[ao,e] at h;have V :a.length+1+b.length<=o.length:=by simpa using hl
  obtain⟨r1,r2⟩:=CD H x o b 0 ho (by omega) (by omega);have Z:=vh B x o b 0;unfold sD;split
  next X=>rw[X] at Z;simp at Z;omega
  .rename_i d r X
   rw[X] at r1 r2 Z;rw[cX,Es,GE] at r2;simp only[List.length_cons] at Z;rw[ao] at r1;have U:ao B r+ao B a*ao B b<B ^ r.length:=by
    have:B*(ao B r+ao B a*ao B b)<B*B ^ r.length:=by rw[QQZ B (B ^ r.length),<-Nat.pow_succ,show r.length.succ=o.length from Z,Nat.mul_add];omega
    exact Nat.lt_of_mul_lt_mul_left this
   obtain⟨S,R,O⟩:=E1 H a b r r2.2 U (by omega);rw[ao,S,cX,R,List.length_cons,O,ao,e,Nat.mul_add];exact⟨by omega,by simp[r2.1],Z⟩
theorem Rz(H:2<=B){a:List Nat}(I:lok B a=true)(J:lok B b=true):
  ao B (sD B a b (List.replicate (a.length+b.length+1) 0))=ao B a*ao B b/\lok B (sD B a b (List.replicate (a.length+b.length+1) 0))=true/\
   (sD B a b (List.replicate (a.length+b.length+1) 0)).length=a.length+b.length+1:=by
 have X:∀n,ao B (List.replicate n 0)=0:=by
  intro n;induction n with
  |zero=>rfl
  |succ n ih=>rw[List.replicate_succ,ao,ih];simp
 have Z:∀n,lok B (List.replicate n 0)=true:=by intro n;unfold lok;rw[List.all_eq_true];intro d V;rw[List.mem_replicate] at V;simp[V.2];omega
 have h:ao B a*ao B b<B ^ (a.length+b.length+1):=by have U:=gW I;have S:=gW J;have h3:ao B a*ao B b<B ^ a.length*B ^ b.length:=Nat.mul_lt_mul_of_lt_of_lt U S;rw[<-Nat.pow_add] at h3;have R:B ^ (a.length+b.length)<=B ^ (a.length+b.length+1):=P3 (by omega) (by omega);omega
 have:=E1 H a b (List.replicate (a.length+b.length+1) 0) (Z _) (by rw[X,QQb,QXh];exact h) (by rw[QXh];omega)
 rwa [X,QQb,QXh] at this
def gx(B d:Nat):List Nat->List Nat×Nat
 | []=>([],0)
 |x::l=>let p:=gx B d l;((p.2*B+x) / d::p.1,(p.2*B+x)%d)
theorem Cj{B d:Nat}(hd:0<d)(H:d<B):∀l:List Nat,lok B l=true->(gx B d l).2<d/\ao B (gx B d l).1*d+(gx B d l).2=ao B l/\lok B (gx B d l).1=true/\(gx B d l).1.length=l.length
 | [],_=>by simp[gx,ao,lok,hd]
 |x::l,h=>by
  rw[cX,Es,GE] at h;obtain⟨X,V,U,S⟩:=Cj hd H l h.2;simp only[gx];have Z:=Nat.mod_add_div ((gx B d l).2*B+x) d;refine⟨Nat.mod_lt _ hd,?_,?_,by simp[S]⟩
  .rw[ao,ao,<-V,Nat.add_mul,Nat.mul_add]
   rw[QQZ d] at Z;rw[QXZ,QQZ B (gx B d l).2];omega
  .rw[cX,Es,GE]
   refine⟨?_,U⟩;rw[Nat.div_lt_iff_lt_mul hd];have h3:((gx B d l).2+1)*B<=d*B:=QQk _ X;rw[Nat.add_mul] at h3;rw[QQZ B d];omega
theorem VL{p D top r b q:Nat}(hr:r<(D+1)*p)(H:top*p<=b)(hq:q*b<=r)(I:0<top):q<=D / top:=by
 rw[Nat.le_div_iff_mul_le I];have X:q*(top*p)<=q*b:=Nat.mul_le_mul_left _ H;have Z:(q*top)*p<(D+1)*p:=by rw[QXZ];omega
 have:=Nat.lt_of_mul_lt_mul_right Z;omega
end Go.Eng
namespace Go.Proofs
open Go.Eng
open Tryz
variable{A:List Nat}
theorem sh{n:Nat}(h:A[n]? =some 0):aW (A.take (n+1))=aW (A.take n):=by rw[List.take_add_one,h];exact jK _
theorem sf{n d:Nat}(h:A[n]? =some d)(hd:d≠0):aW (A.take (n+1))=A.take (n+1):=by rw[List.take_add_one,h];exact EY hd _
variable{K:Nat}{O:y9}{lv:Code->List Nat}
theorem Ea(A:List Nat)(Y:A.length<=1000000000)(J:A.length<K){b:Code}(H:ag f253=[b])(I:lv b=[0]):
  ∃F:Env->Bool->Env,∀Z d,ad Z 0=.slice 0 0 A.length none->
   aL (aX prog) lv O K 21 1 true (.loop b) ⟨Z,[.cells false 1 (iN .u64 A)],d⟩=some (.exit 0,⟨F Z d,[.cells false 1 (iN .u64 A)],d⟩)/\ad (F Z d) 0=.slice 0 0 (aW A).length none:=by
 refine bj I (fun Z=>ad Z 0=.slice 0 0 A.length none) (fun _ L =>ad L 0=.slice 0 0 (aW A).length none) ?_;clear I;intro Z d G;simp[ag,aE,f253] at H;have S:an [0] (aa b) Z ((0,.slice 0 0 A.length none)::Z)=an [0] (aa b) Z Z:=by simp[an,G]
 rw[<-S];refine bI (α:=Nat) (fun n=>⟨an [0] (aa b) Z ((0,.slice 0 0 n none)::Z),[.cells false 1 (iN .u64 A)],d⟩) id (fun n=>n<=A.length/\aW (A.take n)=aW A) (.exit 0) _ d _ (by simp) ?_ K A.length ⟨L9 _,by rw[P1]⟩ J;rintro n ⟨hn1,hn2⟩;clear S;subst H;cases n with
 |zero=>
  right;rw[<-hn2];simp[aW]
 |succ n=>
  have C:n<A.length:=by omega
  obtain⟨x,V⟩:∃x,A[n]? =some x:=⟨A[n],by simp[C]⟩
  have R:IntKind.i64.wrap (n:Int)=(n:Int):=af;have N:(n:Int)<(n:Int)+1:=by omega
  have M:0<(n:Int)+1:=by omega
  by_cases X:x=0
  .subst X
   left;refine⟨n,?_⟩;have h3:(n:Int)<=(n:Int)+1:=by omega
   have U:n+1<=A.length:=by omega
   simp[R,N,M,h3,U,V];exact⟨by omega,by rw[<-sh V];exact hn2⟩
  .right
   rw[<-hn2,sf V X];have U:min (n+1) A.length=n+1:=by omega
   simp[R,N,M,U,V,X]
theorem QE(A:List Nat)(H:A.length<=1000000000):kO prog 253 [.slice 0 0 A.length none] [.cells false 1 (iN .u64 A)] (.slice 0 0 (aW A).length none) [.cells false 1 (iN .u64 A)]:=by
 have X:aZ prog 253=some f253:=by kernel_rfl
 obtain⟨b,Z⟩:∃b,ag f253=[b]:=⟨_,rfl⟩
 obtain⟨F,V⟩:=Ea (O:=cO) (K:=A.length+1) (lv:=fun _=>[0]) A H (by omega) Z rfl;simp[ag,aE,f253] at Z;subst Z;refine dv (lv:=(fun _=>[0])) (K:=(A.length+1)) (az _) ?_;simp[ae,X,f253,V]
variable{X Y:List Nat}
theorem SW{B n a b:Nat}(I:lok B X=true)(J:lok B Y=true)(G':X.length=Y.length)(hd:X.drop (n+1)=Y.drop (n+1))(H:X[n]? =some a)(hb:Y[n]? =some b)(Z2:a≠b):
  kv (ao B X) (ao B Y)=if a<b then -1 else 1:=by
 have F:n<X.length:=gL H;have U:X=X.take n++([a]++X.drop (n+1)):=by
  conv=>lhs;rw[<-List.take_append_drop (n+1) X,List.take_add_one,H]
  simp
 have S:Y=Y.take n++([b]++Y.drop (n+1)):=by
  conv=>lhs;rw[<-List.take_append_drop (n+1) Y,List.take_add_one,hb]
  simp
 have R:=gW (jJ I n);have N:=gW (jJ J n);have Z:(X.take n).length=n:=by simp;omega
 have V:(Y.take n).length=n:=by simp;omega
 rw[Z] at R;rw[V] at N;have M:ao B X=ao B (X.take n)+B ^ n*(a+B*ao B (X.drop (n+1))):=by
  conv=>lhs;rw[U,im,im,Z]
  simp[ao]
 have L:ao B Y=ao B (Y.take n)+B ^ n*(b+B*ao B (X.drop (n+1))):=by
  conv=>lhs;rw[S,im,im,V,<-hd]
  simp[ao]
 rw[M,L];generalize B*ao B (X.drop (n+1))=D;generalize B ^ n=p at*;split
 .rename_i G
  have:p*(a+D+1)<=p*(b+D):=Nat.mul_le_mul_left _ (by omega);rw[Nat.mul_add,Nat.mul_one] at this;unfold kv;rw[if_pos (by omega)]
 .rename_i G
  have:p*(b+D+1)<=p*(a+D):=Nat.mul_le_mul_left _ (by omega);rw[Nat.mul_add,Nat.mul_one] at this;unfold kv;rw[if_neg (by omega),if_pos (by omega)]
theorem LI{n a:Nat}(h:X.drop (n+1)=Y.drop (n+1))(H:X[n]? =some a)(I:Y[n]? =some a):X.drop n=Y.drop n:=by have Z:n<X.length:=gL H;have V:n<Y.length:=gL I;rw[N0 Z,N0 V,h];have:=(O2.1 H).2;have:=(O2.1 I).2;simp_all
theorem BA(A B:List Nat)(hA:lok 1000000000 A=true)(hB:lok 1000000000 B=true)(hl:A.length<=1000000000)(H:A.length=B.length)(hK:A.length<K){b:Code}(I:ag f249=[b])(J:lv b=[5]):
  ∃F:Env->Bool->Env,∀Z d,(ad Z 0=.slice 0 0 A.length none/\ad Z 1=.slice 1 0 A.length none/\ad Z 5=.int .i64 ((A.length:Int)-1))->
   aL (aX prog) lv O K 41 2 true (.loop b) ⟨Z,[.cells false 1 (iN .u64 A),.cells false 1 (iN .u64 B)],d⟩=some (if A=B then .exit 0 else .ret,⟨F Z d,[.cells false 1 (iN .u64 A),.cells false 1 (iN .u64 B)],d⟩)/\
    (A≠B->ad (F Z d) 4=.int .i64 (kv (ao 1000000000 A) (ao 1000000000 B))):=by
 refine bj J (fun Z=>ad Z 0=.slice 0 0 A.length none/\ad Z 1=.slice 1 0 A.length none/\ad Z 5=.int .i64 ((A.length:Int)-1)) (fun _ j =>A≠B->ad j 4=.int .i64 (kv (ao 1000000000 A) (ao 1000000000 B))) ?_;clear J;rintro Z d ⟨h0,h1,h5⟩;simp[ag,aE,f249] at I;have o:an [5] (aa b) Z ((5,.int .i64 ((A.length:Int)-1))::Z)=an [5] (aa b) Z Z:=by simp[an,h5]
 rw[<-o];refine bI (α:=Nat) (fun n=>⟨an [5] (aa b) Z ((5,.int .i64 ((n:Int)-1))::Z),[.cells false 1 (iN .u64 A),.cells false 1 (iN .u64 B)],d⟩) id (fun n=>n<=A.length/\A.drop n=B.drop n) (if A=B then .exit 0 else .ret) _ d _ (by split<;>simp) ?_ K A.length ⟨L9 _,by rw[List.drop_length,H,List.drop_length]⟩ hK;rintro n ⟨hn1,hn2⟩;clear o;subst I;cases n with
 |zero=>
  right;rw[List.drop_zero,List.drop_zero] at hn2;simp[hn2]
 |succ n=>
  have M:n<A.length:=by omega
  have U:n<B.length:=by omega
  obtain⟨x,C,u⟩:=de M;obtain⟨y,L,S⟩:=de U;have e1:(((n+1:Nat):Int)-1)=(n:Int):=by omega
  have e2:IntKind.i64.wrap ((n:Int)-1)=(n:Int)-1:=af;rw[e1];by_cases R:x=y
  .left
   subst R;refine⟨n,?_⟩;simp[h0,h1,u,S,M,U,e2];exact⟨by omega,LI hn2 C L⟩
  .right
   have m:A≠B:=by rintro rfl;rw[C] at L;cases L;exact R rfl
   have G:=SW hA hB H hn2 C L R;have N :¬((x:Int)=(y:Int)):=by omega
   by_cases V:x<y
   .rw[if_pos V] at G
    simp[h0,h1,u,S,M,U,N,V,m,G]
   .rw[if_neg V] at G
    simp[h0,h1,u,S,M,U,N,V,m,G]
theorem MX(A B:List Nat)(H:lok 1000000000 A=true)(I:lok 1000000000 B=true)(J:A.length<=1000000000)(tA:aW A=A)(tB:aW B=B):
  kO prog 249 [.slice 0 0 A.length none,.slice 1 0 B.length none] [.cells false 1 (iN .u64 A),.cells false 1 (iN .u64 B)] (.int .i64 (kv (ao 1000000000 A) (ao 1000000000 B))) [.cells false 1 (iN .u64 A),.cells false 1 (iN .u64 B)]:=by
 have R:aZ prog 249=some f249:=by kernel_rfl
 obtain⟨b,N⟩:∃b,ag f249=[b]:=⟨_,rfl⟩
 refine dv (lv:=(fun _=>[5])) (K:=(A.length+1)) (az _) ?_;have C:dig 1000000000 (ao 1000000000 A)=A:=by rw[dV (by omega) H,tA]
 have u:dig 1000000000 (ao 1000000000 B)=B:=by rw[dV (by omega) I,tB]
 by_cases M:A.length=B.length
 .have Z:=BA (O:=cO) (K:=A.length+1) (lv:=fun _=>[5]) A B H I J M (by omega) N rfl
  simp[ag,aE,f249] at N;subst N;obtain⟨F,Z⟩:=Z;have o:IntKind.i64.wrap ((B.length:Int)-1)=(B.length:Int)-1:=af;by_cases V:A=B
  .subst V
   have U:kv (ao 1000000000 A) (ao 1000000000 A)=0:=by unfold kv;simp
   rw[if_pos rfl] at Z;simp[ae,R,f249,Z,o,U]
  .rw[if_neg V] at Z
   simp only[M] at Z;simp[ae,R,f249,Z,M,o,V]
 .have S :¬((A.length:Int)=B.length):=by omega
  by_cases L:A.length<B.length
  .have G:ao 1000000000 A<ao 1000000000 B:=dU (B:=1000000000) (by omega) (by rw[C,u];exact L)
   have U:kv (ao 1000000000 A) (ao 1000000000 B)= -1:=by unfold kv;rw[if_pos G]
   simp[ae,R,f249,S,L,U]
  .have G:ao 1000000000 B<ao 1000000000 A:=dU (B:=1000000000) (by omega) (by rw[C,u];omega)
   have U:kv (ao 1000000000 A) (ao 1000000000 B)=1:=by unfold kv;rw[if_neg (by omega),if_pos G]
   simp[ae,R,f249,S,L,U]
theorem lE(l:List Nat):l.take (aW l).length=aW l:=(kU l).symm
variable{M:Mem}{x:AV}
theorem M9(H:A.length<=1000000000)(I:afw .u64 M x A):∃b,x=.slice b 0 A.length none/\kO prog 253 [x] M (.slice b 0 (aW A).length none) M:=by obtain⟨b,e,h⟩:=kO.agU (new:=[]) (rest:=[]) rfl rfl (QE A H) I;refine⟨b,e,?_⟩;simpa [AV.ren,fA] using h
variable{y:AV}
theorem HS{A B:List Nat}(H:lok 1000000000 A=true)(I:lok 1000000000 B=true)(J:A.length<=1000000000)(tA:aW A=A)(tB:aW B=B)(hx:afw .u64 M x A)(hy:afw .u64 M y B):
  kO prog 249 [x,y] M (.int .i64 (kv (ao 1000000000 A) (ao 1000000000 B))) M:=by
 obtain⟨b,c,Z,V,h⟩:=kO.agi (new:=[]) rfl (MX A B H I J tA tB) hx hy;simpa [AV.ren] using h
noncomputable def bR:y9:=fun c Z M=>match c,Z with
 |.fn 253,[x]=>match x,bd .u64 M x with
  |.slice b _ _ _,some A=>if A.length<=1000000000 then some ⟨.slice b 0 (aW A).length none,none,[]⟩ else none
  |_,_=>none
 |.fn 249,[x,y]=>match bd .u64 M x,bd .u64 M y with
  |some A,some B=>if lok 1000000000 A=true/\lok 1000000000 B=true/\A.length<=1000000000/\aW A=A/\aW B=B then some ⟨.int .i64 (kv (ao 1000000000 A) (ao 1000000000 B)),none,[]⟩ else none
  |_,_=>none
 |_,_=>none
theorem jo:qS prog bR:=by
 have V:∀c Z M r,bR c Z M=some r->(∃f,c=.fn f/\kO prog f Z M r.v (r.mem M))/\r.pre=none:=by
  intro c Z M r h;unfold bR at h;split at h
  .split at h
   .rename_i S
    split at h
    .rename_i N
     cases h;obtain⟨b,e,h⟩:=M9 N (bh S);cases e;exact⟨⟨_,rfl,by simpa [afl.mem] using h⟩,rfl⟩
    .cases h
   .cases h
  .split at h
   .rename_i S L
    split at h
    .rename_i G
     obtain⟨F,C,B,u,o⟩:=G;cases h;exact⟨⟨_,rfl,by simpa [afl.mem] using HS F C B u o (bh S) (bh L)⟩,rfl⟩
    .cases h
   .cases h
  .cases h
 refine⟨fun f Z M r h=>?_,fun b Z M r h=>?_,fun c Z M r p h R=>?_⟩
 .obtain⟨⟨m,e,U⟩,_⟩:=V _ _ _ _ h
  cases e;exact U
 .obtain⟨⟨m,e,U⟩,_⟩:=V _ _ _ _ h
  cases e
 .obtain⟨_,U⟩:=V _ _ _ _ h
  rw[U] at R;cases R
def iI(X Y:List Nat):Nat->List Nat->Mem
 |0,_=>[.cells false 1 (iN .u64 X),.cells false 1 (iN .u64 Y),.cells true 1 []]
 |_+1,done=>[.cells false 1 (iN .u64 X),.cells false 1 (iN .u64 Y),.qK,.cells true 1 (iN .u64 done)]
def iu:Nat->AV
 |0=>.slice 2 0 0 none
 |i+1=>.slice 3 0 (i+1) none
theorem kh(X Y:List Nat)(i:Nat)(done:List Nat):iI X Y (i+1) done=[.cells false 1 (iN .u64 X),.cells false 1 (iN .u64 Y),.qK,.cells true 1 (iN .u64 done)]:=rfl
theorem lI(X Y:List Nat):(iI X Y 0 []).length=3:=rfl
theorem kj(i:Nat):iu (i+1)=.slice 3 0 (i+1) none:=rfl
theorem bt{α:Type}{p q:α->Prop}{r:Prop}(hr:r)(h:∃s,p s/\q s):∃s,p s/\q s/\r:=let ⟨s,a,b⟩:=h;⟨s,a,b,hr⟩
theorem DX(X Y A B:List Nat)(H sb:Nat)(hs:(H=0/\sb=1/\X=A/\Y=B)\/(H=1/\sb=0/\X=B/\Y=A))(hA:lok 1000000000 A=true)(hB:lok 1000000000 B=true)(hl:A.length<=1000000000)(G':B.length<=A.length)(hK:A.length<K){b:Code}(I:ag f248=[b])(J:lv b=[22,5,6]):
  ∃F:Env->Bool->Env,∀Z d,(ad Z 1=.slice sb 0 B.length none/\ad Z 20=.slice H 0 A.length none/\ad Z 21=.int .i64 A.length/\ad Z 5=.slice 2 0 0 none/\ad Z 6=.int .u64 0/\ad Z 22=.int .i64 0)->
   aL (aX prog) lv O K 53 2 true (.loop b) ⟨Z,iI X Y 0 [],d⟩=some (.exit 0,⟨F Z d,iI X Y A.length ((uW 1000000000 A B 0).take A.length),d⟩)/\
    (ad (F Z d) 5=iu A.length/\ad (F Z d) 6=.int .u64 (((uW 1000000000 A B 0).getD A.length 0:Nat):Int)):=by
 refine bj J (fun Z=>ad Z 1=.slice sb 0 B.length none/\ad Z 20=.slice H 0 A.length none/\ad Z 21=.int .i64 A.length/\ad Z 5=.slice 2 0 0 none/\ad Z 6=.int .u64 0/\ad Z 22=.int .i64 0)
  (fun _ m =>ad m 5=iu A.length/\ad m 6=.int .u64 (((uW 1000000000 A B 0).getD A.length 0:Nat):Int)) ?_
 clear J;rintro Z d ⟨h1,h20,h21,h5,h6,h22⟩;simp[ag,aE,f248] at I;have j:an [22,5,6] (aa b) Z ((22,.int .i64 ((0:Nat):Int))::(5,iu 0)::(6,.int .u64 ((0:Nat):Int))::Z)=an [22,5,6] (aa b) Z Z:=by simp[an,h5,h6,h22,iu]
 rw[<-j];refine bI (α:=Nat×List Nat×Nat) (fun a=>⟨an [22,5,6] (aa b) Z ((22,.int .i64 (a.1:Int))::(5,iu a.1)::(6,.int .u64 (a.2.2:Int))::Z),iI X Y a.1 a.2.1,d⟩) (fun a=>A.length-a.1)
  (fun a=>a.1<=A.length/\a.2.1.length=a.1/\a.2.2<=1/\a.2.1++uW 1000000000 (A.drop a.1) (B.drop a.1) a.2.2=uW 1000000000 A B 0) (.exit 0) _ d _ (by simp) ?_ K (0,[],0) ⟨Nat.zero_le _,rfl,Nat.zero_le _,rfl⟩ (by simpa using hK)
 rintro ⟨i,done,c⟩ ⟨hi,hd,hc,PP⟩;simp only at hi hd hc PP;clear j;subst I;by_cases C:i=A.length
 .right
  subst C;rw[List.drop_length,uW] at PP;rw[<-PP,<-hd];simp only[List.take_left'];simp[h21,hd]
 .left
  have N:i<A.length:=by omega
  obtain⟨x,hx,L⟩:=de N;have ZL:=fa hA hx;have eA:A.drop i=x::A.drop (i+1):=by rw[N0 N,L]
  have w0:IntKind.i64.wrap 1=1:=by decide
  have w1:IntKind.i64.wrap ((i:Int)+1)=(i:Int)+1:=af;have hI:(i:Int)<(A.length:Int):=by omega
  have ZA:(i+1)*8<=140737488355328:=by omega
  have G:i+1<=140737488355328:=by omega
  have ht:(iN .u64 done).take i=iN .u64 done:=B5 (by simp[hd]);have hM:0<i->iI X Y i done=[.cells false 1 (iN .u64 X),.cells false 1 (iN .u64 Y),.qK,.cells true 1 (iN .u64 done)]:=fun h=>by cases i with
   |zero=>omega
   |succ i=>rfl
  have hO:0<i->iu i=.slice 3 0 i none:=fun h=>by cases i with
   |zero=>omega
   |succ i=>rfl
  by_cases V:i<B.length
  .obtain⟨y,hy,U⟩:=de V
   have hyb:=fa hB hy;have u:B.drop i=y::B.drop (i+1):=by rw[N0 V,U]
   rw[eA,u,uW,List.headD_cons,List.tail_cons] at PP;obtain⟨s,S⟩:=xE (α:=Nat) (c+x+y);rw[<-S] at PP;have w2:IntKind.u64.wrap ((c:Int)+(x:Int))=(c:Int)+(x:Int):=cS (by omega) (by omega);have w3:IntKind.u64.wrap ((c:Int)+(x:Int)+(y:Int))=(s:Int):=by rw[cS (by omega) (by omega)];omega
   have w4:(s:Int).tmod 1000000000=(s:Int)%1000000000:=A4 s 1000000000;have w5:IntKind.u64.wrap ((s:Int) / 1000000000)=(s:Int) / 1000000000:=cS (by omega) (by omega);refine⟨(i+1,done++[s%1000000000],s / 1000000000),?_⟩;refine bt (r:=_/\_) (show(i+1<=A.length/\(done++[s%1000000000]).length=i+1/\s / 1000000000<=1/\(done++[s%1000000000])++uW 1000000000 (A.drop (i+1)) (B.drop (i+1)) (s / 1000000000)=uW 1000000000 A B 0)/\A.length-(i+1)<A.length-i by refine⟨⟨by omega,by simp[hd],by omega,?_⟩,by omega⟩;rw[<-PP];simp) ?_
   clear PP;rcases hs with⟨rfl,rfl,rfl,rfl⟩ | ⟨rfl,rfl,rfl,rfl⟩<;>rcases QQK i with rfl | hpos;all_goals first
    |(have R:=Mp hd;subst R;simp[iI,iu,h1,h20,h21,L,U,N,V,w0,w2,w3,w4,w5,cr];done)
    |simp[hM hpos,hO hpos,kh,kj,lI,h1,h20,h21,L,U,hI,ZA,G,N,V,hd,w1,w2,w3,w4,w5,ht,dE,cr]
  .have u:B.drop i=[]:=List.drop_eq_nil_of_le (by omega)
   have o:B.drop (i+1)=[]:=List.drop_eq_nil_of_le (by omega);rw[eA,u,uW] at PP;simp only[List.headD_nil,List.tail_nil,Nat.add_zero] at PP;obtain⟨s,S⟩:=xE (α:=Nat) (c+x);rw[<-S] at PP;have w3:IntKind.u64.wrap ((c:Int)+(x:Int))=(s:Int):=by rw[cS (by omega) (by omega)];omega
   have w4:(s:Int).tmod 1000000000=(s:Int)%1000000000:=A4 s 1000000000;have w5:IntKind.u64.wrap ((s:Int) / 1000000000)=(s:Int) / 1000000000:=cS (by omega) (by omega);refine⟨(i+1,done++[s%1000000000],s / 1000000000),?_⟩;refine bt (r:=_/\_) (show(i+1<=A.length/\(done++[s%1000000000]).length=i+1/\s / 1000000000<=1/\(done++[s%1000000000])++uW 1000000000 (A.drop (i+1)) (B.drop (i+1)) (s / 1000000000)=uW 1000000000 A B 0)/\A.length-(i+1)<A.length-i by refine⟨⟨by omega,by simp[hd],by omega,?_⟩,by omega⟩;rw[<-PP,o];simp) ?_
   clear PP;rcases hs with⟨rfl,rfl,rfl,rfl⟩ | ⟨rfl,rfl,rfl,rfl⟩<;>rcases QQK i with rfl | hpos;all_goals first
    |(have R:=Mp hd;subst R;simp[iI,iu,h1,h20,h21,L,N,V,w0,w3,w4,w5,cr];done)
    |simp[hM hpos,hO hpos,kh,kj,lI,h1,h20,h21,L,hI,ZA,G,N,V,hd,w1,w3,w4,w5,ht,dE,cr]
theorem B4(B:Nat):∀(a b:List Nat) (c:Nat),(uW B a b c).length=a.length+1
 | [],_,_=>rfl
 |x::a,b,c=>by rw[uW,List.length_cons,B4 B a];rfl
theorem Pb{B:Nat}(H:2<=B){a b:List Nat}(I:lok B a=true)(J:lok B b=true)(hl:b.length<=a.length):aW (uW B a b 0)=dig B (ao B a+ao B b):=by rw[<-dV H (Pq H a b 0 I J (by omega)),LY B a b 0 hl,Nat.add_zero]
theorem Ep{l:List Nat}{n:Nat}(h:l.length=n+1):l.take n++[l.getD n 0]=l:=by
 have Z:n<l.length:=by omega
 have:l.getD n 0=l[n]:=by simp[List.getD,Z]
 rw[this];have V:l.take (n+1)=l:=B5 (by omega);rw[List.take_add_one,G2 Z] at V;exact V
theorem wq(X Y A B:List Nat)(H sb:Nat)(hs:(H=0/\sb=1/\X=A/\Y=B/\¬A.length<B.length)\/(H=1/\sb=0/\X=B/\Y=A/\B.length<A.length))(hA:lok 1000000000 A=true)(hB:lok 1000000000 B=true)(hl:A.length<=100000000)(ZB:B.length<=A.length):
  ae (aX prog) (fun _=>[22,5,6]) (aZ prog) bR (A.length+1) 248 [.slice 0 0 X.length none,.slice 1 0 Y.length none] [.cells false 1 (iN .u64 X),.cells false 1 (iN .u64 Y)]=
   some ⟨.slice 2 0 (aW (uW 1000000000 A B 0)).length none,none,[.cells true 1 (iN .u64 (uW 1000000000 A B 0))]⟩:=by
 have m:aZ prog 248=some f248:=by kernel_rfl
 obtain⟨b,j⟩:∃b,ag f248=[b]:=⟨_,rfl⟩
 have L:=B4 1000000000 A B 0;have S:=Ep L;obtain⟨F,U⟩:=DX (O:=bR) (K:=A.length+1) (lv:=fun _=>[22,5,6]) X Y A B H sb (by rcases hs with⟨a,b,c,d,_⟩ | ⟨a,b,c,d,_⟩;exact .inl ⟨a,b,c,d⟩;exact .inr ⟨a,b,c,d⟩) hA hB (by omega) ZB (by omega) j rfl;simp[ag,aE,f248] at j;subst j;obtain⟨Z,J⟩:=xE (α:=Int) ((A.length:Int)+1);have w1:IntKind.i64.wrap ((A.length:Int)+1)=Z:=by rw[J];exact af
 have h0:0<=Z:=by omega
 have h1:8*Z<=281474976710656:=by omega
 have h2:Z<=281474976710656:=by omega
 obtain⟨u,G⟩:=xE (uW 1000000000 A B 0);rcases QQK A.length with hz | hpos
 .have I:=Mp hz
  have hB0:B=[]:=Mp (by omega);subst I;subst hB0;simp only[List.length_nil,iI,iu,uW,QQb,Int.cast_ofNat_Int,List.take_zero,List.getD_cons_zero] at U;have o:bd .u64 [.cells false 1 [],.cells false 1 [],.qK,.cells true 1 [.int .u64 0],.cells true 1 [.int .u64 0]] (.slice 4 0 1 none)=some [0]:=by rfl
  rcases hs with⟨rfl,rfl,rfl,rfl,N⟩ | ⟨rfl,rfl,rfl,rfl,N⟩
  .have w0:IntKind.i64.wrap 1=1:=by decide
   simp only[Pj] at U;simp[ae,m,f248,U,bR,o,uW,aW,cr,w0]
  .simp at N
 .have hM:∀done,iI X Y A.length done=[.cells false 1 (iN .u64 X),.cells false 1 (iN .u64 Y),.qK,.cells true 1 (iN .u64 done)]:=fun done=>by
   cases h:A.length with
   |zero=>omega
   |succ i=>rfl
  have hO:iu A.length=.slice 3 0 A.length none:=by
   cases h:A.length with
   |zero=>omega
   |succ i=>rfl
  rw[hM,hO] at U;simp only[iI] at U;obtain⟨V,ZU⟩:=xE ((uW 1000000000 A B 0).take A.length);obtain⟨C,ad4⟩:=xE ((uW 1000000000 A B 0).getD A.length 0);rw[<-ZU,<-ad4] at U S;rw[<-G] at S L |-;have R:V.length=A.length:=by rw[ZU,SP,<-G,L];omega
  have h3:(A.length+1)*8<=140737488355328:=by omega
  have h4:A.length<=140737488355327:=by omega
  have h5:(iN .u64 V).take A.length=iN .u64 V:=B5 (by simp[R]);have o:bd .u64 [.cells false 1 (iN .u64 X),.cells false 1 (iN .u64 Y),.qK,.qK,.cells true 1 [.int .u64 (C:Int)],.cells true 1 (iN .u64 u)] (.slice 5 0 (A.length+1) none)=some u:=
   aU rfl (by simp[L]) (B5 (by simp[L]))
  have h7:u.length<=1000000000:=by omega
  have h8:iN .u64 V++[.int .u64 (C:Int)]=iN .u64 u:=by rw[W6,S]
  rcases hs with⟨rfl,rfl,rfl,rfl,N⟩ | ⟨rfl,rfl,rfl,rfl,N⟩
  .simp[ae,m,f248,N,w1,h0,h1,h2,U,bR,R,h3,h4,h5,o,h7,h8]
  .simp[ae,m,f248,N,w1,h0,h1,h2,U,bR,R,h3,h4,h5,o,h7,h8]
theorem Cp{k:IntKind}{l r:List Nat}(h:l <+: r):iN k l <+: iN k r:=by obtain⟨t,rfl⟩:=h;exact⟨iN k t,by rw[<-dE]⟩
theorem dG(l:List Nat):aW l <+: l:=by rw[kU l];exact List.take_prefix _ _
theorem MZ{A B:List Nat}(H:lok 1000000000 A=true)(I:lok 1000000000 B=true)(J:A.length<=100000000)(ZB:B.length<=100000000)(hx:afw .u64 M x A)(hy:afw .u64 M y B):
  kO prog 248 [x,y] M (.slice M.length 0 (dig 1000000000 (ao 1000000000 A+ao 1000000000 B)).length none) (M++[.cells true 1 (iN .u64 (dig 1000000000 (ao 1000000000 A+ao 1000000000 B)))]):=by
 have V:∃Z,aW Z=dig 1000000000 (ao 1000000000 A+ao 1000000000 B)/\kO prog 248 [.slice 0 0 A.length none,.slice 1 0 B.length none] [.cells false 1 (iN .u64 A),.cells false 1 (iN .u64 B)] (.slice 2 0 (aW Z).length none) [.cells false 1 (iN .u64 A),.cells false 1 (iN .u64 B),.cells true 1 (iN .u64 Z)]:=by
  by_cases U:A.length<B.length
  .refine⟨uW 1000000000 B A 0,by rw[Pb (by omega) I H (by omega),QXc],?_⟩
   have:=(aB aj (aI _) jo (aQ _) (wq A B B A 1 0 (.inr ⟨rfl,rfl,rfl,rfl,U⟩) I H ZB (by omega))).1;simpa [afl.mem] using this
  .refine⟨uW 1000000000 A B 0,Pb (by omega) H I (by omega),?_⟩
   have:=(aB aj (aI _) jo (aQ _) (wq A B A B 0 1 (.inl ⟨rfl,rfl,rfl,rfl,U⟩) H I J (by omega))).1;simpa [afl.mem] using this
 obtain⟨Z,S,h⟩:=V;have R:=kO.ahd (m:=[.cells false 1 (iN .u64 A),.cells false 1 (iN .u64 B)]) h (Cp (dG Z));obtain⟨b,c,rfl,rfl,h3⟩:=kO.agi (new:=[.cells true 1 (iN .u64 (aW Z))]) rfl R hx hy;rw[S] at h3;simpa [AV.ren,fA] using h3
theorem Di(B:Nat):∀(a b:List Nat) (c:Nat),(vy B a b c).length=a.length
 | [],_,_=>rfl
 |x::a,b,c=>by unfold vy;split<;>simp[Di B a]
theorem Wg(B x:Nat)(a:List Nat)(c:Nat):vy B (x::a) [] c=if x<c then (x+B-c)::vy B a [] 1 else (x-c)::vy B a [] 0:=rfl
theorem Bv(A B:List Nat)(hA:lok 1000000000 A=true)(hB:lok 1000000000 B=true)(hl:A.length<=1000000000)(G':B.length<=A.length)(hK:A.length<K){b:Code}(hb:ag f250=[b])(Zz:lv b=[15,5,6]):
  ∃F:Env->Bool->Env,∀V d,(ad V 1=.slice 1 0 B.length none/\ad V 13=.slice 0 0 A.length none/\ad V 14=.int .i64 A.length/\ad V 5=.slice 2 0 0 none/\ad V 6=.int .u64 0/\ad V 15=.int .i64 0)->
   aL (aX prog) lv O K 45 2 true (.loop b) ⟨V,iI A B 0 [],d⟩=some (.exit 0,⟨F V d,iI A B A.length (vy 1000000000 A B 0),d⟩)/\ad (F V d) 5=iu A.length:=by
 refine bj Zz (fun V=>ad V 1=.slice 1 0 B.length none/\ad V 13=.slice 0 0 A.length none/\ad V 14=.int .i64 A.length/\ad V 5=.slice 2 0 0 none/\ad V 6=.int .u64 0/\ad V 15=.int .i64 0)
  (fun _ D' =>ad D' 5=iu A.length) ?_
 clear Zz;rintro V d ⟨h1,h20,h21,h5,h6,h22⟩;simp[ag,aE,f250] at hb;have hn:an [15,5,6] (aa b) V ((15,.int .i64 ((0:Nat):Int))::(5,iu 0)::(6,.int .u64 ((0:Nat):Int))::V)=an [15,5,6] (aa b) V V:=by simp[an,h5,h6,h22,iu]
 rw[<-hn];refine bI (α:=Nat×List Nat×Nat) (fun a=>⟨an [15,5,6] (aa b) V ((15,.int .i64 (a.1:Int))::(5,iu a.1)::(6,.int .u64 (a.2.2:Int))::V),iI A B a.1 a.2.1,d⟩) (fun a=>A.length-a.1)
  (fun a=>a.1<=A.length/\a.2.1.length=a.1/\a.2.2<=1/\a.2.1++vy 1000000000 (A.drop a.1) (B.drop a.1) a.2.2=vy 1000000000 A B 0) (.exit 0) _ d _ (by simp) ?_ K (0,[],0) ⟨Nat.zero_le _,rfl,Nat.zero_le _,rfl⟩ (by simpa using hK)
 rintro ⟨i,done,c⟩ ⟨hi,hd,hc,PP⟩;simp only at hi hd hc PP;clear hn;subst hb;by_cases H:i=A.length
 .right
  subst H;rw[List.drop_length,vy,List.append_nil] at PP;rw[<-PP];simp[h21]
 .left
  have R:i<A.length:=by omega
  obtain⟨x,hx,N⟩:=de R;have ZL:=fa hA hx;have eA:A.drop i=x::A.drop (i+1):=by rw[N0 R,N]
  have w0:IntKind.i64.wrap 1=1:=by decide
  have w1:IntKind.i64.wrap ((i:Int)+1)=(i:Int)+1:=af;have o:(i:Int)<(A.length:Int):=by omega
  have m:(i+1)*8<=140737488355328:=by omega
  have L:i+1<=140737488355328:=by omega
  have j:(iN .u64 done).take i=iN .u64 done:=B5 (by simp[hd]);have J:0<i->iI A B i done=[.cells false 1 (iN .u64 A),.cells false 1 (iN .u64 B),.qK,.cells true 1 (iN .u64 done)]:=fun h=>by cases i with
   |zero=>omega
   |succ i=>rfl
  have I:0<i->iu i=.slice 3 0 i none:=fun h=>by cases i with
   |zero=>omega
   |succ i=>rfl
  have G:i=0->done=[]:=fun h=>Mp (by omega)
  by_cases U:i<B.length
  .obtain⟨y,hy,S⟩:=de U
   have hyb:=fa hB hy;have eB:B.drop i=y::B.drop (i+1):=by rw[N0 U,S]
   rw[eA,eB,vy,List.headD_cons,List.tail_cons] at PP;obtain⟨s,hs'⟩:=xE (α:=Nat) (c+y);rw[<-hs'] at PP;have w2:IntKind.u64.wrap ((c:Int)+(y:Int))=(s:Int):=by rw[cS (by omega) (by omega)];omega
   by_cases Z:x<s
   .rw[if_pos Z] at PP
    obtain⟨r,C⟩:=xE (α:=Nat) (x+1000000000-s);rw[<-C] at PP;have w3:IntKind.u64.wrap ((x:Int)+1000000000)=(x:Int)+1000000000:=cS (by omega) (by omega);have w4:IntKind.u64.wrap ((x:Int)+1000000000-(s:Int))=(r:Int):=by rw[cS (by omega) (by omega)];omega
    refine⟨(i+1,done++[r],1),?_⟩;refine bt (r:=_/\_) (show(i+1<=A.length/\(done++[r]).length=i+1/\1<=1/\(done++[r])++vy 1000000000 (A.drop (i+1)) (B.drop (i+1)) 1=vy 1000000000 A B 0)/\A.length-(i+1)<A.length-i by refine⟨⟨by omega,by simp[hd],by omega,?_⟩,by omega⟩;rw[<-PP];simp) ?_
    clear PP;rcases QQK i with rfl | hpos
    .obtain rfl:=G rfl
     simp[iI,iu,h1,h20,h21,N,S,R,U,w0,w2,w3,w4,Z,cr]
    .simp[J hpos,I hpos,kh,kj,lI,h1,h20,h21,N,S,o,m,L,R,U,hd,w1,w2,w3,w4,Z,j,dE,cr]
   .rw[if_neg Z] at PP
    obtain⟨r,C⟩:=xE (α:=Nat) (x-s);rw[<-C] at PP;have w4:IntKind.u64.wrap ((x:Int)-(s:Int))=(r:Int):=by rw[cS (by omega) (by omega)];omega
    refine⟨(i+1,done++[r],0),?_⟩;refine bt (r:=_/\_) (show(i+1<=A.length/\(done++[r]).length=i+1/\0<=1/\(done++[r])++vy 1000000000 (A.drop (i+1)) (B.drop (i+1)) 0=vy 1000000000 A B 0)/\A.length-(i+1)<A.length-i by refine⟨⟨by omega,by simp[hd],by omega,?_⟩,by omega⟩;rw[<-PP];simp) ?_
    clear PP;rcases QQK i with rfl | hpos
    .obtain rfl:=G rfl
     simp[iI,iu,h1,h20,h21,N,S,R,U,w0,w2,w4,Z,cr]
    .simp[J hpos,I hpos,kh,kj,lI,h1,h20,h21,N,S,o,m,L,R,U,hd,w1,w2,w4,Z,j,dE,cr]
  .have eB:B.drop i=[]:=List.drop_eq_nil_of_le (by omega)
   have u:B.drop (i+1)=[]:=List.drop_eq_nil_of_le (by omega);rw[eA,eB,Wg] at PP;by_cases Z:x<c
   .rw[if_pos Z] at PP
    obtain⟨r,C⟩:=xE (α:=Nat) (x+1000000000-c);rw[<-C] at PP;have w3:IntKind.u64.wrap ((x:Int)+1000000000)=(x:Int)+1000000000:=cS (by omega) (by omega);have w4:IntKind.u64.wrap ((x:Int)+1000000000-(c:Int))=(r:Int):=by rw[cS (by omega) (by omega)];omega
    refine⟨(i+1,done++[r],1),?_⟩;refine bt (r:=_/\_) (show(i+1<=A.length/\(done++[r]).length=i+1/\1<=1/\(done++[r])++vy 1000000000 (A.drop (i+1)) (B.drop (i+1)) 1=vy 1000000000 A B 0)/\A.length-(i+1)<A.length-i by refine⟨⟨by omega,by simp[hd],by omega,?_⟩,by omega⟩;rw[<-PP,u];simp) ?_
    clear PP;rcases QQK i with rfl | hpos
    .obtain rfl:=G rfl
     simp[iI,iu,h1,h20,h21,N,R,U,w0,w3,w4,Z,cr]
    .simp[J hpos,I hpos,kh,kj,lI,h1,h20,h21,N,o,m,L,R,U,hd,w1,w3,w4,Z,j,dE,cr]
   .rw[if_neg Z] at PP
    obtain⟨r,C⟩:=xE (α:=Nat) (x-c);rw[<-C] at PP;have w4:IntKind.u64.wrap ((x:Int)-(c:Int))=(r:Int):=by rw[cS (by omega) (by omega)];omega
    refine⟨(i+1,done++[r],0),?_⟩;refine bt (r:=_/\_) (show(i+1<=A.length/\(done++[r]).length=i+1/\0<=1/\(done++[r])++vy 1000000000 (A.drop (i+1)) (B.drop (i+1)) 0=vy 1000000000 A B 0)/\A.length-(i+1)<A.length-i by refine⟨⟨by omega,by simp[hd],by omega,?_⟩,by omega⟩;rw[<-PP,u];simp) ?_
    clear PP;rcases QQK i with rfl | hpos
    .obtain rfl:=G rfl
     simp[iI,iu,h1,h20,h21,N,R,U,w0,w4,Z,cr]
    .simp[J hpos,I hpos,kh,kj,lI,h1,h20,h21,N,o,m,L,R,U,hd,w1,w4,Z,j,dE,cr]
theorem DR(A B:List Nat)(H:lok 1000000000 A=true)(I:lok 1000000000 B=true)(hl:A.length<=100000000)(J:B.length<=A.length):
  ae (aX prog) (fun _=>[15,5,6]) (aZ prog) bR (A.length+1) 250 [.slice 0 0 A.length none,.slice 1 0 B.length none] [.cells false 1 (iN .u64 A),.cells false 1 (iN .u64 B)]=
   some ⟨.slice 2 0 (aW (vy 1000000000 A B 0)).length none,none,[.cells true 1 (iN .u64 (vy 1000000000 A B 0))]⟩:=by
 have u:aZ prog 250=some f250:=by kernel_rfl
 obtain⟨b,S⟩:∃b,ag f250=[b]:=⟨_,rfl⟩
 have V:=Di 1000000000 A B 0;obtain⟨F,Z⟩:=Bv (O:=bR) (K:=A.length+1) (lv:=fun _=>[15,5,6]) A B H I (by omega) J (by omega) S rfl;simp[ag,aE,f250] at S;subst S;obtain⟨o,m⟩:=xE (α:=Int) (A.length:Int);have h0:0<=(A.length:Int):=by omega
 have j:8*(A.length:Int)<=281474976710656:=by omega
 have h2:(A.length:Int)<=281474976710656:=by omega
 obtain⟨U,R⟩:=xE (vy 1000000000 A B 0);rw[<-R] at V Z |-;rcases QQK A.length with hz | hpos
 .have N:=Mp hz
  have L:B=[]:=Mp (by omega);subst N;subst L;have G:U=[]:=Mp (by simpa using V);subst G;simp only[List.length_nil,iI,iu,QQb,Int.cast_ofNat_Int,Pj] at Z;have C:bd .u64 [.cells false 1 [],.cells false 1 [],.cells true 1 []] (.slice 2 0 0 none)=some []:=by rfl
  simp[ae,u,f250,Z,bR,C,aW]
 .have hM:∀done,iI A B A.length done=[.cells false 1 (iN .u64 A),.cells false 1 (iN .u64 B),.qK,.cells true 1 (iN .u64 done)]:=fun done=>by
   cases h:A.length with
   |zero=>omega
   |succ i=>rfl
  have hO:iu A.length=.slice 3 0 A.length none:=by
   cases h:A.length with
   |zero=>omega
   |succ i=>rfl
  rw[hM,hO] at Z;simp only[iI] at Z;have C:bd .u64 [.cells false 1 (iN .u64 A),.cells false 1 (iN .u64 B),.qK,.cells true 1 (iN .u64 U)] (.slice 3 0 A.length none)=some U:=
   aU rfl (by simp[V]) (B5 (by simp[V]))
  have h7:U.length<=1000000000:=by omega
  simp[ae,u,f250,j,h2,Z,bR,C,h7]
theorem HQ{A B:List Nat}(H:lok 1000000000 A=true)(I:lok 1000000000 B=true)(hl:A.length<=100000000)(J:B.length<=A.length)(ZJ:ao 1000000000 B<=ao 1000000000 A)(hx:afw .u64 M x A)(hy:afw .u64 M y B):
  kO prog 250 [x,y] M (.slice M.length 0 (dig 1000000000 (ao 1000000000 A-ao 1000000000 B)).length none) (M++[.cells true 1 (iN .u64 (dig 1000000000 (ao 1000000000 A-ao 1000000000 B)))]):=by
 obtain⟨S,Z⟩:=CE (B:=1000000000) (by omega) A B 0 H I (by omega) J (by omega);have V:aW (vy 1000000000 A B 0)=dig 1000000000 (ao 1000000000 A-ao 1000000000 B):=by rw[<-dV (by omega) Z];congr 1;omega
 have:=(aB aj (aI _) jo (aQ _) (DR A B H I hl J)).1;simp only[afl.mem,Option.getD_none,List.cons_append,List.nil_append] at this;have U:=kO.ahd (m:=[.cells false 1 (iN .u64 A),.cells false 1 (iN .u64 B)]) this (Cp (dG _));obtain⟨b,c,rfl,rfl,h3⟩:=kO.agi (new:=[.cells true 1 (iN .u64 (aW (vy 1000000000 A B 0)))]) rfl U hx hy;rw[V] at h3;simpa [AV.ren,fA] using h3
end Go.Proofs
