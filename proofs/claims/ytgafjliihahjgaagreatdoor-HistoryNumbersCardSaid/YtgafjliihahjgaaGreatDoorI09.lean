/- See I36. -/
import Derived.Test.YtgafjliihahjgaaGreatDoorI08
set_option linter.all false
namespace Go.Eng
def aG(B:Nat):List Nat->Nat
 | []=>0
 |d::l=>d+B*aG B l
def lok(B:Nat)(l:List Nat):Bool:=l.all fun d=>decide (d<B)
def bB:List Nat->List Nat
 | []=>[]
 |d::l=>match bB l with
  | []=>if d=0 then [] else [d]
  |x::r=>d::x::r
def VW(B:Nat):Nat->Nat->List Nat
 |0,_=>[]
 |f+1,n=>if n=0 then [] else n%B::VW B f (n / B)
def dig(B n:Nat):List Nat:=VW B (n.log2+1) n
theorem Uy{B:Nat}(y:2<=B):∀(f g n:Nat),n<2 ^ f->n<2 ^ g->VW B f n=VW B g n
 |0,g,n,h,_=>by
  have:n=0:=by simp at h;omega
  subst this;cases g<;>simp[VW]
 |f+1,0,n,_,h=>by
  have:n=0:=by simp at h;omega
  subst this;simp[VW]
 |f+1,g+1,n,h1,h2=>by
  unfold VW;by_cases Z:n=0
  .rw[if_pos Z,if_pos Z]
  .rw[if_neg Z,if_neg Z]
   have h:n / B<=n / 2:=Nat.div_le_div_left y (by omega);rw[Nat.pow_succ] at h1 h2;rw[Uy y f g (n / B) (by omega) (by omega)]
theorem fz(B:Nat):dig B 0=[]:=by simp[dig,VW]
variable{B n:Nat}
section
variable (hB:2<=B)
include hB
theorem za(y:n≠0):dig B n=n%B::dig B (n / B):=by
 have Z:n<2 ^ (n.log2+1):=Nat.lt_log2_self;have X:n / B<2 ^ ((n / B).log2+1):=Nat.lt_log2_self;have h:n / B<=n / 2:=Nat.div_le_div_left hB (by omega);show VW B (n.log2+1) n=_
 rw[VW,if_neg y];congr 1;exact Uy hB _ _ _ (by rw[Nat.pow_succ] at Z;omega) X
theorem O2{p:Nat->Prop}(h0:p 0)(h1:∀n,n≠0->p (n / B)->p n)(n:Nat):p n:=by
 induction n using Nat.strongRecOn with
 |_ n ih=>
  by_cases Z:n=0
  .subst Z;exact h0
  .exact h1 n Z (ih (n / B) (Nat.div_lt_self (by omega) hB))
theorem cY(n:Nat):aG B (dig B n)=n:=by
 induction n using O2 hB with
 |h0=>rw[fz];rfl
 |h1 n hn ih=>
  rw[za hB hn,aG,ih];have:=Nat.mod_add_div n B;omega
theorem dI(n:Nat):lok B (dig B n)=true:=by
 induction n using O2 hB with
 |h0=>rw[fz];rfl
 |h1 n hn ih=>
  rw[za hB hn];unfold lok at ih |-;rw[QQK,ih];simp[Nat.mod_lt n (show 0<B by omega)]
end
theorem jI(B:Nat):∀(l r:List Nat),aG B (l++r)=aG B l+B ^ l.length*aG B r
 | [],r=>by simp[aG]
 |d::l,r=>by rw[List.cons_append,aG,aG,jI B l r,List.length_cons,Nat.pow_succ,Nat.mul_add,V1 (B ^ l.length) B,QQh];omega
theorem jJ{B:Nat}:∀{l:List Nat},lok B l=true->aG B l<B ^ l.length
 | [],_=>by simp[aG]
 |d::l,h=>by unfold lok at h;simp only[QQK,Es,L0] at h;have:=jJ (l:=l) h.2;rw[aG,List.length_cons,Nat.pow_succ];have Z:B*(aG B l+1)<=B*B ^ l.length:=Nat.mul_le_mul_left _ this;rw[Nat.mul_add] at Z;rw[V1 (B ^ l.length) B];omega
theorem F6(B:Nat):∀l:List Nat,aG B (bB l)=aG B l
 | []=>rfl
 |d::l=>by
  have Z:=F6 B l;unfold bB;split
  .rename_i h
   rw[h] at Z;rw[aG,<-Z];split
   next X=>subst X;simp[aG]
   .simp[aG]
  .rename_i x r h
   rw[h] at Z;show d+B*aG B (x::r)=d+B*aG B l
   rw[Z]
theorem tT(y:2<=B):dig B n=[]↔n=0:=by
 constructor
 .intro h
  by_cases Z:n=0
  .exact Z
  .rw[za y Z] at h;cases h
 .rintro rfl;exact fz B
theorem gP{B:Nat}(y:2<=B):∀{l:List Nat},lok B l=true->dig B (aG B l)=bB l
 | [],_=>fz B
 |d::l,h=>by
  unfold lok at h;simp only[QQK,Es,L0] at h;have Z:=gP y (l:=l) h.2;have O:aG B (d::l)=d+B*aG B l:=rfl;have W:(d+B*aG B l) / B=aG B l:=by rw[Nat.add_mul_div_left _ _ (by omega),Nat.div_eq_of_lt h.1,QQZ]
  have V:(d+B*aG B l)%B=d:=by rw[Nat.add_mul_mod_self_left,QQd h.1]
  rw[O];unfold bB;split
  .rename_i S
   rw[S] at Z;have M:=(tT y).1 Z;rw[M];split
   next X=>subst X;exact fz B
   .rename_i X
    rw[za y (by omega),Nat.mul_zero,Nat.add_zero,QQd h.1,Nat.div_eq_of_lt h.1,fz]
  .rename_i x r S
   rw[S] at Z;have K:aG B l≠0:=by intro e;rw[e,fz] at Z;cases Z
   have:d+B*aG B l≠0:=by have:0<B*aG B l:=Nat.mul_pos (by omega) (by omega);omega
   rw[za y this,W,V,Z]
theorem ed(y:2<=B)(n:Nat):bB (dig B n)=dig B n:=by rw[<-gP y (dI y n),cY y]
theorem j9:∀l:List Nat,bB (l++[0])=bB l
 | []=>rfl
 |d::l=>by rw[List.cons_append,bB,j9 l,bB]
theorem F5{d:Nat}(hd:d≠0):∀l:List Nat,bB (l++[d])=l++[d]
 | []=>by simp[bB,hd]
 |c::l=>by rw[List.cons_append,bB,F5 hd l];cases l<;>rfl
theorem ef:∀l:List Nat,(bB l).length<=l.length
 | []=>L9 _
 |d::l=>by
  have:=ef l;unfold bB;split
  .split<;>simp
  .rename_i x r h
   rw[h] at this;simp only[List.length_cons] at this |-;omega
theorem lG:∀l:List Nat,bB l=l.take (bB l).length
 | []=>rfl
 |d::l=>by
  have:=lG l;unfold bB;split
  .split<;>simp
  .rename_i x r h
   rw[h] at this;rw[List.length_cons,List.take_succ_cons,<-this]
section
variable (hB:2<=B)
include hB
theorem y8(n:Nat):n<B ^ (dig B n).length:=by
 have:=jJ (dI hB n)
 rwa [cY hB] at this
theorem ug(n:Nat)(y:n≠0):B ^ ((dig B n).length-1)<=n:=by
 induction n using O2 hB with
 |h0=>exact absurd rfl y
 |h1 n _ ih=>
  rw[za hB y,List.length_cons,Nat.add_sub_cancel];by_cases h0:n / B=0
  .rw[h0,fz];simp;omega
  .have:=ih h0
   have Z:0<(dig B (n / B)).length:=by
    cases h:dig B (n / B) with
    |nil=>exact absurd ((tT hB).1 h) h0
    |cons=>simp
   have e:B ^ (dig B (n / B)).length=B*B ^ ((dig B (n / B)).length-1):=by rw[V1,<-Nat.pow_succ];congr 1;omega
   rw[e];exact QQJ (Nat.mul_le_mul_left _ this) (Nat.mul_div_le n B)
theorem fy{m:Nat}(h:(dig B m).length<(dig B n).length):m<n:=by
 have Z:n≠0:=by rintro rfl;rw[fz] at h;simp at h
 have X:=y8 hB m;have W:=ug hB n Z;have h3:B ^ (dig B m).length<=B ^ ((dig B n).length-1):=P1 (by omega) (by omega);omega
theorem gO{k:Nat}(h:n<B ^ k):(dig B n).length<=k:=by
 by_cases Z:n=0
 .subst Z;rw[fz];simp
 .have W:=ug hB n Z
  have X:B ^ ((dig B n).length-1)<B ^ k:=by omega
  have:=(Nat.pow_lt_pow_iff_right (by omega:1<B)).1 X;omega
end
variable{d:Nat}{l:List Nat}
theorem im(h:lok B l=true){i:Nat}(y:l[i]? =some d):d<B:=by have:=List.all_eq_true.1 h d (Lo y);simpa using this
variable{r:List Nat}
theorem tY:lok B (l++r)=(lok B l&&lok B r):=by simp[lok,List.all_append]
theorem dL:lok B (d::r)=(decide (d<B)&&lok B r):=rfl
theorem kU(h:lok B l=true)(k:Nat):lok B (l.take k)=true:=by unfold lok at h |-;rw[List.all_eq_true] at h |-;exact fun d Z=>h d (List.mem_of_mem_take Z)
theorem ma(h:lok B l=true)(k:Nat):lok B (l.drop k)=true:=by unfold lok at h |-;rw[List.all_eq_true] at h |-;exact fun d Z=>h d (List.mem_of_mem_drop Z)
def vQ(B:Nat):List Nat->List Nat->Nat->List Nat
 | [],_,c=>[c]
 |x::a,b,c=>(c+x+b.headD 0)%B::vQ B a b.tail ((c+x+b.headD 0) / B)
theorem MN(B:Nat)(b:List Nat):aG B b=b.headD 0+B*aG B b.tail:=by cases b<;>simp[aG]
theorem MM(B:Nat):∀(a b:List Nat) (c:Nat),b.length<=a.length->aG B (vQ B a b c)=aG B a+aG B b+c
 | [],b,c,h=>by have:b=[]:=M0 (by simpa using h);subst this;simp[vQ,aG]
 |x::a,b,c,h=>by
  have Z:b.tail.length<=a.length:=by simp at h |-;omega
  rw[vQ,aG,MM B a b.tail _ Z,MN B b,aG];have:=Nat.mod_add_div (c+x+b.headD 0) B;rw[Nat.mul_add,Nat.mul_add];omega
variable{b:List Nat}
theorem MK(y:0<B)(h:lok B b=true):b.headD 0<B:=by
 cases b with
 |nil=>exact y
 |cons d b=>rw[dL,Es,L0] at h;exact h.1
theorem Ql(h:lok B b=true):lok B b.tail=true:=by
 cases b with
 |nil=>rfl
 |cons d b=>rw[dL,Es] at h;exact h.2
theorem Qk{B:Nat}(y:2<=B):∀(a b:List Nat) (c:Nat),lok B a=true->lok B b=true->c<=1->lok B (vQ B a b c)=true
 | [],b,c,_,_,hc=>by simp[vQ,lok];omega
 |x::a,b,c,ha,hb,hc=>by
  rw[dL,Es,L0] at ha;have Z:=MK (by omega) hb;rw[vQ,dL,Es,L0];refine⟨Nat.mod_lt _ (by omega),Qk y a _ _ ha.2 (Ql hb) ?_⟩;have:(c+x+b.headD 0) / B<2:=by rw[Nat.div_lt_iff_lt_mul (by omega)];omega
  omega
def wF(B:Nat):List Nat->List Nat->Nat->List Nat
 | [],_,_=>[]
 |x::a,b,c=>if x<c+b.headD 0 then (x+B-(c+b.headD 0))::wF B a b.tail 1 else (x-(c+b.headD 0))::wF B a b.tail 0
theorem Dy{B:Nat}(y:2<=B):∀(a b:List Nat) (c:Nat),lok B a=true->lok B b=true->c<=1->b.length<=a.length->aG B b+c<=aG B a->
  aG B (wF B a b c)+aG B b+c=aG B a/\lok B (wF B a b c)=true
 | [],b,c,_,_,_,h,h2=>by have:b=[]:=M0 (by simpa using h);subst this;simp only[aG] at h2;simp only[wF,aG];exact⟨by omega,rfl⟩
 |x::a,b,c,ha,hb,hc,h,h2=>by
  have V:b.tail.length<=a.length:=by simp at h |-;omega
  rw[dL,Es,L0] at ha;have O:=MK (by omega) hb;have Z:=Ql hb;rw[MN B b] at h2 |-;rw[aG] at h2 |-;unfold wF;split
  .rename_i S
   have h3:aG B b.tail+1<=aG B a:=by
    have:B*aG B b.tail<B*aG B a:=by omega
    have:=Nat.lt_of_mul_lt_mul_left this;omega
   obtain⟨X,W⟩:=Dy y a b.tail 1 ha.2 Z (by omega) V h3;have e:B*aG B a=B*aG B (wF B a b.tail 1)+B*aG B b.tail+B:=by rw[<-X,Nat.mul_add,Nat.mul_add,Nat.mul_one]
   rw[aG,dL,W,Bool.and_true,L0,e];exact⟨by omega,by omega⟩
  .rename_i S
   have h3:aG B b.tail+0<=aG B a:=by
    have:B*aG B b.tail<B*aG B a+B:=by omega
    rw[<-Nat.mul_succ] at this;have:=Nat.lt_of_mul_lt_mul_left this;omega
   obtain⟨X,W⟩:=Dy y a b.tail 0 ha.2 Z (by omega) V h3;have e:B*aG B a=B*aG B (wF B a b.tail 0)+B*aG B b.tail:=by rw[<-X,Nat.mul_add,Nat.mul_add,Nat.mul_zero,Nat.add_zero]
   rw[aG,dL,W,Bool.and_true,L0,e];exact⟨by omega,by omega⟩
def jX(B:Nat):List Nat->Nat->List Nat
 | [],_=>[]
 |o::l,c=>if c=0 then o::l else (c+o)%B::jX B l ((c+o) / B)
def SY(B x:Nat):List Nat->List Nat->Nat->List Nat
 |o,[],c=>jX B o c
 | [],_::_,_=>[]
 |o::l,y::b,c=>(c+(o+x*y))%B::SY B x l b ((c+(o+x*y)) / B)
theorem xJ(B:Nat):∀(o:List Nat) (c:Nat),(jX B o c).length=o.length
 | [],_=>rfl
 |o::l,c=>by
  unfold jX;split
  .rfl
  .simp[xJ B l]
theorem we(B x:Nat):∀(o b:List Nat) (c:Nat),(SY B x o b c).length=o.length
 |o,[],c=>by cases o<;>exact xJ B _ c
 | [],_::_,_=>rfl
 |o::l,y::b,c=>by simp[SY,we B x l b]
theorem Dw{B:Nat}(y:2<=B):∀(o:List Nat) (c:Nat),lok B o=true->aG B o+c<B ^ o.length->aG B (jX B o c)=aG B o+c/\lok B (jX B o c)=true
 | [],c,_,h=>by simp only[aG,List.length_nil,Nat.pow_zero] at h;simp only[jX,aG];exact⟨by omega,rfl⟩
 |o::l,c,ho,h=>by
  unfold jX;split
  next hc=>subst hc;exact⟨by omega,ho⟩
  .rw[dL,Es,L0] at ho
   have Z:=Nat.mod_add_div (c+o) B;rw[aG,List.length_cons,Nat.pow_succ,V1 (B ^ l.length)] at h;have X:aG B l+(c+o) / B<B ^ l.length:=by
    have:B*(aG B l+(c+o) / B)<B*B ^ l.length:=by rw[Nat.mul_add];omega
    exact Nat.lt_of_mul_lt_mul_left this
   obtain⟨W,V⟩:=Dw y l _ ho.2 X;rw[aG,aG,W,dL,V,Nat.mul_add];refine⟨by omega,?_⟩;simp[Nat.mod_lt (c+o) (show 0<B by omega)]
theorem Dx{B:Nat}(H:2<=B)(x:Nat):∀(o b:List Nat) (c:Nat),lok B o=true->aG B o+x*aG B b+c<B ^ o.length->
  b.length<=o.length->aG B (SY B x o b c)=aG B o+x*aG B b+c/\lok B (SY B x o b c)=true
 |o,[],c,ho,h,_=>by
  simp only[aG,Nat.mul_zero,Nat.add_zero] at h |-;have:SY B x o [] c=jX B o c:=by cases o<;>rfl
  rw[this];exact Dw H o c ho h
 | [],y::b,c,_,_,hl=>by simp at hl
 |o::l,y::b,c,ho,h,hl=>by
  rw[dL,Es,L0] at ho;have Z:=Nat.mod_add_div (c+(o+x*y)) B;have e:x*(y+B*aG B b)=x*y+B*(x*aG B b):=by rw[Nat.mul_add,<-QQh,<-QQh,V1 x B]
  rw[aG,aG,e,List.length_cons,Nat.pow_succ,V1 (B ^ l.length)] at h;have X:aG B l+x*aG B b+(c+(o+x*y)) / B<B ^ l.length:=by
   have:B*(aG B l+x*aG B b+(c+(o+x*y)) / B)<B*B ^ l.length:=by rw[Nat.mul_add,Nat.mul_add];omega
   exact Nat.lt_of_mul_lt_mul_left this
  obtain⟨W,V⟩:=Dx H x l b _ ho.2 X (by simpa using hl);rw[SY,aG,W,dL,V,aG,aG,e,Nat.mul_add,Nat.mul_add];refine⟨by omega,?_⟩;simp[Nat.mod_lt (c+(o+x*y)) (show 0<B by omega)]
def tE(B:Nat):List Nat->List Nat->List Nat->List Nat
 | [],_,o=>o
 |x::a,b,o=>match SY B x o b 0 with
  | []=>[]
  |d::r=>d::tE B a b r
theorem F7{B:Nat}(y:2<=B):∀(a b o:List Nat),lok B o=true->aG B o+aG B a*aG B b<B ^ o.length->a.length+b.length<=o.length->
  aG B (tE B a b o)=aG B o+aG B a*aG B b/\lok B (tE B a b o)=true/\(tE B a b o).length=o.length
 | [],b,o,ho,h,_=>by simp only[tE,aG,Nat.zero_mul,Nat.add_zero];exact⟨trivial,ho,trivial⟩
 |x::a,b,o,ho,h,hl=>by
  have e:(x+B*aG B a)*aG B b=x*aG B b+B*(aG B a*aG B b):=by rw[Nat.add_mul,QQh]
  rw[aG,e] at h;have W :a.length+1+b.length<=o.length:=by simpa using hl
  obtain⟨r1,r2⟩:=Dx y x o b 0 ho (by omega) (by omega);have Z:=we B x o b 0;unfold tE;split
  next X=>rw[X] at Z;simp at Z;omega
  .rename_i d r X
   rw[X] at r1 r2 Z;rw[dL,Es,L0] at r2;simp only[List.length_cons] at Z;rw[aG] at r1;have V:aG B r+aG B a*aG B b<B ^ r.length:=by
    have:B*(aG B r+aG B a*aG B b)<B*B ^ r.length:=by rw[V1 B (B ^ r.length),<-Nat.pow_succ,show r.length.succ=o.length from Z,Nat.mul_add];omega
    exact Nat.lt_of_mul_lt_mul_left this
   obtain⟨S,O,M⟩:=F7 y a b r r2.2 V (by omega);rw[aG,S,dL,O,List.length_cons,M,aG,e,Nat.mul_add];exact⟨by omega,by simp[r2.1],Z⟩
theorem SH(y:2<=B){a:List Nat}(H:lok B a=true)(I:lok B b=true):
  aG B (tE B a b (List.replicate (a.length+b.length+1) 0))=aG B a*aG B b/\lok B (tE B a b (List.replicate (a.length+b.length+1) 0))=true/\
   (tE B a b (List.replicate (a.length+b.length+1) 0)).length=a.length+b.length+1:=by
 have X:∀n,aG B (List.replicate n 0)=0:=by
  intro n;induction n with
  |zero=>rfl
  |succ n ih=>rw[List.replicate_succ,aG,ih];simp
 have Z:∀n,lok B (List.replicate n 0)=true:=by intro n;unfold lok;rw[List.all_eq_true];intro d W;rw[List.mem_replicate] at W;simp[W.2];omega
 have h:aG B a*aG B b<B ^ (a.length+b.length+1):=by have V:=jJ H;have S:=jJ I;have h3:aG B a*aG B b<B ^ a.length*B ^ b.length:=Nat.mul_lt_mul_of_lt_of_lt V S;rw[<-Nat.pow_add] at h3;have O:B ^ (a.length+b.length)<=B ^ (a.length+b.length+1):=P1 (by omega) (by omega);omega
 have:=F7 y a b (List.replicate (a.length+b.length+1) 0) (Z _) (by rw[X,QQZ,QXa];exact h) (by rw[QXa];omega)
 rwa [X,QQZ,QXa] at this
def jg(B d:Nat):List Nat->List Nat×Nat
 | []=>([],0)
 |x::l=>let p:=jg B d l;((p.2*B+x) / d::p.1,(p.2*B+x)%d)
theorem C8{B d:Nat}(hd:0<d)(y:d<B):∀l:List Nat,lok B l=true->(jg B d l).2<d/\aG B (jg B d l).1*d+(jg B d l).2=aG B l/\lok B (jg B d l).1=true/\(jg B d l).1.length=l.length
 | [],_=>by simp[jg,aG,lok,hd]
 |x::l,h=>by
  rw[dL,Es,L0] at h;obtain⟨X,W,V,S⟩:=C8 hd y l h.2;simp only[jg];have Z:=Nat.mod_add_div ((jg B d l).2*B+x) d;refine⟨Nat.mod_lt _ hd,?_,?_,by simp[S]⟩
  .rw[aG,aG,<-W,Nat.add_mul,Nat.mul_add]
   rw[V1 d] at Z;rw[QQh,V1 B (jg B d l).2];omega
  .rw[dL,Es,L0]
   refine⟨?_,V⟩;rw[Nat.div_lt_iff_lt_mul hd];have h3:((jg B d l).2+1)*B<=d*B:=QQf _ X;rw[Nat.add_mul] at h3;rw[V1 B d];omega
theorem WY{p D top r b q:Nat}(hr:r<(D+1)*p)(y:top*p<=b)(hq:q*b<=r)(H:0<top):q<=D / top:=by
 rw[Nat.le_div_iff_mul_le H];have X:q*(top*p)<=q*b:=Nat.mul_le_mul_left _ y;have Z:(q*top)*p<(D+1)*p:=by rw[QQh];omega
 have:=Nat.lt_of_mul_lt_mul_right Z;omega
end Go.Eng
namespace Go.Proofs
open Go.Eng
open Tryz
variable{A:List Nat}
theorem Dv{n:Nat}(h:A[n]? =some 0):bB (A.take (n+1))=bB (A.take n):=by rw[List.take_add_one,h];exact j9 _
theorem Du{n d:Nat}(h:A[n]? =some d)(hd:d≠0):bB (A.take (n+1))=A.take (n+1):=by rw[List.take_add_one,h];exact F5 hd _
variable{K:Nat}{O:af3}{lv:Code->List Nat}
theorem EV(A:List Nat)(Q:A.length<=1000000000)(I:A.length<K){b:Code}(H:ag f222=[b])(y:lv b=[0]):
  ∃F:Env->Bool->Env,∀Z d,ad Z 0=.slice 0 0 A.length none->
   aT (aU prog) lv O K 21 1 true (.loop b) ⟨Z,[.cells false 1 (iN .u64 A)],d⟩=some (.exit 0,⟨F Z d,[.cells false 1 (iN .u64 A)],d⟩)/\ad (F Z d) 0=.slice 0 0 (bB A).length none:=by
 refine bG y (fun Z=>ad Z 0=.slice 0 0 A.length none) (fun _ D =>ad D 0=.slice 0 0 (bB A).length none) ?_;clear y;intro Z d C;simp[ag,aH,f222] at H;have S:au [0] (ab b) Z ((0,.slice 0 0 A.length none)::Z)=au [0] (ab b) Z Z:=by simp[au,C]
 rw[<-S];refine bW (α:=Nat) (fun n=>⟨au [0] (ab b) Z ((0,.slice 0 0 n none)::Z),[.cells false 1 (iN .u64 A)],d⟩) id (fun n=>n<=A.length/\bB (A.take n)=bB A) (.exit 0) _ d _ (by simp) ?_ K A.length ⟨L9 _,by rw[O1]⟩ I;rintro n ⟨hn1,hn2⟩;clear S;subst H;cases n with
 |zero=>
  right;rw[<-hn2];simp[bB]
 |succ n=>
  have B:n<A.length:=by omega
  obtain⟨x,W⟩:∃x,A[n]? =some x:=⟨A[n],by simp[B]⟩
  have M:IntKind.i64.wrap (n:Int)=(n:Int):=ai;have J:(n:Int)<(n:Int)+1:=by omega
  have G:0<(n:Int)+1:=by omega
  by_cases X:x=0
  .subst X
   left;refine⟨n,?_⟩;have h3:(n:Int)<=(n:Int)+1:=by omega
   have V:n+1<=A.length:=by omega
   simp[M,J,G,h3,V,W];exact⟨by omega,by rw[<-Dv W];exact hn2⟩
  .right
   rw[<-hn2,Du W X];have V:min (n+1) A.length=n+1:=by omega
   simp[M,J,G,V,W,X]
theorem Ro(A:List Nat)(y:A.length<=1000000000):kO prog 222 [.slice 0 0 A.length none] [.cells false 1 (iN .u64 A)] (.slice 0 0 (bB A).length none) [.cells false 1 (iN .u64 A)]:=by
 have X:aS prog 222=some f222:=by kernel_rfl
 obtain⟨b,Z⟩:∃b,ag f222=[b]:=⟨_,rfl⟩
 obtain⟨F,W⟩:=EV (O:=bD) (K:=A.length+1) (lv:=fun _=>[0]) A y (by omega) Z rfl;simp[ag,aH,f222] at Z;subst Z;refine dx (lv:=(fun _=>[0])) (K:=(A.length+1)) (aj _) ?_;simp[aa,X,f222,W]
variable{X Y:List Nat}
theorem Yh{B n a b:Nat}(H:lok B X=true)(I:lok B Y=true)(Do:X.length=Y.length)(hd:X.drop (n+1)=Y.drop (n+1))(y:X[n]? =some a)(Q:Y[n]? =some b)(R:a≠b):
  lC (aG B X) (aG B Y)=if a<b then -1 else 1:=by
 have z:n<X.length:=gL y;have V:X=X.take n++([a]++X.drop (n+1)):=by
  conv=>lhs;rw[<-List.take_append_drop (n+1) X,List.take_add_one,y]
  simp
 have S:Y=Y.take n++([b]++Y.drop (n+1)):=by
  conv=>lhs;rw[<-List.take_append_drop (n+1) Y,List.take_add_one,Q]
  simp
 have M:=jJ (kU H n);have J:=jJ (kU I n);have Z:(X.take n).length=n:=by simp;omega
 have W:(Y.take n).length=n:=by simp;omega
 rw[Z] at M;rw[W] at J;have G:aG B X=aG B (X.take n)+B ^ n*(a+B*aG B (X.drop (n+1))):=by
  conv=>lhs;rw[V,jI,jI,Z]
  simp[aG]
 have F:aG B Y=aG B (Y.take n)+B ^ n*(b+B*aG B (X.drop (n+1))):=by
  conv=>lhs;rw[S,jI,jI,W,<-hd]
  simp[aG]
 rw[G,F];generalize B*aG B (X.drop (n+1))=D;generalize B ^ n=p at*;split
 .rename_i C
  have:p*(a+D+1)<=p*(b+D):=Nat.mul_le_mul_left _ (by omega);rw[Nat.mul_add,Nat.mul_one] at this;unfold lC;rw[if_pos (by omega)]
 .rename_i C
  have:p*(b+D+1)<=p*(a+D):=Nat.mul_le_mul_left _ (by omega);rw[Nat.mul_add,Nat.mul_one] at this;unfold lC;rw[if_neg (by omega),if_pos (by omega)]
theorem Uz{n a:Nat}(h:X.drop (n+1)=Y.drop (n+1))(y:X[n]? =some a)(H:Y[n]? =some a):X.drop n=Y.drop n:=by have Z:n<X.length:=gL y;have W:n<Y.length:=gL H;rw[N2 Z,N2 W,h];have:=(N4.1 y).2;have:=(N4.1 H).2;simp_all
theorem CB(A B:List Nat)(R:lok 1000000000 A=true)(hB:lok 1000000000 B=true)(hl:A.length<=1000000000)(I:A.length=B.length)(hK:A.length<K){b:Code}(Q:ag f223=[b])(H:lv b=[5]):
  ∃F:Env->Bool->Env,∀Z d,(ad Z 0=.slice 0 0 A.length none/\ad Z 1=.slice 1 0 A.length none/\ad Z 5=.int .i64 ((A.length:Int)-1))->
   aT (aU prog) lv O K 41 2 true (.loop b) ⟨Z,[.cells false 1 (iN .u64 A),.cells false 1 (iN .u64 B)],d⟩=some (if A=B then .exit 0 else .ret,⟨F Z d,[.cells false 1 (iN .u64 A),.cells false 1 (iN .u64 B)],d⟩)/\
    (A≠B->ad (F Z d) 4=.int .i64 (lC (aG 1000000000 A) (aG 1000000000 B))):=by
 refine bG H (fun Z=>ad Z 0=.slice 0 0 A.length none/\ad Z 1=.slice 1 0 A.length none/\ad Z 5=.int .i64 ((A.length:Int)-1)) (fun _ j =>A≠B->ad j 4=.int .i64 (lC (aG 1000000000 A) (aG 1000000000 B))) ?_;clear H;rintro Z d ⟨h0,h1,h5⟩;simp[ag,aH,f223] at Q;have u:au [5] (ab b) Z ((5,.int .i64 ((A.length:Int)-1))::Z)=au [5] (ab b) Z Z:=by simp[au,h5]
 rw[<-u];refine bW (α:=Nat) (fun n=>⟨au [5] (ab b) Z ((5,.int .i64 ((n:Int)-1))::Z),[.cells false 1 (iN .u64 A),.cells false 1 (iN .u64 B)],d⟩) id (fun n=>n<=A.length/\A.drop n=B.drop n) (if A=B then .exit 0 else .ret) _ d _ (by split<;>simp) ?_ K A.length ⟨L9 _,by rw[List.drop_length,I,List.drop_length]⟩ hK;rintro n ⟨hn1,hn2⟩;clear u;subst Q;cases n with
 |zero=>
  right;rw[List.drop_zero,List.drop_zero] at hn2;simp[hn2]
 |succ n=>
  have D:n<A.length:=by omega
  have W:n<B.length:=by omega
  obtain⟨x,z,S⟩:=fe D;obtain⟨y,C,M⟩:=fe W;have e1:(((n+1:Nat):Int)-1)=(n:Int):=by omega
  have e2:IntKind.i64.wrap ((n:Int)-1)=(n:Int)-1:=ai;rw[e1];by_cases J:x=y
  .left
   subst J;refine⟨n,?_⟩;simp[h0,h1,S,M,D,W,e2];exact⟨by omega,Uz hn2 z C⟩
  .right
   have m:A≠B:=by rintro rfl;rw[z] at C;cases C;exact J rfl
   have hc:=Yh R hB I hn2 z C J;have G :¬((x:Int)=(y:Int)):=by omega
   by_cases V:x<y
   .rw[if_pos V] at hc
    simp[h0,h1,S,M,D,W,G,V,m,hc]
   .rw[if_neg V] at hc
    simp[h0,h1,S,M,D,W,G,V,m,hc]
theorem NQ(A B:List Nat)(y:lok 1000000000 A=true)(H:lok 1000000000 B=true)(I:A.length<=1000000000)(tA:bB A=A)(Q:bB B=B):
  kO prog 223 [.slice 0 0 A.length none,.slice 1 0 B.length none] [.cells false 1 (iN .u64 A),.cells false 1 (iN .u64 B)] (.int .i64 (lC (aG 1000000000 A) (aG 1000000000 B))) [.cells false 1 (iN .u64 A),.cells false 1 (iN .u64 B)]:=by
 have S:aS prog 223=some f223:=by kernel_rfl
 obtain⟨b,M⟩:∃b,ag f223=[b]:=⟨_,rfl⟩
 refine dx (lv:=(fun _=>[5])) (K:=(A.length+1)) (aj _) ?_;have C:dig 1000000000 (aG 1000000000 A)=A:=by rw[gP (by omega) y,tA]
 have z:dig 1000000000 (aG 1000000000 B)=B:=by rw[gP (by omega) H,Q]
 by_cases J:A.length=B.length
 .have Z:=CB (O:=bD) (K:=A.length+1) (lv:=fun _=>[5]) A B y H I J (by omega) M rfl
  simp[ag,aH,f223] at M;subst M;obtain⟨F,Z⟩:=Z;have u:IntKind.i64.wrap ((B.length:Int)-1)=(B.length:Int)-1:=ai;by_cases W:A=B
  .subst W
   have hc:lC (aG 1000000000 A) (aG 1000000000 A)=0:=by unfold lC;simp
   rw[if_pos rfl] at Z;simp[aa,S,f223,Z,u,hc]
  .rw[if_neg W] at Z
   simp only[J] at Z;simp[aa,S,f223,Z,J,u,W]
 .have V :¬((A.length:Int)=B.length):=by omega
  by_cases G:A.length<B.length
  .have D:aG 1000000000 A<aG 1000000000 B:=fy (B:=1000000000) (by omega) (by rw[C,z];exact G)
   have hc:lC (aG 1000000000 A) (aG 1000000000 B)= -1:=by unfold lC;rw[if_pos D]
   simp[aa,S,f223,V,G,hc]
  .have D:aG 1000000000 B<aG 1000000000 A:=fy (B:=1000000000) (by omega) (by rw[C,z];omega)
   have hc:lC (aG 1000000000 A) (aG 1000000000 B)=1:=by unfold lC;rw[if_neg (by omega),if_pos D]
   simp[aa,S,f223,V,G,hc]
theorem pc(l:List Nat):l.take (bB l).length=bB l:=(lG l).symm
variable{M:Mem}{x:AV}
theorem NV(y:A.length<=1000000000)(hx:agi .u64 M x A):∃b,x=.slice b 0 A.length none/\kO prog 222 [x] M (.slice b 0 (bB A).length none) M:=by obtain⟨b,e,h⟩:=kO.aip (new:=[]) (rest:=[]) rfl rfl (Ro A y) hx;refine⟨b,e,?_⟩;simpa [AV.ren,eg] using h
variable{y:AV}
theorem IX{A B:List Nat}(H:lok 1000000000 A=true)(I:lok 1000000000 B=true)(Q:A.length<=1000000000)(tA:bB A=A)(R:bB B=B)(hx:agi .u64 M x A)(hy:agi .u64 M y B):
  kO prog 223 [x,y] M (.int .i64 (lC (aG 1000000000 A) (aG 1000000000 B))) M:=by
 obtain⟨b,c,Z,W,h⟩:=kO.ag8 (new:=[]) rfl (NQ A B H I Q tA R) hx hy;simpa [AV.ren] using h
noncomputable def bu:af3:=fun c Z M=>match c,Z with
 |.fn 222,[x]=>match x,cb .u64 M x with
  |.slice b _ _ _,some A=>if A.length<=1000000000 then some ⟨.slice b 0 (bB A).length none,none,[]⟩ else none
  |_,_=>none
 |.fn 223,[x,y]=>match cb .u64 M x,cb .u64 M y with
  |some A,some B=>if lok 1000000000 A=true/\lok 1000000000 B=true/\A.length<=1000000000/\bB A=A/\bB B=B then some ⟨.int .i64 (lC (aG 1000000000 A) (aG 1000000000 B)),none,[]⟩ else none
  |_,_=>none
 |_,_=>none
theorem jL:adM prog bu:=by
 have W:∀c Z M r,bu c Z M=some r->(∃f,c=.fn f/\kO prog f Z M r.v (r.mem M))/\r.pre=none:=by
  intro c Z M r h;unfold bu at h;split at h
  .split at h
   .rename_i S
    split at h
    .rename_i G
     cases h;obtain⟨b,e,h⟩:=NV G (cD S);cases e;exact⟨⟨_,rfl,by simpa [afA.mem] using h⟩,rfl⟩
    .cases h
   .cases h
  .split at h
   .rename_i S F
    split at h
    .rename_i hc
     obtain⟨D,C,B,z,u⟩:=hc;cases h;exact⟨⟨_,rfl,by simpa [afA.mem] using IX D C B z u (cD S) (cD F)⟩,rfl⟩
    .cases h
   .cases h
  .cases h
 refine⟨fun f Z M r h=>?_,fun b Z M r h=>?_,fun c Z M r p h J=>?_⟩
 .obtain⟨⟨m,e,V⟩,_⟩:=W _ _ _ _ h
  cases e;exact V
 .obtain⟨⟨m,e,V⟩,_⟩:=W _ _ _ _ h
  cases e
 .obtain⟨_,V⟩:=W _ _ _ _ h
  rw[V] at J;cases J
def iW(X Y:List Nat):Nat->List Nat->Mem
 |0,_=>[.cells false 1 (iN .u64 X),.cells false 1 (iN .u64 Y),.cells true 1 []]
 |_+1,done=>[.cells false 1 (iN .u64 X),.cells false 1 (iN .u64 Y),.HS,.cells true 1 (iN .u64 done)]
def iJ:Nat->AV
 |0=>.slice 2 0 0 none
 |i+1=>.slice 3 0 (i+1) none
theorem kL(X Y:List Nat)(i:Nat)(done:List Nat):iW X Y (i+1) done=[.cells false 1 (iN .u64 X),.cells false 1 (iN .u64 Y),.HS,.cells true 1 (iN .u64 done)]:=rfl
theorem mq(X Y:List Nat):(iW X Y 0 []).length=3:=rfl
theorem kM(i:Nat):iJ (i+1)=.slice 3 0 (i+1) none:=rfl
theorem bM{α:Type}{p q:α->Prop}{r:Prop}(hr:r)(h:∃s,p s/\q s):∃s,p s/\q s/\r:=let ⟨s,a,b⟩:=h;⟨s,a,b,hr⟩
theorem ET(X Y A B:List Nat)(I sb:Nat)(hs:(I=0/\sb=1/\X=A/\Y=B)\/(I=1/\sb=0/\X=B/\Y=A))(hA:lok 1000000000 A=true)(hB:lok 1000000000 B=true)(hl:A.length<=1000000000)(Do:B.length<=A.length)(hK:A.length<K){b:Code}(Q:ag f244=[b])(H:lv b=[22,5,6]):
  ∃F:Env->Bool->Env,∀Z d,(ad Z 1=.slice sb 0 B.length none/\ad Z 20=.slice I 0 A.length none/\ad Z 21=.int .i64 A.length/\ad Z 5=.slice 2 0 0 none/\ad Z 6=.int .u64 0/\ad Z 22=.int .i64 0)->
   aT (aU prog) lv O K 53 2 true (.loop b) ⟨Z,iW X Y 0 [],d⟩=some (.exit 0,⟨F Z d,iW X Y A.length ((vQ 1000000000 A B 0).take A.length),d⟩)/\
    (ad (F Z d) 5=iJ A.length/\ad (F Z d) 6=.int .u64 (((vQ 1000000000 A B 0).getD A.length 0:Nat):Int)):=by
 refine bG H (fun Z=>ad Z 1=.slice sb 0 B.length none/\ad Z 20=.slice I 0 A.length none/\ad Z 21=.int .i64 A.length/\ad Z 5=.slice 2 0 0 none/\ad Z 6=.int .u64 0/\ad Z 22=.int .i64 0)
  (fun _ R =>ad R 5=iJ A.length/\ad R 6=.int .u64 (((vQ 1000000000 A B 0).getD A.length 0:Nat):Int)) ?_
 clear H;rintro Z d ⟨h1,h20,h21,h5,h6,h22⟩;simp[ag,aH,f244] at Q;have hn:au [22,5,6] (ab b) Z ((22,.int .i64 ((0:Nat):Int))::(5,iJ 0)::(6,.int .u64 ((0:Nat):Int))::Z)=au [22,5,6] (ab b) Z Z:=by simp[au,h5,h6,h22,iJ]
 rw[<-hn];refine bW (α:=Nat×List Nat×Nat) (fun a=>⟨au [22,5,6] (ab b) Z ((22,.int .i64 (a.1:Int))::(5,iJ a.1)::(6,.int .u64 (a.2.2:Int))::Z),iW X Y a.1 a.2.1,d⟩) (fun a=>A.length-a.1)
  (fun a=>a.1<=A.length/\a.2.1.length=a.1/\a.2.2<=1/\a.2.1++vQ 1000000000 (A.drop a.1) (B.drop a.1) a.2.2=vQ 1000000000 A B 0) (.exit 0) _ d _ (by simp) ?_ K (0,[],0) ⟨Nat.zero_le _,rfl,Nat.zero_le _,rfl⟩ (by simpa using hK)
 rintro ⟨i,done,c⟩ ⟨hi,hd,hc,H'⟩;simp only at hi hd hc H';clear hn;subst Q;by_cases u:i=A.length
 .right
  subst u;rw[List.drop_length,vQ] at H';rw[<-H',<-hd];simp only[List.take_left'];simp[h21,hd]
 .left
  have D:i<A.length:=by omega
  obtain⟨x,hx,V⟩:=fe D;have hxb:=im hA hx;have eA:A.drop i=x::A.drop (i+1):=by rw[N2 D,V]
  have w0:IntKind.i64.wrap 1=1:=by decide
  have w1:IntKind.i64.wrap ((i:Int)+1)=(i:Int)+1:=ai;have hI:(i:Int)<(A.length:Int):=by omega
  have C:(i+1)*8<=140737488355328:=by omega
  have z:i+1<=140737488355328:=by omega
  have ht:(iN .u64 done).take i=iN .u64 done:=GE (by simp[hd]);have hM:0<i->iW X Y i done=[.cells false 1 (iN .u64 X),.cells false 1 (iN .u64 Y),.HS,.cells true 1 (iN .u64 done)]:=fun h=>by cases i with
   |zero=>omega
   |succ i=>rfl
  have hO:0<i->iJ i=.slice 3 0 i none:=fun h=>by cases i with
   |zero=>omega
   |succ i=>rfl
  by_cases W:i<B.length
  .obtain⟨y,hy,S⟩:=fe W
   have hyb:=im hB hy;have m:B.drop i=y::B.drop (i+1):=by rw[N2 W,S]
   rw[eA,m,vQ,List.headD_cons,List.tail_cons] at H';obtain⟨s,J⟩:=xE (α:=Nat) (c+x+y);rw[<-J] at H';have w2:IntKind.u64.wrap ((c:Int)+(x:Int))=(c:Int)+(x:Int):=cS (by omega) (by omega);have w3:IntKind.u64.wrap ((c:Int)+(x:Int)+(y:Int))=(s:Int):=by rw[cS (by omega) (by omega)];omega
   have w4:(s:Int).tmod 1000000000=(s:Int)%1000000000:=By s 1000000000;have w5:IntKind.u64.wrap ((s:Int) / 1000000000)=(s:Int) / 1000000000:=cS (by omega) (by omega);refine⟨(i+1,done++[s%1000000000],s / 1000000000),?_⟩;refine bM (r:=_/\_) (show(i+1<=A.length/\(done++[s%1000000000]).length=i+1/\s / 1000000000<=1/\(done++[s%1000000000])++vQ 1000000000 (A.drop (i+1)) (B.drop (i+1)) (s / 1000000000)=vQ 1000000000 A B 0)/\A.length-(i+1)<A.length-i by refine⟨⟨by omega,by simp[hd],by omega,?_⟩,by omega⟩;rw[<-H'];simp) ?_
   clear H';rcases hs with⟨rfl,rfl,rfl,rfl⟩ | ⟨rfl,rfl,rfl,rfl⟩<;>rcases QQY i with rfl | hpos;all_goals first
    |(have G:=M0 hd;subst G;simp[iW,iJ,h1,h20,h21,V,S,D,W,w0,w2,w3,w4,w5,de];done)
    |simp[hM hpos,hO hpos,kL,kM,mq,h1,h20,h21,V,S,hI,C,z,D,W,hd,w1,w2,w3,w4,w5,ht,eO,de]
  .have m:B.drop i=[]:=List.drop_eq_nil_of_le (by omega)
   have j:B.drop (i+1)=[]:=List.drop_eq_nil_of_le (by omega);rw[eA,m,vQ] at H';simp only[List.headD_nil,List.tail_nil,Nat.add_zero] at H';obtain⟨s,J⟩:=xE (α:=Nat) (c+x);rw[<-J] at H';have w3:IntKind.u64.wrap ((c:Int)+(x:Int))=(s:Int):=by rw[cS (by omega) (by omega)];omega
   have w4:(s:Int).tmod 1000000000=(s:Int)%1000000000:=By s 1000000000;have w5:IntKind.u64.wrap ((s:Int) / 1000000000)=(s:Int) / 1000000000:=cS (by omega) (by omega);refine⟨(i+1,done++[s%1000000000],s / 1000000000),?_⟩;refine bM (r:=_/\_) (show(i+1<=A.length/\(done++[s%1000000000]).length=i+1/\s / 1000000000<=1/\(done++[s%1000000000])++vQ 1000000000 (A.drop (i+1)) (B.drop (i+1)) (s / 1000000000)=vQ 1000000000 A B 0)/\A.length-(i+1)<A.length-i by refine⟨⟨by omega,by simp[hd],by omega,?_⟩,by omega⟩;rw[<-H',j];simp) ?_
   clear H';rcases hs with⟨rfl,rfl,rfl,rfl⟩ | ⟨rfl,rfl,rfl,rfl⟩<;>rcases QQY i with rfl | hpos;all_goals first
    |(have G:=M0 hd;subst G;simp[iW,iJ,h1,h20,h21,V,D,W,w0,w3,w4,w5,de];done)
    |simp[hM hpos,hO hpos,kL,kM,mq,h1,h20,h21,V,hI,C,z,D,W,hd,w1,w3,w4,w5,ht,eO,de]
theorem CS(B:Nat):∀(a b:List Nat) (c:Nat),(vQ B a b c).length=a.length+1
 | [],_,_=>rfl
 |x::a,b,c=>by rw[vQ,List.length_cons,CS B a];rfl
theorem P7{B:Nat}(H:2<=B){a b:List Nat}(I:lok B a=true)(Q:lok B b=true)(R:b.length<=a.length):bB (vQ B a b 0)=dig B (aG B a+aG B b):=by rw[<-gP H (Qk H a b 0 I Q (by omega)),MM B a b 0 R,Nat.add_zero]
theorem Fb{l:List Nat}{n:Nat}(h:l.length=n+1):l.take n++[l.getD n 0]=l:=by
 have Z:n<l.length:=by omega
 have:l.getD n 0=l[n]:=by simp[List.getD,Z]
 rw[this];have W:l.take (n+1)=l:=GE (by omega);rw[List.take_add_one,GT Z] at W;exact W
theorem xm(X Y A B:List Nat)(H sb:Nat)(hs:(H=0/\sb=1/\X=A/\Y=B/\¬A.length<B.length)\/(H=1/\sb=0/\X=B/\Y=A/\B.length<A.length))(hA:lok 1000000000 A=true)(hB:lok 1000000000 B=true)(hl:A.length<=100000000)(I:B.length<=A.length):
  aa (aU prog) (fun _=>[22,5,6]) (aS prog) bu (A.length+1) 244 [.slice 0 0 X.length none,.slice 1 0 Y.length none] [.cells false 1 (iN .u64 X),.cells false 1 (iN .u64 Y)]=
   some ⟨.slice 2 0 (bB (vQ 1000000000 A B 0)).length none,none,[.cells true 1 (iN .u64 (vQ 1000000000 A B 0))]⟩:=by
 have R:aS prog 244=some f244:=by kernel_rfl
 obtain⟨b,Q⟩:∃b,ag f244=[b]:=⟨_,rfl⟩
 have C:=CS 1000000000 A B 0;have J:=Fb C;obtain⟨F,S⟩:=ET (O:=bu) (K:=A.length+1) (lv:=fun _=>[22,5,6]) X Y A B H sb (by rcases hs with⟨a,b,c,d,_⟩ | ⟨a,b,c,d,_⟩;exact .inl ⟨a,b,c,d⟩;exact .inr ⟨a,b,c,d⟩) hA hB (by omega) I (by omega) Q rfl;simp[ag,aH,f244] at Q;subst Q;obtain⟨Z,abm⟩:=xE (α:=Int) ((A.length:Int)+1);have w1:IntKind.i64.wrap ((A.length:Int)+1)=Z:=by rw[abm];exact ai
 have h0:0<=Z:=by omega
 have h1:8*Z<=281474976710656:=by omega
 have h2:Z<=281474976710656:=by omega
 obtain⟨W,z⟩:=xE (vQ 1000000000 A B 0);rcases QQY A.length with hz | hpos
 .have hA0:=M0 hz
  have hB0:B=[]:=M0 (by omega);subst hA0;subst hB0;simp only[List.length_nil,iW,iJ,vQ,QQZ,Int.cast_ofNat_Int,List.take_zero,List.getD_cons_zero] at S;have j:cb .u64 [.cells false 1 [],.cells false 1 [],.HS,.cells true 1 [.int .u64 0],.cells true 1 [.int .u64 0]] (.slice 4 0 1 none)=some [0]:=by rfl
  rcases hs with⟨rfl,rfl,rfl,rfl,D⟩ | ⟨rfl,rfl,rfl,rfl,D⟩
  .have w0:IntKind.i64.wrap 1=1:=by decide
   simp only[UR] at S;simp[aa,R,f244,S,bu,j,vQ,bB,de,w0]
  .simp at D
 .have hM:∀done,iW X Y A.length done=[.cells false 1 (iN .u64 X),.cells false 1 (iN .u64 Y),.HS,.cells true 1 (iN .u64 done)]:=fun done=>by
   cases h:A.length with
   |zero=>omega
   |succ i=>rfl
  have hO:iJ A.length=.slice 3 0 A.length none:=by
   cases h:A.length with
   |zero=>omega
   |succ i=>rfl
  rw[hM,hO] at S;simp only[iW] at S;obtain⟨V,u⟩:=xE ((vQ 1000000000 A B 0).take A.length);obtain⟨m,aeJ⟩:=xE ((vQ 1000000000 A B 0).getD A.length 0);rw[<-u,<-aeJ] at S J;rw[<-z] at J C |-;have G:V.length=A.length:=by rw[u,P3,<-z,C];omega
  have h3:(A.length+1)*8<=140737488355328:=by omega
  have h4:A.length<=140737488355327:=by omega
  have h5:(iN .u64 V).take A.length=iN .u64 V:=GE (by simp[G]);have j:cb .u64 [.cells false 1 (iN .u64 X),.cells false 1 (iN .u64 Y),.HS,.HS,.cells true 1 [.int .u64 (m:Int)],.cells true 1 (iN .u64 W)] (.slice 5 0 (A.length+1) none)=some W:=
   bq rfl (by simp[C]) (GE (by simp[C]))
  have h7:W.length<=1000000000:=by omega
  have h8:iN .u64 V++[.int .u64 (m:Int)]=iN .u64 W:=by rw[Yz,J]
  rcases hs with⟨rfl,rfl,rfl,rfl,D⟩ | ⟨rfl,rfl,rfl,rfl,D⟩
  .simp[aa,R,f244,D,w1,h0,h1,h2,S,bu,G,h3,h4,h5,j,h7,h8]
  .simp[aa,R,f244,D,w1,h0,h1,h2,S,bu,G,h3,h4,h5,j,h7,h8]
theorem Dj{k:IntKind}{l r:List Nat}(h:l <+: r):iN k l <+: iN k r:=by obtain⟨t,rfl⟩:=h;exact⟨iN k t,by rw[<-eO]⟩
theorem fG(l:List Nat):bB l <+: l:=by rw[lG l];exact List.take_prefix _ _
theorem NS{A B:List Nat}(H:lok 1000000000 A=true)(I:lok 1000000000 B=true)(R:A.length<=100000000)(Q:B.length<=100000000)(hx:agi .u64 M x A)(hy:agi .u64 M y B):
  kO prog 244 [x,y] M (.slice M.length 0 (dig 1000000000 (aG 1000000000 A+aG 1000000000 B)).length none) (M++[.cells true 1 (iN .u64 (dig 1000000000 (aG 1000000000 A+aG 1000000000 B)))]):=by
 have W:∃Z,bB Z=dig 1000000000 (aG 1000000000 A+aG 1000000000 B)/\kO prog 244 [.slice 0 0 A.length none,.slice 1 0 B.length none] [.cells false 1 (iN .u64 A),.cells false 1 (iN .u64 B)] (.slice 2 0 (bB Z).length none) [.cells false 1 (iN .u64 A),.cells false 1 (iN .u64 B),.cells true 1 (iN .u64 Z)]:=by
  by_cases V:A.length<B.length
  .refine⟨vQ 1000000000 B A 0,by rw[P7 (by omega) I H (by omega),QXJ],?_⟩
   have:=(ah ae (al _) jL (ao _) (xm A B B A 1 0 (.inr ⟨rfl,rfl,rfl,rfl,V⟩) I H Q (by omega))).1;simpa [afA.mem] using this
  .refine⟨vQ 1000000000 A B 0,P7 (by omega) H I (by omega),?_⟩
   have:=(ah ae (al _) jL (ao _) (xm A B A B 0 1 (.inl ⟨rfl,rfl,rfl,rfl,V⟩) H I R (by omega))).1;simpa [afA.mem] using this
 obtain⟨Z,S,h⟩:=W;have J:=kO.ahZ (m:=[.cells false 1 (iN .u64 A),.cells false 1 (iN .u64 B)]) h (Dj (fG Z));obtain⟨b,c,rfl,rfl,h3⟩:=kO.ag8 (new:=[.cells true 1 (iN .u64 (bB Z))]) rfl J hx hy;rw[S] at h3;simpa [AV.ren,eg] using h3
theorem D5(B:Nat):∀(a b:List Nat) (c:Nat),(wF B a b c).length=a.length
 | [],_,_=>rfl
 |x::a,b,c=>by unfold wF;split<;>simp[D5 B a]
theorem Xz(B x:Nat)(a:List Nat)(c:Nat):wF B (x::a) [] c=if x<c then (x+B-c)::wF B a [] 1 else (x-c)::wF B a [] 0:=rfl
theorem Cu(A B:List Nat)(hA:lok 1000000000 A=true)(hB:lok 1000000000 B=true)(hl:A.length<=1000000000)(Do:B.length<=A.length)(hK:A.length<K){b:Code}(hb:ag f226=[b])(H:lv b=[15,5,6]):
  ∃F:Env->Bool->Env,∀W d,(ad W 1=.slice 1 0 B.length none/\ad W 13=.slice 0 0 A.length none/\ad W 14=.int .i64 A.length/\ad W 5=.slice 2 0 0 none/\ad W 6=.int .u64 0/\ad W 15=.int .i64 0)->
   aT (aU prog) lv O K 45 2 true (.loop b) ⟨W,iW A B 0 [],d⟩=some (.exit 0,⟨F W d,iW A B A.length (wF 1000000000 A B 0),d⟩)/\ad (F W d) 5=iJ A.length:=by
 refine bG H (fun W=>ad W 1=.slice 1 0 B.length none/\ad W 13=.slice 0 0 A.length none/\ad W 14=.int .i64 A.length/\ad W 5=.slice 2 0 0 none/\ad W 6=.int .u64 0/\ad W 15=.int .i64 0)
  (fun _ AC =>ad AC 5=iJ A.length) ?_
 clear H;rintro W d ⟨h1,h20,h21,h5,h6,h22⟩;simp[ag,aH,f226] at hb;have hn:au [15,5,6] (ab b) W ((15,.int .i64 ((0:Nat):Int))::(5,iJ 0)::(6,.int .u64 ((0:Nat):Int))::W)=au [15,5,6] (ab b) W W:=by simp[au,h5,h6,h22,iJ]
 rw[<-hn];refine bW (α:=Nat×List Nat×Nat) (fun a=>⟨au [15,5,6] (ab b) W ((15,.int .i64 (a.1:Int))::(5,iJ a.1)::(6,.int .u64 (a.2.2:Int))::W),iW A B a.1 a.2.1,d⟩) (fun a=>A.length-a.1)
  (fun a=>a.1<=A.length/\a.2.1.length=a.1/\a.2.2<=1/\a.2.1++wF 1000000000 (A.drop a.1) (B.drop a.1) a.2.2=wF 1000000000 A B 0) (.exit 0) _ d _ (by simp) ?_ K (0,[],0) ⟨Nat.zero_le _,rfl,Nat.zero_le _,rfl⟩ (by simpa using hK)
 rintro ⟨i,done,c⟩ ⟨hi,hd,hc,H'⟩;simp only at hi hd hc H';clear hn;subst hb;by_cases hiA:i=A.length
 .right
  subst hiA;rw[List.drop_length,wF,List.append_nil] at H';rw[<-H'];simp[h21]
 .left
  have G:i<A.length:=by omega
  obtain⟨x,hx,S⟩:=fe G;have hxb:=im hA hx;have eA:A.drop i=x::A.drop (i+1):=by rw[N2 G,S]
  have w0:IntKind.i64.wrap 1=1:=by decide
  have w1:IntKind.i64.wrap ((i:Int)+1)=(i:Int)+1:=ai;have j:(i:Int)<(A.length:Int):=by omega
  have D:(i+1)*8<=140737488355328:=by omega
  have C:i+1<=140737488355328:=by omega
  have R:(iN .u64 done).take i=iN .u64 done:=GE (by simp[hd]);have Q:0<i->iW A B i done=[.cells false 1 (iN .u64 A),.cells false 1 (iN .u64 B),.HS,.cells true 1 (iN .u64 done)]:=fun h=>by cases i with
   |zero=>omega
   |succ i=>rfl
  have I:0<i->iJ i=.slice 3 0 i none:=fun h=>by cases i with
   |zero=>omega
   |succ i=>rfl
  have z:i=0->done=[]:=fun h=>M0 (by omega)
  by_cases V:i<B.length
  .obtain⟨y,hy,J⟩:=fe V
   have hyb:=im hB hy;have eB:B.drop i=y::B.drop (i+1):=by rw[N2 V,J]
   rw[eA,eB,wF,List.headD_cons,List.tail_cons] at H';obtain⟨s,hs'⟩:=xE (α:=Nat) (c+y);rw[<-hs'] at H';have w2:IntKind.u64.wrap ((c:Int)+(y:Int))=(s:Int):=by rw[cS (by omega) (by omega)];omega
   by_cases Z:x<s
   .rw[if_pos Z] at H'
    obtain⟨r,u⟩:=xE (α:=Nat) (x+1000000000-s);rw[<-u] at H';have w3:IntKind.u64.wrap ((x:Int)+1000000000)=(x:Int)+1000000000:=cS (by omega) (by omega);have w4:IntKind.u64.wrap ((x:Int)+1000000000-(s:Int))=(r:Int):=by rw[cS (by omega) (by omega)];omega
    refine⟨(i+1,done++[r],1),?_⟩;refine bM (r:=_/\_) (show(i+1<=A.length/\(done++[r]).length=i+1/\1<=1/\(done++[r])++wF 1000000000 (A.drop (i+1)) (B.drop (i+1)) 1=wF 1000000000 A B 0)/\A.length-(i+1)<A.length-i by refine⟨⟨by omega,by simp[hd],by omega,?_⟩,by omega⟩;rw[<-H'];simp) ?_
    clear H';rcases QQY i with rfl | hpos
    .obtain rfl:=z rfl
     simp[iW,iJ,h1,h20,h21,S,J,G,V,w0,w2,w3,w4,Z,de]
    .simp[Q hpos,I hpos,kL,kM,mq,h1,h20,h21,S,J,j,D,C,G,V,hd,w1,w2,w3,w4,Z,R,eO,de]
   .rw[if_neg Z] at H'
    obtain⟨r,u⟩:=xE (α:=Nat) (x-s);rw[<-u] at H';have w4:IntKind.u64.wrap ((x:Int)-(s:Int))=(r:Int):=by rw[cS (by omega) (by omega)];omega
    refine⟨(i+1,done++[r],0),?_⟩;refine bM (r:=_/\_) (show(i+1<=A.length/\(done++[r]).length=i+1/\0<=1/\(done++[r])++wF 1000000000 (A.drop (i+1)) (B.drop (i+1)) 0=wF 1000000000 A B 0)/\A.length-(i+1)<A.length-i by refine⟨⟨by omega,by simp[hd],by omega,?_⟩,by omega⟩;rw[<-H'];simp) ?_
    clear H';rcases QQY i with rfl | hpos
    .obtain rfl:=z rfl
     simp[iW,iJ,h1,h20,h21,S,J,G,V,w0,w2,w4,Z,de]
    .simp[Q hpos,I hpos,kL,kM,mq,h1,h20,h21,S,J,j,D,C,G,V,hd,w1,w2,w4,Z,R,eO,de]
  .have eB:B.drop i=[]:=List.drop_eq_nil_of_le (by omega)
   have m:B.drop (i+1)=[]:=List.drop_eq_nil_of_le (by omega);rw[eA,eB,Xz] at H';by_cases Z:x<c
   .rw[if_pos Z] at H'
    obtain⟨r,u⟩:=xE (α:=Nat) (x+1000000000-c);rw[<-u] at H';have w3:IntKind.u64.wrap ((x:Int)+1000000000)=(x:Int)+1000000000:=cS (by omega) (by omega);have w4:IntKind.u64.wrap ((x:Int)+1000000000-(c:Int))=(r:Int):=by rw[cS (by omega) (by omega)];omega
    refine⟨(i+1,done++[r],1),?_⟩;refine bM (r:=_/\_) (show(i+1<=A.length/\(done++[r]).length=i+1/\1<=1/\(done++[r])++wF 1000000000 (A.drop (i+1)) (B.drop (i+1)) 1=wF 1000000000 A B 0)/\A.length-(i+1)<A.length-i by refine⟨⟨by omega,by simp[hd],by omega,?_⟩,by omega⟩;rw[<-H',m];simp) ?_
    clear H';rcases QQY i with rfl | hpos
    .obtain rfl:=z rfl
     simp[iW,iJ,h1,h20,h21,S,G,V,w0,w3,w4,Z,de]
    .simp[Q hpos,I hpos,kL,kM,mq,h1,h20,h21,S,j,D,C,G,V,hd,w1,w3,w4,Z,R,eO,de]
   .rw[if_neg Z] at H'
    obtain⟨r,u⟩:=xE (α:=Nat) (x-c);rw[<-u] at H';have w4:IntKind.u64.wrap ((x:Int)-(c:Int))=(r:Int):=by rw[cS (by omega) (by omega)];omega
    refine⟨(i+1,done++[r],0),?_⟩;refine bM (r:=_/\_) (show(i+1<=A.length/\(done++[r]).length=i+1/\0<=1/\(done++[r])++wF 1000000000 (A.drop (i+1)) (B.drop (i+1)) 0=wF 1000000000 A B 0)/\A.length-(i+1)<A.length-i by refine⟨⟨by omega,by simp[hd],by omega,?_⟩,by omega⟩;rw[<-H',m];simp) ?_
    clear H';rcases QQY i with rfl | hpos
    .obtain rfl:=z rfl
     simp[iW,iJ,h1,h20,h21,S,G,V,w0,w4,Z,de]
    .simp[Q hpos,I hpos,kL,kM,mq,h1,h20,h21,S,j,D,C,G,V,hd,w1,w4,Z,R,eO,de]
theorem EO(A B:List Nat)(I:lok 1000000000 A=true)(Q:lok 1000000000 B=true)(hl:A.length<=100000000)(H:B.length<=A.length):
  aa (aU prog) (fun _=>[15,5,6]) (aS prog) bu (A.length+1) 226 [.slice 0 0 A.length none,.slice 1 0 B.length none] [.cells false 1 (iN .u64 A),.cells false 1 (iN .u64 B)]=
   some ⟨.slice 2 0 (bB (wF 1000000000 A B 0)).length none,none,[.cells true 1 (iN .u64 (wF 1000000000 A B 0))]⟩:=by
 have u:aS prog 226=some f226:=by kernel_rfl
 obtain⟨b,S⟩:∃b,ag f226=[b]:=⟨_,rfl⟩
 have V:=D5 1000000000 A B 0;obtain⟨F,W⟩:=Cu (O:=bu) (K:=A.length+1) (lv:=fun _=>[15,5,6]) A B I Q (by omega) H (by omega) S rfl;simp[ag,aH,f226] at S;subst S;obtain⟨m,j⟩:=xE (α:=Int) (A.length:Int);have h0:0<=(A.length:Int):=by omega
 have R:8*(A.length:Int)<=281474976710656:=by omega
 have h2:(A.length:Int)<=281474976710656:=by omega
 obtain⟨Z,J⟩:=xE (wF 1000000000 A B 0);rw[<-J] at V W |-;rcases QQY A.length with hz | hpos
 .have G:=M0 hz
  have D:B=[]:=M0 (by omega);subst G;subst D;have C:Z=[]:=M0 (by simpa using V);subst C;simp only[List.length_nil,iW,iJ,QQZ,Int.cast_ofNat_Int,UR] at W;have z:cb .u64 [.cells false 1 [],.cells false 1 [],.cells true 1 []] (.slice 2 0 0 none)=some []:=by rfl
  simp[aa,u,f226,W,bu,z,bB]
 .have hM:∀done,iW A B A.length done=[.cells false 1 (iN .u64 A),.cells false 1 (iN .u64 B),.HS,.cells true 1 (iN .u64 done)]:=fun done=>by
   cases h:A.length with
   |zero=>omega
   |succ i=>rfl
  have hO:iJ A.length=.slice 3 0 A.length none:=by
   cases h:A.length with
   |zero=>omega
   |succ i=>rfl
  rw[hM,hO] at W;simp only[iW] at W;have z:cb .u64 [.cells false 1 (iN .u64 A),.cells false 1 (iN .u64 B),.HS,.cells true 1 (iN .u64 Z)] (.slice 3 0 A.length none)=some Z:=
   bq rfl (by simp[V]) (GE (by simp[V]))
  have h7:Z.length<=1000000000:=by omega
  simp[aa,u,f226,R,h2,W,bu,z,h7]
theorem IV{A B:List Nat}(I:lok 1000000000 A=true)(Q:lok 1000000000 B=true)(R:A.length<=100000000)(H:B.length<=A.length)(hle:aG 1000000000 B<=aG 1000000000 A)(hx:agi .u64 M x A)(hy:agi .u64 M y B):
  kO prog 226 [x,y] M (.slice M.length 0 (dig 1000000000 (aG 1000000000 A-aG 1000000000 B)).length none) (M++[.cells true 1 (iN .u64 (dig 1000000000 (aG 1000000000 A-aG 1000000000 B)))]):=by
 obtain⟨S,Z⟩:=Dy (B:=1000000000) (by omega) A B 0 I Q (by omega) H (by omega);have W:bB (wF 1000000000 A B 0)=dig 1000000000 (aG 1000000000 A-aG 1000000000 B):=by rw[<-gP (by omega) Z];congr 1;omega
 have:=(ah ae (al _) jL (ao _) (EO A B I Q R H)).1;simp only[afA.mem,Option.getD_none,List.cons_append,List.nil_append] at this;have V:=kO.ahZ (m:=[.cells false 1 (iN .u64 A),.cells false 1 (iN .u64 B)]) this (Dj (fG _));obtain⟨b,c,rfl,rfl,h3⟩:=kO.ag8 (new:=[.cells true 1 (iN .u64 (bB (wF 1000000000 A B 0)))]) rfl V hx hy;rw[W] at h3;simpa [AV.ren,eg] using h3
end Go.Proofs
