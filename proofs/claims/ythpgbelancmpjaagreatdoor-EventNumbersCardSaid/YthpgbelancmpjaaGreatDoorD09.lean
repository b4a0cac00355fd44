/- See D38. -/
import Derived.Test.YthpgbelancmpjaaGreatDoorD08
set_option linter.all false
namespace Go.Eng
def aq(B:Nat):List Nat->Nat
 | []=>0
 |d::l=>d+B*aq B l
def lok(B:Nat)(l:List Nat):Bool:=l.all fun d=>decide (d<B)
def aW:List Nat->List Nat
 | []=>[]
 |d::l=>match aW l with
  | []=>if d=0 then [] else [d]
  |x::r=>d::x::r
def Ur(B:Nat):Nat->Nat->List Nat
 |0,_=>[]
 |f+1,n=>if n=0 then [] else n%B::Ur B f (n / B)
def dig(B n:Nat):List Nat:=Ur B (n.log2+1) n
theorem SR{B:Nat}(H:2<=B):∀(f g n:Nat),n<2 ^ f->n<2 ^ g->Ur B f n=Ur B g n
 |0,g,n,h,_=>by
  have:n=0:=by simp at h;omega
  subst this;cases g<;>simp[Ur]
 |f+1,0,n,_,h=>by
  have:n=0:=by simp at h;omega
  subst this;simp[Ur]
 |f+1,g+1,n,h1,h2=>by
  unfold Ur;by_cases Z:n=0
  .rw[if_pos Z,if_pos Z]
  .rw[if_neg Z,if_neg Z]
   have h:n / B<=n / 2:=Nat.div_le_div_left H (by omega);rw[Nat.pow_succ] at h1 h2;rw[SR H f g (n / B) (by omega) (by omega)]
theorem dT(B:Nat):dig B 0=[]:=by simp[dig,Ur]
variable{B n:Nat}
section
variable (hB:2<=B)
include hB
theorem xT(H:n≠0):dig B n=n%B::dig B (n / B):=by
 have Z:n<2 ^ (n.log2+1):=Nat.lt_log2_self;have X:n / B<2 ^ ((n / B).log2+1):=Nat.lt_log2_self;have h:n / B<=n / 2:=Nat.div_le_div_left hB (by omega);show Ur B (n.log2+1) n=_
 rw[Ur,if_neg H];congr 1;exact SR hB _ _ _ (by rw[Nat.pow_succ] at Z;omega) X
theorem N8{p:Nat->Prop}(h0:p 0)(h1:∀n,n≠0->p (n / B)->p n)(n:Nat):p n:=by
 induction n using Nat.strongRecOn with
 |_ n ih=>
  by_cases Z:n=0
  .subst Z;exact h0
  .exact h1 n Z (ih (n / B) (Nat.div_lt_self (by omega) hB))
theorem bO(n:Nat):aq B (dig B n)=n:=by
 induction n using N8 hB with
 |h0=>rw[dT];rfl
 |h1 n hn ih=>
  rw[xT hB hn,aq,ih];have:=Nat.mod_add_div n B;omega
theorem bX(n:Nat):lok B (dig B n)=true:=by
 induction n using N8 hB with
 |h0=>rw[dT];rfl
 |h1 n hn ih=>
  rw[xT hB hn];unfold lok at ih |-;rw[QQb,ih];simp[Nat.mod_lt n (show 0<B by omega)]
end
theorem iv(B:Nat):∀(l r:List Nat),aq B (l++r)=aq B l+B ^ l.length*aq B r
 | [],r=>by simp[aq]
 |d::l,r=>by rw[List.cons_append,aq,aq,iv B l r,List.length_cons,Nat.pow_succ,Nat.mul_add,Zq (B ^ l.length) B,QQl];omega
theorem ia{B:Nat}:∀{l:List Nat},lok B l=true->aq B l<B ^ l.length
 | [],_=>by simp[aq]
 |d::l,h=>by unfold lok at h;simp only[QQb,C0,Es] at h;have:=ia (l:=l) h.2;rw[aq,List.length_cons,Nat.pow_succ];have Z:B*(aq B l+1)<=B*B ^ l.length:=Nat.mul_le_mul_left _ this;rw[Nat.mul_add] at Z;rw[Zq (B ^ l.length) B];omega
theorem EL(B:Nat):∀l:List Nat,aq B (aW l)=aq B l
 | []=>rfl
 |d::l=>by
  have Z:=EL B l;unfold aW;split
  .rename_i h
   rw[h] at Z;rw[aq,<-Z];split
   next X=>subst X;simp[aq]
   .simp[aq]
  .rename_i x r h
   rw[h] at Z;show d+B*aq B (x::r)=d+B*aq B l
   rw[Z]
theorem fC(H:2<=B):dig B n=[]↔n=0:=by
 constructor
 .intro h
  by_cases Z:n=0
  .exact Z
  .rw[xT H Z] at h;cases h
 .rintro rfl;exact dT B
theorem dS{B:Nat}(H:2<=B):∀{l:List Nat},lok B l=true->dig B (aq B l)=aW l
 | [],_=>dT B
 |d::l,h=>by
  unfold lok at h;simp only[QQb,C0,Es] at h;have Z:=dS H (l:=l) h.2;have R:aq B (d::l)=d+B*aq B l:=rfl;have V:(d+B*aq B l) / B=aq B l:=by rw[Nat.add_mul_div_left _ _ (by omega),Nat.div_eq_of_lt h.1,QQZ]
  have U:(d+B*aq B l)%B=d:=by rw[Nat.add_mul_mod_self_left,QQe h.1]
  rw[R];unfold aW;split
  .rename_i S
   rw[S] at Z;have O:=(fC H).1 Z;rw[O];split
   next X=>subst X;exact dT B
   .rename_i X
    rw[xT H (by omega),Nat.mul_zero,Nat.add_zero,QQe h.1,Nat.div_eq_of_lt h.1,dT]
  .rename_i x r S
   rw[S] at Z;have N:aq B l≠0:=by intro e;rw[e,dT] at Z;cases Z
   have:d+B*aq B l≠0:=by have:0<B*aq B l:=Nat.mul_pos (by omega) (by omega);omega
   rw[xT H this,V,U,Z]
theorem cj(H:2<=B)(n:Nat):aW (dig B n)=dig B n:=by rw[<-dS H (bX H n),bO H]
theorem jN:∀l:List Nat,aW (l++[0])=aW l
 | []=>rfl
 |d::l=>by rw[List.cons_append,aW,jN l,aW]
theorem EK{d:Nat}(hd:d≠0):∀l:List Nat,aW (l++[d])=l++[d]
 | []=>by simp[aW,hd]
 |c::l=>by rw[List.cons_append,aW,EK hd l];cases l<;>rfl
theorem dp:∀l:List Nat,(aW l).length<=l.length
 | []=>L9 _
 |d::l=>by
  have:=dp l;unfold aW;split
  .split<;>simp
  .rename_i x r h
   rw[h] at this;simp only[List.length_cons] at this |-;omega
theorem kR:∀l:List Nat,aW l=l.take (aW l).length
 | []=>rfl
 |d::l=>by
  have:=kR l;unfold aW;split
  .split<;>simp
  .rename_i x r h
   rw[h] at this;rw[List.length_cons,List.take_succ_cons,<-this]
section
variable (hB:2<=B)
include hB
theorem sP(n:Nat):n<B ^ (dig B n).length:=by
 have:=ia (bX hB n)
 rwa [bO hB] at this
theorem sY(n:Nat)(H:n≠0):B ^ ((dig B n).length-1)<=n:=by
 induction n using N8 hB with
 |h0=>exact absurd rfl H
 |h1 n _ ih=>
  rw[xT hB H,List.length_cons,Nat.add_sub_cancel];by_cases h0:n / B=0
  .rw[h0,dT];simp;omega
  .have:=ih h0
   have Z:0<(dig B (n / B)).length:=by
    cases h:dig B (n / B) with
    |nil=>exact absurd ((fC hB).1 h) h0
    |cons=>simp
   have e:B ^ (dig B (n / B)).length=B*B ^ ((dig B (n / B)).length-1):=by rw[Zq,<-Nat.pow_succ];congr 1;omega
   rw[e];exact QQJ (Nat.mul_le_mul_left _ this) (Nat.mul_div_le n B)
theorem dR{m:Nat}(h:(dig B m).length<(dig B n).length):m<n:=by
 have Z:n≠0:=by rintro rfl;rw[dT] at h;simp at h
 have X:=sP hB m;have V:=sY hB n Z;have h3:B ^ (dig B m).length<=B ^ ((dig B n).length-1):=P3 (by omega) (by omega);omega
theorem fH{k:Nat}(h:n<B ^ k):(dig B n).length<=k:=by
 by_cases Z:n=0
 .subst Z;rw[dT];simp
 .have V:=sY hB n Z
  have X:B ^ ((dig B n).length-1)<B ^ k:=by omega
  have:=(Nat.pow_lt_pow_iff_right (by omega:1<B)).1 X;omega
end
variable{d:Nat}{l:List Nat}
theorem ff(h:lok B l=true){i:Nat}(H:l[i]? =some d):d<B:=by have:=List.all_eq_true.1 h d (J1 H);simpa using this
variable{r:List Nat}
theorem od:lok B (l++r)=(lok B l&&lok B r):=by simp[lok,List.all_append]
theorem cY:lok B (d::r)=(decide (d<B)&&lok B r):=rfl
theorem jL(h:lok B l=true)(k:Nat):lok B (l.take k)=true:=by unfold lok at h |-;rw[List.all_eq_true] at h |-;exact fun d Z=>h d (List.mem_of_mem_take Z)
theorem jK(h:lok B l=true)(k:Nat):lok B (l.drop k)=true:=by unfold lok at h |-;rw[List.all_eq_true] at h |-;exact fun d Z=>h d (List.mem_of_mem_drop Z)
theorem LG(B:Nat)(l:List Nat)(d:Nat):aq B (l++[d])=aq B l+B ^ l.length*d:=by rw[iv];simp[aq]
def uP(B:Nat):List Nat->List Nat->Nat->List Nat
 | [],_,c=>[c]
 |x::a,b,c=>(c+x+b.headD 0)%B::uP B a b.tail ((c+x+b.headD 0) / B)
theorem LH(B:Nat)(b:List Nat):aq B b=b.headD 0+B*aq B b.tail:=by cases b<;>simp[aq]
theorem LF(B:Nat):∀(a b:List Nat) (c:Nat),b.length<=a.length->aq B (uP B a b c)=aq B a+aq B b+c
 | [],b,c,h=>by have:b=[]:=Mp (by simpa using h);subst this;simp[uP,aq]
 |x::a,b,c,h=>by
  have Z:b.tail.length<=a.length:=by simp at h |-;omega
  rw[uP,aq,LF B a b.tail _ Z,LH B b,aq];have:=Nat.mod_add_div (c+x+b.headD 0) B;rw[Nat.mul_add,Nat.mul_add];omega
variable{b:List Nat}
theorem LC(H:0<B)(h:lok B b=true):b.headD 0<B:=by
 cases b with
 |nil=>exact H
 |cons d b=>rw[cY,C0,Es] at h;exact h.1
theorem Pe(h:lok B b=true):lok B b.tail=true:=by
 cases b with
 |nil=>rfl
 |cons d b=>rw[cY,C0] at h;exact h.2
theorem Pd{B:Nat}(H:2<=B):∀(a b:List Nat) (c:Nat),lok B a=true->lok B b=true->c<=1->lok B (uP B a b c)=true
 | [],b,c,_,_,hc=>by simp[uP,lok];omega
 |x::a,b,c,ha,hb,hc=>by
  rw[cY,C0,Es] at ha;have Z:=LC (by omega) hb;rw[uP,cY,C0,Es];refine⟨Nat.mod_lt _ (by omega),Pd H a _ _ ha.2 (Pe hb) ?_⟩;have:(c+x+b.headD 0) / B<2:=by rw[Nat.div_lt_iff_lt_mul (by omega)];omega
  omega
def vn(B:Nat):List Nat->List Nat->Nat->List Nat
 | [],_,_=>[]
 |x::a,b,c=>if x<c+b.headD 0 then (x+B-(c+b.headD 0))::vn B a b.tail 1 else (x-(c+b.headD 0))::vn B a b.tail 0
theorem Cq{B:Nat}(H:2<=B):∀(a b:List Nat) (c:Nat),lok B a=true->lok B b=true->c<=1->b.length<=a.length->aq B b+c<=aq B a->
  aq B (vn B a b c)+aq B b+c=aq B a/\lok B (vn B a b c)=true
 | [],b,c,_,_,_,h,h2=>by have:b=[]:=Mp (by simpa using h);subst this;simp only[aq] at h2;simp only[vn,aq];exact⟨by omega,rfl⟩
 |x::a,b,c,ha,hb,hc,h,h2=>by
  have U:b.tail.length<=a.length:=by simp at h |-;omega
  rw[cY,C0,Es] at ha;have R:=LC (by omega) hb;have Z:=Pe hb;rw[LH B b] at h2 |-;rw[aq] at h2 |-;unfold vn;split
  .rename_i S
   have h3:aq B b.tail+1<=aq B a:=by
    have:B*aq B b.tail<B*aq B a:=by omega
    have:=Nat.lt_of_mul_lt_mul_left this;omega
   obtain⟨X,V⟩:=Cq H a b.tail 1 ha.2 Z (by omega) U h3;have e:B*aq B a=B*aq B (vn B a b.tail 1)+B*aq B b.tail+B:=by rw[<-X,Nat.mul_add,Nat.mul_add,Nat.mul_one]
   rw[aq,cY,V,Bool.and_true,Es,e];exact⟨by omega,by omega⟩
  .rename_i S
   have h3:aq B b.tail+0<=aq B a:=by
    have:B*aq B b.tail<B*aq B a+B:=by omega
    rw[<-Nat.mul_succ] at this;have:=Nat.lt_of_mul_lt_mul_left this;omega
   obtain⟨X,V⟩:=Cq H a b.tail 0 ha.2 Z (by omega) U h3;have e:B*aq B a=B*aq B (vn B a b.tail 0)+B*aq B b.tail:=by rw[<-X,Nat.mul_add,Nat.mul_add,Nat.mul_zero,Nat.add_zero]
   rw[aq,cY,V,Bool.and_true,Es,e];exact⟨by omega,by omega⟩
def jG(B:Nat):List Nat->Nat->List Nat
 | [],_=>[]
 |o::l,c=>if c=0 then o::l else (c+o)%B::jG B l ((c+o) / B)
def Rz(B x:Nat):List Nat->List Nat->Nat->List Nat
 |o,[],c=>jG B o c
 | [],_::_,_=>[]
 |o::l,y::b,c=>(c+(o+x*y))%B::Rz B x l b ((c+(o+x*y)) / B)
theorem wH(B:Nat):∀(o:List Nat) (c:Nat),(jG B o c).length=o.length
 | [],_=>rfl
 |o::l,c=>by
  unfold jG;split
  .rfl
  .simp[wH B l]
theorem uW(B x:Nat):∀(o b:List Nat) (c:Nat),(Rz B x o b c).length=o.length
 |o,[],c=>by cases o<;>exact wH B _ c
 | [],_::_,_=>rfl
 |o::l,y::b,c=>by simp[Rz,uW B x l b]
theorem Co{B:Nat}(H:2<=B):∀(o:List Nat) (c:Nat),lok B o=true->aq B o+c<B ^ o.length->aq B (jG B o c)=aq B o+c/\lok B (jG B o c)=true
 | [],c,_,h=>by simp only[aq,List.length_nil,Nat.pow_zero] at h;simp only[jG,aq];exact⟨by omega,rfl⟩
 |o::l,c,ho,h=>by
  unfold jG;split
  next Z=>subst Z;exact⟨by omega,ho⟩
  .rw[cY,C0,Es] at ho
   have X:=Nat.mod_add_div (c+o) B;rw[aq,List.length_cons,Nat.pow_succ,Zq (B ^ l.length)] at h;have V:aq B l+(c+o) / B<B ^ l.length:=by
    have:B*(aq B l+(c+o) / B)<B*B ^ l.length:=by rw[Nat.mul_add];omega
    exact Nat.lt_of_mul_lt_mul_left this
   obtain⟨U,S⟩:=Co H l _ ho.2 V;rw[aq,aq,U,cY,S,Nat.mul_add];refine⟨by omega,?_⟩;simp[Nat.mod_lt (c+o) (show 0<B by omega)]
theorem Cp{B:Nat}(H:2<=B)(x:Nat):∀(o b:List Nat) (c:Nat),lok B o=true->aq B o+x*aq B b+c<B ^ o.length->
  b.length<=o.length->aq B (Rz B x o b c)=aq B o+x*aq B b+c/\lok B (Rz B x o b c)=true
 |o,[],c,ho,h,_=>by
  simp only[aq,Nat.mul_zero,Nat.add_zero] at h |-;have:Rz B x o [] c=jG B o c:=by cases o<;>rfl
  rw[this];exact Co H o c ho h
 | [],y::b,c,_,_,hl=>by simp at hl
 |o::l,y::b,c,ho,h,hl=>by
  rw[cY,C0,Es] at ho;have Z:=Nat.mod_add_div (c+(o+x*y)) B;have e:x*(y+B*aq B b)=x*y+B*(x*aq B b):=by rw[Nat.mul_add,<-QQl,<-QQl,Zq x B]
  rw[aq,aq,e,List.length_cons,Nat.pow_succ,Zq (B ^ l.length)] at h;have X:aq B l+x*aq B b+(c+(o+x*y)) / B<B ^ l.length:=by
   have:B*(aq B l+x*aq B b+(c+(o+x*y)) / B)<B*B ^ l.length:=by rw[Nat.mul_add,Nat.mul_add];omega
   exact Nat.lt_of_mul_lt_mul_left this
  obtain⟨V,U⟩:=Cp H x l b _ ho.2 X (by simpa using hl);rw[Rz,aq,V,cY,U,aq,aq,e,Nat.mul_add,Nat.mul_add];refine⟨by omega,?_⟩;simp[Nat.mod_lt (c+(o+x*y)) (show 0<B by omega)]
def sw(B:Nat):List Nat->List Nat->List Nat->List Nat
 | [],_,o=>o
 |x::a,b,o=>match Rz B x o b 0 with
  | []=>[]
  |d::r=>d::sw B a b r
theorem EM{B:Nat}(H:2<=B):∀(a b o:List Nat),lok B o=true->aq B o+aq B a*aq B b<B ^ o.length->a.length+b.length<=o.length->
  aq B (sw B a b o)=aq B o+aq B a*aq B b/\lok B (sw B a b o)=true/\(sw B a b o).length=o.length
 | [],b,o,ho,h,_=>by simp only[sw,aq,Nat.zero_mul,Nat.add_zero];exact⟨trivial,ho,trivial⟩
 |x::a,b,o,ho,h,hl=>by
  have e:(x+B*aq B a)*aq B b=x*aq B b+B*(aq B a*aq B b):=by rw[Nat.add_mul,QQl]
  rw[aq,e] at h;have V :a.length+1+b.length<=o.length:=by simpa using hl
  obtain⟨r1,r2⟩:=Cp H x o b 0 ho (by omega) (by omega);have Z:=uW B x o b 0;unfold sw;split
  next X=>rw[X] at Z;simp at Z;omega
  .rename_i d r X
   rw[X] at r1 r2 Z;rw[cY,C0,Es] at r2;simp only[List.length_cons] at Z;rw[aq] at r1;have U:aq B r+aq B a*aq B b<B ^ r.length:=by
    have:B*(aq B r+aq B a*aq B b)<B*B ^ r.length:=by rw[Zq B (B ^ r.length),<-Nat.pow_succ,show r.length.succ=o.length from Z,Nat.mul_add];omega
    exact Nat.lt_of_mul_lt_mul_left this
   obtain⟨S,R,O⟩:=EM H a b r r2.2 U (by omega);rw[aq,S,cY,R,List.length_cons,O,aq,e,Nat.mul_add];exact⟨by omega,by simp[r2.1],Z⟩
theorem Rp(H:2<=B){a:List Nat}(I:lok B a=true)(J:lok B b=true):
  aq B (sw B a b (List.replicate (a.length+b.length+1) 0))=aq B a*aq B b/\lok B (sw B a b (List.replicate (a.length+b.length+1) 0))=true/\
   (sw B a b (List.replicate (a.length+b.length+1) 0)).length=a.length+b.length+1:=by
 have X:∀n,aq B (List.replicate n 0)=0:=by
  intro n;induction n with
  |zero=>rfl
  |succ n ih=>rw[List.replicate_succ,aq,ih];simp
 have Z:∀n,lok B (List.replicate n 0)=true:=by intro n;unfold lok;rw[List.all_eq_true];intro d V;rw[List.mem_replicate] at V;simp[V.2];omega
 have h:aq B a*aq B b<B ^ (a.length+b.length+1):=by have U:=ia I;have S:=ia J;have h3:aq B a*aq B b<B ^ a.length*B ^ b.length:=Nat.mul_lt_mul_of_lt_of_lt U S;rw[<-Nat.pow_add] at h3;have R:B ^ (a.length+b.length)<=B ^ (a.length+b.length+1):=P3 (by omega) (by omega);omega
 have:=EM H a b (List.replicate (a.length+b.length+1) 0) (Z _) (by rw[X,QQZ,QXb];exact h) (by rw[QXb];omega)
 rwa [X,QQZ,QXb] at this
def gx(B d:Nat):List Nat->List Nat×Nat
 | []=>([],0)
 |x::l=>let p:=gx B d l;((p.2*B+x) / d::p.1,(p.2*B+x)%d)
theorem B8{B d:Nat}(hd:0<d)(H:d<B):∀l:List Nat,lok B l=true->(gx B d l).2<d/\aq B (gx B d l).1*d+(gx B d l).2=aq B l/\lok B (gx B d l).1=true/\(gx B d l).1.length=l.length
 | [],_=>by simp[gx,aq,lok,hd]
 |x::l,h=>by
  rw[cY,C0,Es] at h;obtain⟨X,V,U,S⟩:=B8 hd H l h.2;simp only[gx];have Z:=Nat.mod_add_div ((gx B d l).2*B+x) d;refine⟨Nat.mod_lt _ hd,?_,?_,by simp[S]⟩
  .rw[aq,aq,<-V,Nat.add_mul,Nat.mul_add]
   rw[Zq d] at Z;rw[QQl,Zq B (gx B d l).2];omega
  .rw[cY,C0,Es]
   refine⟨?_,U⟩;rw[Nat.div_lt_iff_lt_mul hd];have h3:((gx B d l).2+1)*B<=d*B:=QQf _ X;rw[Nat.add_mul] at h3;rw[Zq B d];omega
theorem Vz{p D top r b q:Nat}(hr:r<(D+1)*p)(H:top*p<=b)(hq:q*b<=r)(I:0<top):q<=D / top:=by
 rw[Nat.le_div_iff_mul_le I];have X:q*(top*p)<=q*b:=Nat.mul_le_mul_left _ H;have Z:(q*top)*p<(D+1)*p:=by rw[QQl];omega
 have:=Nat.lt_of_mul_lt_mul_right Z;omega
end Go.Eng
namespace Go.Proofs
open Go.Eng
open Tryz
variable{A:List Nat}
theorem sf{n:Nat}(h:A[n]? =some 0):aW (A.take (n+1))=aW (A.take n):=by rw[List.take_add_one,h];exact jN _
theorem se{n d:Nat}(h:A[n]? =some d)(hd:d≠0):aW (A.take (n+1))=A.take (n+1):=by rw[List.take_add_one,h];exact EK hd _
variable{K:Nat}{O:y9}{lv:Code->List Nat}
theorem DO(A:List Nat)(W:A.length<=1000000000)(J:A.length<K){b:Code}(H:ah f253=[b])(I:lv b=[0]):
  ∃F:Env->Bool->Env,∀Z d,ae Z 0=.slice 0 0 A.length none->
   aU (bd prog) lv O K 21 1 true (.loop b) ⟨Z,[.cells false 1 (iN .u64 A)],d⟩=some (.exit 0,⟨F Z d,[.cells false 1 (iN .u64 A)],d⟩)/\ae (F Z d) 0=.slice 0 0 (aW A).length none:=by
 refine bl I (fun Z=>ae Z 0=.slice 0 0 A.length none) (fun _ L =>ae L 0=.slice 0 0 (aW A).length none) ?_;clear I;intro Z d G;simp[ah,aE,f253] at H;have S:aw [0] (ad b) Z ((0,.slice 0 0 A.length none)::Z)=aw [0] (ad b) Z Z:=by simp[aw,G]
 rw[<-S];refine bG (α:=Nat) (fun n=>⟨aw [0] (ad b) Z ((0,.slice 0 0 n none)::Z),[.cells false 1 (iN .u64 A)],d⟩) id (fun n=>n<=A.length/\aW (A.take n)=aW A) (.exit 0) _ d _ (by simp) ?_ K A.length ⟨L9 _,by rw[P1]⟩ J;rintro n ⟨Z5,hn2⟩;clear S;subst H;cases n with
 |zero=>
  right;rw[<-hn2];simp[aW]
 |succ n=>
  have D:n<A.length:=by omega
  obtain⟨x,V⟩:∃x,A[n]? =some x:=⟨A[n],by simp[D]⟩
  have R:IntKind.i64.wrap (n:Int)=(n:Int):=af;have N:(n:Int)<(n:Int)+1:=by omega
  have M:0<(n:Int)+1:=by omega
  by_cases X:x=0
  .subst X
   left;refine⟨n,?_⟩;have h3:(n:Int)<=(n:Int)+1:=by omega
   have U:n+1<=A.length:=by omega
   simp[R,N,M,h3,U,V];exact⟨by omega,by rw[<-sf V];exact hn2⟩
  .right
   rw[<-hn2,se V X];have U:min (n+1) A.length=n+1:=by omega
   simp[R,N,M,U,V,X]
theorem Qo(A:List Nat)(H:A.length<=1000000000):kO prog 253 [.slice 0 0 A.length none] [.cells false 1 (iN .u64 A)] (.slice 0 0 (aW A).length none) [.cells false 1 (iN .u64 A)]:=by
 have X:aX prog 253=some f253:=by kernel_rfl
 obtain⟨b,Z⟩:∃b,ah f253=[b]:=⟨_,rfl⟩
 obtain⟨F,V⟩:=DO (O:=cP) (K:=A.length+1) (lv:=fun _=>[0]) A H (by omega) Z rfl;simp[ah,aE,f253] at Z;subst Z;refine dj (lv:=(fun _=>[0])) (K:=(A.length+1)) (az _) ?_;simp[aa,X,f253,V]
variable{X Y:List Nat}
theorem SH{B n a b:Nat}(I:lok B X=true)(J:lok B Y=true)(F':X.length=Y.length)(hd:X.drop (n+1)=Y.drop (n+1))(H:X[n]? =some a)(W:Y[n]? =some b)(ZD:a≠b):
  kx (aq B X) (aq B Y)=if a<b then -1 else 1:=by
 have F:n<X.length:=gL H;have U:X=X.take n++([a]++X.drop (n+1)):=by
  conv=>lhs;rw[<-List.take_append_drop (n+1) X,List.take_add_one,H]
  simp
 have S:Y=Y.take n++([b]++Y.drop (n+1)):=by
  conv=>lhs;rw[<-List.take_append_drop (n+1) Y,List.take_add_one,W]
  simp
 have R:=ia (jL I n);have N:=ia (jL J n);have Z:(X.take n).length=n:=by simp;omega
 have V:(Y.take n).length=n:=by simp;omega
 rw[Z] at R;rw[V] at N;have M:aq B X=aq B (X.take n)+B ^ n*(a+B*aq B (X.drop (n+1))):=by
  conv=>lhs;rw[U,iv,iv,Z]
  simp[aq]
 have L:aq B Y=aq B (Y.take n)+B ^ n*(b+B*aq B (X.drop (n+1))):=by
  conv=>lhs;rw[S,iv,iv,V,<-hd]
  simp[aq]
 rw[M,L];generalize B*aq B (X.drop (n+1))=D;generalize B ^ n=p at*;split
 .rename_i G
  have:p*(a+D+1)<=p*(b+D):=Nat.mul_le_mul_left _ (by omega);rw[Nat.mul_add,Nat.mul_one] at this;unfold kx;rw[if_pos (by omega)]
 .rename_i G
  have:p*(b+D+1)<=p*(a+D):=Nat.mul_le_mul_left _ (by omega);rw[Nat.mul_add,Nat.mul_one] at this;unfold kx;rw[if_neg (by omega),if_pos (by omega)]
theorem Lm{n a:Nat}(h:X.drop (n+1)=Y.drop (n+1))(H:X[n]? =some a)(I:Y[n]? =some a):X.drop n=Y.drop n:=by have Z:n<X.length:=gL H;have V:n<Y.length:=gL I;rw[N0 Z,N0 V,h];have:=(Ns.1 H).2;have:=(Ns.1 I).2;simp_all
theorem Bp(A B:List Nat)(W:lok 1000000000 A=true)(hB:lok 1000000000 B=true)(hl:A.length<=1000000000)(H:A.length=B.length)(hK:A.length<K){b:Code}(I:ah f249=[b])(J:lv b=[5]):
  ∃F:Env->Bool->Env,∀Z d,(ae Z 0=.slice 0 0 A.length none/\ae Z 1=.slice 1 0 A.length none/\ae Z 5=.int .i64 ((A.length:Int)-1))->
   aU (bd prog) lv O K 41 2 true (.loop b) ⟨Z,[.cells false 1 (iN .u64 A),.cells false 1 (iN .u64 B)],d⟩=some (if A=B then .exit 0 else .ret,⟨F Z d,[.cells false 1 (iN .u64 A),.cells false 1 (iN .u64 B)],d⟩)/\
    (A≠B->ae (F Z d) 4=.int .i64 (kx (aq 1000000000 A) (aq 1000000000 B))):=by
 refine bl J (fun Z=>ae Z 0=.slice 0 0 A.length none/\ae Z 1=.slice 1 0 A.length none/\ae Z 5=.int .i64 ((A.length:Int)-1)) (fun _ m =>A≠B->ae m 4=.int .i64 (kx (aq 1000000000 A) (aq 1000000000 B))) ?_;clear J;rintro Z d ⟨h0,h1,h5⟩;simp[ah,aE,f249] at I;have u:aw [5] (ad b) Z ((5,.int .i64 ((A.length:Int)-1))::Z)=aw [5] (ad b) Z Z:=by simp[aw,h5]
 rw[<-u];refine bG (α:=Nat) (fun n=>⟨aw [5] (ad b) Z ((5,.int .i64 ((n:Int)-1))::Z),[.cells false 1 (iN .u64 A),.cells false 1 (iN .u64 B)],d⟩) id (fun n=>n<=A.length/\A.drop n=B.drop n) (if A=B then .exit 0 else .ret) _ d _ (by split<;>simp) ?_ K A.length ⟨L9 _,by rw[List.drop_length,H,List.drop_length]⟩ hK;rintro n ⟨Z5,hn2⟩;clear u;subst I;cases n with
 |zero=>
  right;rw[List.drop_zero,List.drop_zero] at hn2;simp[hn2]
 |succ n=>
  have N:n<A.length:=by omega
  have U:n<B.length:=by omega
  obtain⟨x,G,D⟩:=dh N;obtain⟨y,M,C⟩:=dh U;have j:(((n+1:Nat):Int)-1)=(n:Int):=by omega
  have e2:IntKind.i64.wrap ((n:Int)-1)=(n:Int)-1:=af;rw[j];by_cases S:x=y
  .left
   subst S;refine⟨n,?_⟩;simp[h0,h1,D,C,N,U,e2];exact⟨by omega,Lm hn2 G M⟩
  .right
   have o:A≠B:=by rintro rfl;rw[G] at M;cases M;exact S rfl
   have L:=SH W hB H hn2 G M S;have R :¬((x:Int)=(y:Int)):=by omega
   by_cases V:x<y
   .rw[if_pos V] at L
    simp[h0,h1,D,C,N,U,R,V,o,L]
   .rw[if_neg V] at L
    simp[h0,h1,D,C,N,U,R,V,o,L]
theorem MR(A B:List Nat)(H:lok 1000000000 A=true)(I:lok 1000000000 B=true)(J:A.length<=1000000000)(tA:aW A=A)(W:aW B=B):
  kO prog 249 [.slice 0 0 A.length none,.slice 1 0 B.length none] [.cells false 1 (iN .u64 A),.cells false 1 (iN .u64 B)] (.int .i64 (kx (aq 1000000000 A) (aq 1000000000 B))) [.cells false 1 (iN .u64 A),.cells false 1 (iN .u64 B)]:=by
 have R:aX prog 249=some f249:=by kernel_rfl
 obtain⟨b,N⟩:∃b,ah f249=[b]:=⟨_,rfl⟩
 refine dj (lv:=(fun _=>[5])) (K:=(A.length+1)) (az _) ?_;have D:dig 1000000000 (aq 1000000000 A)=A:=by rw[dS (by omega) H,tA]
 have C:dig 1000000000 (aq 1000000000 B)=B:=by rw[dS (by omega) I,W]
 by_cases M:A.length=B.length
 .have Z:=Bp (O:=cP) (K:=A.length+1) (lv:=fun _=>[5]) A B H I J M (by omega) N rfl
  simp[ah,aE,f249] at N;subst N;obtain⟨F,Z⟩:=Z;have u:IntKind.i64.wrap ((B.length:Int)-1)=(B.length:Int)-1:=af;by_cases V:A=B
  .subst V
   have U:kx (aq 1000000000 A) (aq 1000000000 A)=0:=by unfold kx;simp
   rw[if_pos rfl] at Z;simp[aa,R,f249,Z,u,U]
  .rw[if_neg V] at Z
   simp only[M] at Z;simp[aa,R,f249,Z,M,u,V]
 .have S :¬((A.length:Int)=B.length):=by omega
  by_cases L:A.length<B.length
  .have G:aq 1000000000 A<aq 1000000000 B:=dR (B:=1000000000) (by omega) (by rw[D,C];exact L)
   have U:kx (aq 1000000000 A) (aq 1000000000 B)= -1:=by unfold kx;rw[if_pos G]
   simp[aa,R,f249,S,L,U]
  .have G:aq 1000000000 B<aq 1000000000 A:=dR (B:=1000000000) (by omega) (by rw[D,C];omega)
   have U:kx (aq 1000000000 A) (aq 1000000000 B)=1:=by unfold kx;rw[if_neg (by omega),if_pos G]
   simp[aa,R,f249,S,L,U]
theorem lF(l:List Nat):l.take (aW l).length=aW l:=(kR l).symm
variable{M:Mem}{x:AV}
theorem M2(H:A.length<=1000000000)(I:aft .u64 M x A):∃b,x=.slice b 0 A.length none/\kO prog 253 [x] M (.slice b 0 (aW A).length none) M:=by obtain⟨b,e,h⟩:=kO.agR (new:=[]) (rest:=[]) rfl rfl (Qo A H) I;refine⟨b,e,?_⟩;simpa [AV.ren,fa] using h
variable{y:AV}
theorem HG{A B:List Nat}(H:lok 1000000000 A=true)(I:lok 1000000000 B=true)(J:A.length<=1000000000)(tA:aW A=A)(W:aW B=B)(hx:aft .u64 M x A)(hy:aft .u64 M y B):
  kO prog 249 [x,y] M (.int .i64 (kx (aq 1000000000 A) (aq 1000000000 B))) M:=by
 obtain⟨b,c,Z,V,h⟩:=kO.agc (new:=[]) rfl (MR A B H I J tA W) hx hy;simpa [AV.ren] using h
noncomputable def bR:y9:=fun c Z M=>match c,Z with
 |.fn 253,[x]=>match x,bh .u64 M x with
  |.slice b _ _ _,some A=>if A.length<=1000000000 then some ⟨.slice b 0 (aW A).length none,none,[]⟩ else none
  |_,_=>none
 |.fn 249,[x,y]=>match bh .u64 M x,bh .u64 M y with
  |some A,some B=>if lok 1000000000 A=true/\lok 1000000000 B=true/\A.length<=1000000000/\aW A=A/\aW B=B then some ⟨.int .i64 (kx (aq 1000000000 A) (aq 1000000000 B)),none,[]⟩ else none
  |_,_=>none
 |_,_=>none
theorem jr:qS prog bR:=by
 have V:∀c Z M r,bR c Z M=some r->(∃f,c=.fn f/\kO prog f Z M r.v (r.mem M))/\r.pre=none:=by
  intro c Z M r h;unfold bR at h;split at h
  .split at h
   .rename_i S
    split at h
    .rename_i N
     cases h;obtain⟨b,e,h⟩:=M2 N (bk S);cases e;exact⟨⟨_,rfl,by simpa [afh.mem] using h⟩,rfl⟩
    .cases h
   .cases h
  .split at h
   .rename_i S L
    split at h
    .rename_i G
     obtain⟨F,D,C,B,u⟩:=G;cases h;exact⟨⟨_,rfl,by simpa [afh.mem] using HG F D C B u (bk S) (bk L)⟩,rfl⟩
    .cases h
   .cases h
  .cases h
 refine⟨fun f Z M r h=>?_,fun b Z M r h=>?_,fun c Z M r p h R=>?_⟩
 .obtain⟨⟨o,e,U⟩,_⟩:=V _ _ _ _ h
  cases e;exact U
 .obtain⟨⟨o,e,U⟩,_⟩:=V _ _ _ _ h
  cases e
 .obtain⟨_,U⟩:=V _ _ _ _ h
  rw[U] at R;cases R
def iL(X Y:List Nat):Nat->List Nat->Mem
 |0,_=>[.cells false 1 (iN .u64 X),.cells false 1 (iN .u64 Y),.cells true 1 []]
 |_+1,done=>[.cells false 1 (iN .u64 X),.cells false 1 (iN .u64 Y),.qK,.cells true 1 (iN .u64 done)]
def iy:Nat->AV
 |0=>.slice 2 0 0 none
 |i+1=>.slice 3 0 (i+1) none
theorem kj(X Y:List Nat)(i:Nat)(done:List Nat):iL X Y (i+1) done=[.cells false 1 (iN .u64 X),.cells false 1 (iN .u64 Y),.qK,.cells true 1 (iN .u64 done)]:=rfl
theorem lK(X Y:List Nat):(iL X Y 0 []).length=3:=rfl
theorem km(i:Nat):iy (i+1)=.slice 3 0 (i+1) none:=rfl
theorem bC{α:Type}{p q:α->Prop}{r:Prop}(hr:r)(h:∃s,p s/\q s):∃s,p s/\q s/\r:=let ⟨s,a,b⟩:=h;⟨s,a,b,hr⟩
theorem DJ(X Y A B:List Nat)(H sb:Nat)(hs:(H=0/\sb=1/\X=A/\Y=B)\/(H=1/\sb=0/\X=B/\Y=A))(hA:lok 1000000000 A=true)(hB:lok 1000000000 B=true)(hl:A.length<=1000000000)(F':B.length<=A.length)(hK:A.length<K){b:Code}(I:ah f248=[b])(J:lv b=[22,5,6]):
  ∃F:Env->Bool->Env,∀Z d,(ae Z 1=.slice sb 0 B.length none/\ae Z 20=.slice H 0 A.length none/\ae Z 21=.int .i64 A.length/\ae Z 5=.slice 2 0 0 none/\ae Z 6=.int .u64 0/\ae Z 22=.int .i64 0)->
   aU (bd prog) lv O K 53 2 true (.loop b) ⟨Z,iL X Y 0 [],d⟩=some (.exit 0,⟨F Z d,iL X Y A.length ((uP 1000000000 A B 0).take A.length),d⟩)/\
    (ae (F Z d) 5=iy A.length/\ae (F Z d) 6=.int .u64 (((uP 1000000000 A B 0).getD A.length 0:Nat):Int)):=by
 refine bl J (fun Z=>ae Z 1=.slice sb 0 B.length none/\ae Z 20=.slice H 0 A.length none/\ae Z 21=.int .i64 A.length/\ae Z 5=.slice 2 0 0 none/\ae Z 6=.int .u64 0/\ae Z 22=.int .i64 0)
  (fun _ u =>ae u 5=iy A.length/\ae u 6=.int .u64 (((uP 1000000000 A B 0).getD A.length 0:Nat):Int)) ?_
 clear J;rintro Z d ⟨h1,h20,h21,h5,h6,h22⟩;simp[ah,aE,f248] at I;have o:aw [22,5,6] (ad b) Z ((22,.int .i64 ((0:Nat):Int))::(5,iy 0)::(6,.int .u64 ((0:Nat):Int))::Z)=aw [22,5,6] (ad b) Z Z:=by simp[aw,h5,h6,h22,iy]
 rw[<-o];refine bG (α:=Nat×List Nat×Nat) (fun a=>⟨aw [22,5,6] (ad b) Z ((22,.int .i64 (a.1:Int))::(5,iy a.1)::(6,.int .u64 (a.2.2:Int))::Z),iL X Y a.1 a.2.1,d⟩) (fun a=>A.length-a.1)
  (fun a=>a.1<=A.length/\a.2.1.length=a.1/\a.2.2<=1/\a.2.1++uP 1000000000 (A.drop a.1) (B.drop a.1) a.2.2=uP 1000000000 A B 0) (.exit 0) _ d _ (by simp) ?_ K (0,[],0) ⟨Nat.zero_le _,rfl,Nat.zero_le _,rfl⟩ (by simpa using hK)
 rintro ⟨i,done,c⟩ ⟨hi,hd,hc,J'⟩;simp only at hi hd hc J';clear o;subst I;by_cases N:i=A.length
 .right
  subst N;rw[List.drop_length,uP] at J';rw[<-J',<-hd];simp only[List.take_left'];simp[h21,hd]
 .left
  have S:i<A.length:=by omega
  obtain⟨x,hx,R⟩:=dh S;have Zp:=ff hA hx;have m:A.drop i=x::A.drop (i+1):=by rw[N0 S,R]
  have w0:IntKind.i64.wrap 1=1:=by decide
  have w1:IntKind.i64.wrap ((i:Int)+1)=(i:Int)+1:=af;have j:(i:Int)<(A.length:Int):=by omega
  have W:(i+1)*8<=140737488355328:=by omega
  have Z6:i+1<=140737488355328:=by omega
  have ht:(iN .u64 done).take i=iN .u64 done:=B5 (by simp[hd]);have hM:0<i->iL X Y i done=[.cells false 1 (iN .u64 X),.cells false 1 (iN .u64 Y),.qK,.cells true 1 (iN .u64 done)]:=fun h=>by cases i with
   |zero=>omega
   |succ i=>rfl
  have hO:0<i->iy i=.slice 3 0 i none:=fun h=>by cases i with
   |zero=>omega
   |succ i=>rfl
  by_cases V:i<B.length
  .obtain⟨y,hy,L⟩:=dh V
   have hyb:=ff hB hy;have G:B.drop i=y::B.drop (i+1):=by rw[N0 V,L]
   rw[m,G,uP,List.headD_cons,List.tail_cons] at J';obtain⟨s,D⟩:=xE (α:=Nat) (c+x+y);rw[<-D] at J';have w2:IntKind.u64.wrap ((c:Int)+(x:Int))=(c:Int)+(x:Int):=cU (by omega) (by omega);have w3:IntKind.u64.wrap ((c:Int)+(x:Int)+(y:Int))=(s:Int):=by rw[cU (by omega) (by omega)];omega
   have w4:(s:Int).tmod 1000000000=(s:Int)%1000000000:=AM s 1000000000;have w5:IntKind.u64.wrap ((s:Int) / 1000000000)=(s:Int) / 1000000000:=cU (by omega) (by omega);refine⟨(i+1,done++[s%1000000000],s / 1000000000),?_⟩;refine bC (r:=_/\_) (show(i+1<=A.length/\(done++[s%1000000000]).length=i+1/\s / 1000000000<=1/\(done++[s%1000000000])++uP 1000000000 (A.drop (i+1)) (B.drop (i+1)) (s / 1000000000)=uP 1000000000 A B 0)/\A.length-(i+1)<A.length-i by refine⟨⟨by omega,by simp[hd],by omega,?_⟩,by omega⟩;rw[<-J'];simp) ?_
   clear J';rcases hs with⟨rfl,rfl,rfl,rfl⟩ | ⟨rfl,rfl,rfl,rfl⟩<;>rcases QQX i with rfl | hpos;all_goals first
    |(have U:=Mp hd;subst U;simp[iL,iy,h1,h20,h21,R,L,S,V,w0,w2,w3,w4,w5,cr];done)
    |simp[hM hpos,hO hpos,kj,km,lK,h1,h20,h21,R,L,j,W,Z6,S,V,hd,w1,w2,w3,w4,w5,ht,dC,cr]
  .have G:B.drop i=[]:=List.drop_eq_nil_of_le (by omega)
   have C:B.drop (i+1)=[]:=List.drop_eq_nil_of_le (by omega);rw[m,G,uP] at J';simp only[List.headD_nil,List.tail_nil,Nat.add_zero] at J';obtain⟨s,D⟩:=xE (α:=Nat) (c+x);rw[<-D] at J';have w3:IntKind.u64.wrap ((c:Int)+(x:Int))=(s:Int):=by rw[cU (by omega) (by omega)];omega
   have w4:(s:Int).tmod 1000000000=(s:Int)%1000000000:=AM s 1000000000;have w5:IntKind.u64.wrap ((s:Int) / 1000000000)=(s:Int) / 1000000000:=cU (by omega) (by omega);refine⟨(i+1,done++[s%1000000000],s / 1000000000),?_⟩;refine bC (r:=_/\_) (show(i+1<=A.length/\(done++[s%1000000000]).length=i+1/\s / 1000000000<=1/\(done++[s%1000000000])++uP 1000000000 (A.drop (i+1)) (B.drop (i+1)) (s / 1000000000)=uP 1000000000 A B 0)/\A.length-(i+1)<A.length-i by refine⟨⟨by omega,by simp[hd],by omega,?_⟩,by omega⟩;rw[<-J',C];simp) ?_
   clear J';rcases hs with⟨rfl,rfl,rfl,rfl⟩ | ⟨rfl,rfl,rfl,rfl⟩<;>rcases QQX i with rfl | hpos;all_goals first
    |(have U:=Mp hd;subst U;simp[iL,iy,h1,h20,h21,R,S,V,w0,w3,w4,w5,cr];done)
    |simp[hM hpos,hO hpos,kj,km,lK,h1,h20,h21,R,j,W,Z6,S,V,hd,w1,w3,w4,w5,ht,dC,cr]
theorem BQ(B:Nat):∀(a b:List Nat) (c:Nat),(uP B a b c).length=a.length+1
 | [],_,_=>rfl
 |x::a,b,c=>by rw[uP,List.length_cons,BQ B a];rfl
theorem O1{B:Nat}(H:2<=B){a b:List Nat}(I:lok B a=true)(J:lok B b=true)(W:b.length<=a.length):aW (uP B a b 0)=dig B (aq B a+aq B b):=by rw[<-dS H (Pd H a b 0 I J (by omega)),LF B a b 0 W,Nat.add_zero]
theorem Eb{l:List Nat}{n:Nat}(h:l.length=n+1):l.take n++[l.getD n 0]=l:=by
 have Z:n<l.length:=by omega
 have:l.getD n 0=l[n]:=by simp[List.getD,Z]
 rw[this];have V:l.take (n+1)=l:=B5 (by omega);rw[List.take_add_one,GT Z] at V;exact V
theorem vV(X Y A B:List Nat)(H sb:Nat)(hs:(H=0/\sb=1/\X=A/\Y=B/\¬A.length<B.length)\/(H=1/\sb=0/\X=B/\Y=A/\B.length<A.length))(hA:lok 1000000000 A=true)(hB:lok 1000000000 B=true)(hl:A.length<=100000000)(Zc:B.length<=A.length):
  aa (bd prog) (fun _=>[22,5,6]) (aX prog) bR (A.length+1) 248 [.slice 0 0 X.length none,.slice 1 0 Y.length none] [.cells false 1 (iN .u64 X),.cells false 1 (iN .u64 Y)]=
   some ⟨.slice 2 0 (aW (uP 1000000000 A B 0)).length none,none,[.cells true 1 (iN .u64 (uP 1000000000 A B 0))]⟩:=by
 have o:aX prog 248=some f248:=by kernel_rfl
 obtain⟨b,m⟩:∃b,ah f248=[b]:=⟨_,rfl⟩
 have L:=BQ 1000000000 A B 0;have S:=Eb L;obtain⟨F,U⟩:=DJ (O:=bR) (K:=A.length+1) (lv:=fun _=>[22,5,6]) X Y A B H sb (by rcases hs with⟨a,b,c,d,_⟩ | ⟨a,b,c,d,_⟩;exact .inl ⟨a,b,c,d⟩;exact .inr ⟨a,b,c,d⟩) hA hB (by omega) Zc (by omega) m rfl;simp[ah,aE,f248] at m;subst m;obtain⟨Z,j⟩:=xE (α:=Int) ((A.length:Int)+1);have w1:IntKind.i64.wrap ((A.length:Int)+1)=Z:=by rw[j];exact af
 have h0:0<=Z:=by omega
 have h1:8*Z<=281474976710656:=by omega
 have h2:Z<=281474976710656:=by omega
 obtain⟨C,G⟩:=xE (uP 1000000000 A B 0);rcases QQX A.length with hz | hpos
 .have W:=Mp hz
  have J:B=[]:=Mp (by omega);subst W;subst J;simp only[List.length_nil,iL,iy,uP,QQZ,Int.cast_ofNat_Int,List.take_zero,List.getD_cons_zero] at U;have u:bh .u64 [.cells false 1 [],.cells false 1 [],.qK,.cells true 1 [.int .u64 0],.cells true 1 [.int .u64 0]] (.slice 4 0 1 none)=some [0]:=by rfl
  rcases hs with⟨rfl,rfl,rfl,rfl,N⟩ | ⟨rfl,rfl,rfl,rfl,N⟩
  .have w0:IntKind.i64.wrap 1=1:=by decide
   simp only[O7] at U;simp[aa,o,f248,U,bR,u,uP,aW,cr,w0]
  .simp at N
 .have hM:∀done,iL X Y A.length done=[.cells false 1 (iN .u64 X),.cells false 1 (iN .u64 Y),.qK,.cells true 1 (iN .u64 done)]:=fun done=>by
   cases h:A.length with
   |zero=>omega
   |succ i=>rfl
  have hO:iy A.length=.slice 3 0 A.length none:=by
   cases h:A.length with
   |zero=>omega
   |succ i=>rfl
  rw[hM,hO] at U;simp only[iL] at U;obtain⟨V,Zx⟩:=xE ((uP 1000000000 A B 0).take A.length);obtain⟨D,I⟩:=xE ((uP 1000000000 A B 0).getD A.length 0);rw[<-Zx,<-I] at U S;rw[<-G] at S L |-;have R:V.length=A.length:=by rw[Zx,S2,<-G,L];omega
  have h3:(A.length+1)*8<=140737488355328:=by omega
  have h4:A.length<=140737488355327:=by omega
  have h5:(iN .u64 V).take A.length=iN .u64 V:=B5 (by simp[R]);have u:bh .u64 [.cells false 1 (iN .u64 X),.cells false 1 (iN .u64 Y),.qK,.qK,.cells true 1 [.int .u64 (D:Int)],.cells true 1 (iN .u64 C)] (.slice 5 0 (A.length+1) none)=some C:=
   aR rfl (by simp[L]) (B5 (by simp[L]))
  have h7:C.length<=1000000000:=by omega
  have h8:iN .u64 V++[.int .u64 (D:Int)]=iN .u64 C:=by rw[WV,S]
  rcases hs with⟨rfl,rfl,rfl,rfl,N⟩ | ⟨rfl,rfl,rfl,rfl,N⟩
  .simp[aa,o,f248,N,w1,h0,h1,h2,U,bR,R,h3,h4,h5,u,h7,h8]
  .simp[aa,o,f248,N,w1,h0,h1,h2,U,bR,R,h3,h4,h5,u,h7,h8]
theorem Cd{k:IntKind}{l r:List Nat}(h:l <+: r):iN k l <+: iN k r:=by obtain⟨t,rfl⟩:=h;exact⟨iN k t,by rw[<-dC]⟩
theorem dD(l:List Nat):aW l <+: l:=by rw[kR l];exact List.take_prefix _ _
theorem MT{A B:List Nat}(H:lok 1000000000 A=true)(I:lok 1000000000 B=true)(J:A.length<=100000000)(W:B.length<=100000000)(hx:aft .u64 M x A)(hy:aft .u64 M y B):
  kO prog 248 [x,y] M (.slice M.length 0 (dig 1000000000 (aq 1000000000 A+aq 1000000000 B)).length none) (M++[.cells true 1 (iN .u64 (dig 1000000000 (aq 1000000000 A+aq 1000000000 B)))]):=by
 have V:∃Z,aW Z=dig 1000000000 (aq 1000000000 A+aq 1000000000 B)/\kO prog 248 [.slice 0 0 A.length none,.slice 1 0 B.length none] [.cells false 1 (iN .u64 A),.cells false 1 (iN .u64 B)] (.slice 2 0 (aW Z).length none) [.cells false 1 (iN .u64 A),.cells false 1 (iN .u64 B),.cells true 1 (iN .u64 Z)]:=by
  by_cases U:A.length<B.length
  .refine⟨uP 1000000000 B A 0,by rw[O1 (by omega) I H (by omega),QXJ],?_⟩
   have:=(ar aj (aJ _) jr (aM _) (vV A B B A 1 0 (.inr ⟨rfl,rfl,rfl,rfl,U⟩) I H W (by omega))).1;simpa [afh.mem] using this
  .refine⟨uP 1000000000 A B 0,O1 (by omega) H I (by omega),?_⟩
   have:=(ar aj (aJ _) jr (aM _) (vV A B A B 0 1 (.inl ⟨rfl,rfl,rfl,rfl,U⟩) H I J (by omega))).1;simpa [afh.mem] using this
 obtain⟨Z,S,h⟩:=V;have R:=kO.ag9 (m:=[.cells false 1 (iN .u64 A),.cells false 1 (iN .u64 B)]) h (Cd (dD Z));obtain⟨b,c,rfl,rfl,h3⟩:=kO.agc (new:=[.cells true 1 (iN .u64 (aW Z))]) rfl R hx hy;rw[S] at h3;simpa [AV.ren,fa] using h3
theorem C8(B:Nat):∀(a b:List Nat) (c:Nat),(vn B a b c).length=a.length
 | [],_,_=>rfl
 |x::a,b,c=>by unfold vn;split<;>simp[C8 B a]
theorem V7(B x:Nat)(a:List Nat)(c:Nat):vn B (x::a) [] c=if x<c then (x+B-c)::vn B a [] 1 else (x-c)::vn B a [] 0:=rfl
theorem Bk(A B:List Nat)(hA:lok 1000000000 A=true)(hB:lok 1000000000 B=true)(hl:A.length<=1000000000)(F':B.length<=A.length)(hK:A.length<K){b:Code}(H:ah f250=[b])(Zi:lv b=[15,5,6]):
  ∃F:Env->Bool->Env,∀V d,(ae V 1=.slice 1 0 B.length none/\ae V 13=.slice 0 0 A.length none/\ae V 14=.int .i64 A.length/\ae V 5=.slice 2 0 0 none/\ae V 6=.int .u64 0/\ae V 15=.int .i64 0)->
   aU (bd prog) lv O K 45 2 true (.loop b) ⟨V,iL A B 0 [],d⟩=some (.exit 0,⟨F V d,iL A B A.length (vn 1000000000 A B 0),d⟩)/\ae (F V d) 5=iy A.length:=by
 refine bl Zi (fun V=>ae V 1=.slice 1 0 B.length none/\ae V 13=.slice 0 0 A.length none/\ae V 14=.int .i64 A.length/\ae V 5=.slice 2 0 0 none/\ae V 6=.int .u64 0/\ae V 15=.int .i64 0)
  (fun _ AC =>ae AC 5=iy A.length) ?_
 clear Zi;rintro V d ⟨h1,h20,h21,h5,h6,h22⟩;simp[ah,aE,f250] at H;have hn:aw [15,5,6] (ad b) V ((15,.int .i64 ((0:Nat):Int))::(5,iy 0)::(6,.int .u64 ((0:Nat):Int))::V)=aw [15,5,6] (ad b) V V:=by simp[aw,h5,h6,h22,iy]
 rw[<-hn];refine bG (α:=Nat×List Nat×Nat) (fun a=>⟨aw [15,5,6] (ad b) V ((15,.int .i64 (a.1:Int))::(5,iy a.1)::(6,.int .u64 (a.2.2:Int))::V),iL A B a.1 a.2.1,d⟩) (fun a=>A.length-a.1)
  (fun a=>a.1<=A.length/\a.2.1.length=a.1/\a.2.2<=1/\a.2.1++vn 1000000000 (A.drop a.1) (B.drop a.1) a.2.2=vn 1000000000 A B 0) (.exit 0) _ d _ (by simp) ?_ K (0,[],0) ⟨Nat.zero_le _,rfl,Nat.zero_le _,rfl⟩ (by simpa using hK)
 rintro ⟨i,done,c⟩ ⟨hi,hd,hc,J'⟩;simp only at hi hd hc J';clear hn;subst H;by_cases J:i=A.length
 .right
  subst J;rw[List.drop_length,vn,List.append_nil] at J';rw[<-J'];simp[h21]
 .left
  have S:i<A.length:=by omega
  obtain⟨x,hx,R⟩:=dh S;have Zp:=ff hA hx;have eA:A.drop i=x::A.drop (i+1):=by rw[N0 S,R]
  have w0:IntKind.i64.wrap 1=1:=by decide
  have w1:IntKind.i64.wrap ((i:Int)+1)=(i:Int)+1:=af;have C:(i:Int)<(A.length:Int):=by omega
  have u:(i+1)*8<=140737488355328:=by omega
  have o:i+1<=140737488355328:=by omega
  have m:(iN .u64 done).take i=iN .u64 done:=B5 (by simp[hd]);have j:0<i->iL A B i done=[.cells false 1 (iN .u64 A),.cells false 1 (iN .u64 B),.qK,.cells true 1 (iN .u64 done)]:=fun h=>by cases i with
   |zero=>omega
   |succ i=>rfl
  have W:0<i->iy i=.slice 3 0 i none:=fun h=>by cases i with
   |zero=>omega
   |succ i=>rfl
  have N:i=0->done=[]:=fun h=>Mp (by omega)
  by_cases U:i<B.length
  .obtain⟨y,hy,G⟩:=dh U
   have hyb:=ff hB hy;have I:B.drop i=y::B.drop (i+1):=by rw[N0 U,G]
   rw[eA,I,vn,List.headD_cons,List.tail_cons] at J';obtain⟨s,Z9⟩:=xE (α:=Nat) (c+y);rw[<-Z9] at J';have w2:IntKind.u64.wrap ((c:Int)+(y:Int))=(s:Int):=by rw[cU (by omega) (by omega)];omega
   by_cases Z:x<s
   .rw[if_pos Z] at J'
    obtain⟨r,L⟩:=xE (α:=Nat) (x+1000000000-s);rw[<-L] at J';have w3:IntKind.u64.wrap ((x:Int)+1000000000)=(x:Int)+1000000000:=cU (by omega) (by omega);have w4:IntKind.u64.wrap ((x:Int)+1000000000-(s:Int))=(r:Int):=by rw[cU (by omega) (by omega)];omega
    refine⟨(i+1,done++[r],1),?_⟩;refine bC (r:=_/\_) (show(i+1<=A.length/\(done++[r]).length=i+1/\1<=1/\(done++[r])++vn 1000000000 (A.drop (i+1)) (B.drop (i+1)) 1=vn 1000000000 A B 0)/\A.length-(i+1)<A.length-i by refine⟨⟨by omega,by simp[hd],by omega,?_⟩,by omega⟩;rw[<-J'];simp) ?_
    clear J';rcases QQX i with rfl | hpos
    .obtain rfl:=N rfl
     simp[iL,iy,h1,h20,h21,R,G,S,U,w0,w2,w3,w4,Z,cr]
    .simp[j hpos,W hpos,kj,km,lK,h1,h20,h21,R,G,C,u,o,S,U,hd,w1,w2,w3,w4,Z,m,dC,cr]
   .rw[if_neg Z] at J'
    obtain⟨r,L⟩:=xE (α:=Nat) (x-s);rw[<-L] at J';have w4:IntKind.u64.wrap ((x:Int)-(s:Int))=(r:Int):=by rw[cU (by omega) (by omega)];omega
    refine⟨(i+1,done++[r],0),?_⟩;refine bC (r:=_/\_) (show(i+1<=A.length/\(done++[r]).length=i+1/\0<=1/\(done++[r])++vn 1000000000 (A.drop (i+1)) (B.drop (i+1)) 0=vn 1000000000 A B 0)/\A.length-(i+1)<A.length-i by refine⟨⟨by omega,by simp[hd],by omega,?_⟩,by omega⟩;rw[<-J'];simp) ?_
    clear J';rcases QQX i with rfl | hpos
    .obtain rfl:=N rfl
     simp[iL,iy,h1,h20,h21,R,G,S,U,w0,w2,w4,Z,cr]
    .simp[j hpos,W hpos,kj,km,lK,h1,h20,h21,R,G,C,u,o,S,U,hd,w1,w2,w4,Z,m,dC,cr]
  .have I:B.drop i=[]:=List.drop_eq_nil_of_le (by omega)
   have D:B.drop (i+1)=[]:=List.drop_eq_nil_of_le (by omega);rw[eA,I,V7] at J';by_cases Z:x<c
   .rw[if_pos Z] at J'
    obtain⟨r,L⟩:=xE (α:=Nat) (x+1000000000-c);rw[<-L] at J';have w3:IntKind.u64.wrap ((x:Int)+1000000000)=(x:Int)+1000000000:=cU (by omega) (by omega);have w4:IntKind.u64.wrap ((x:Int)+1000000000-(c:Int))=(r:Int):=by rw[cU (by omega) (by omega)];omega
    refine⟨(i+1,done++[r],1),?_⟩;refine bC (r:=_/\_) (show(i+1<=A.length/\(done++[r]).length=i+1/\1<=1/\(done++[r])++vn 1000000000 (A.drop (i+1)) (B.drop (i+1)) 1=vn 1000000000 A B 0)/\A.length-(i+1)<A.length-i by refine⟨⟨by omega,by simp[hd],by omega,?_⟩,by omega⟩;rw[<-J',D];simp) ?_
    clear J';rcases QQX i with rfl | hpos
    .obtain rfl:=N rfl
     simp[iL,iy,h1,h20,h21,R,S,U,w0,w3,w4,Z,cr]
    .simp[j hpos,W hpos,kj,km,lK,h1,h20,h21,R,C,u,o,S,U,hd,w1,w3,w4,Z,m,dC,cr]
   .rw[if_neg Z] at J'
    obtain⟨r,L⟩:=xE (α:=Nat) (x-c);rw[<-L] at J';have w4:IntKind.u64.wrap ((x:Int)-(c:Int))=(r:Int):=by rw[cU (by omega) (by omega)];omega
    refine⟨(i+1,done++[r],0),?_⟩;refine bC (r:=_/\_) (show(i+1<=A.length/\(done++[r]).length=i+1/\0<=1/\(done++[r])++vn 1000000000 (A.drop (i+1)) (B.drop (i+1)) 0=vn 1000000000 A B 0)/\A.length-(i+1)<A.length-i by refine⟨⟨by omega,by simp[hd],by omega,?_⟩,by omega⟩;rw[<-J',D];simp) ?_
    clear J';rcases QQX i with rfl | hpos
    .obtain rfl:=N rfl
     simp[iL,iy,h1,h20,h21,R,S,U,w0,w4,Z,cr]
    .simp[j hpos,W hpos,kj,km,lK,h1,h20,h21,R,C,u,o,S,U,hd,w1,w4,Z,m,dC,cr]
theorem DE(A B:List Nat)(H:lok 1000000000 A=true)(I:lok 1000000000 B=true)(hl:A.length<=100000000)(J:B.length<=A.length):
  aa (bd prog) (fun _=>[15,5,6]) (aX prog) bR (A.length+1) 250 [.slice 0 0 A.length none,.slice 1 0 B.length none] [.cells false 1 (iN .u64 A),.cells false 1 (iN .u64 B)]=
   some ⟨.slice 2 0 (aW (vn 1000000000 A B 0)).length none,none,[.cells true 1 (iN .u64 (vn 1000000000 A B 0))]⟩:=by
 have C:aX prog 250=some f250:=by kernel_rfl
 obtain⟨b,S⟩:∃b,ah f250=[b]:=⟨_,rfl⟩
 have V:=C8 1000000000 A B 0;obtain⟨F,Z⟩:=Bk (O:=bR) (K:=A.length+1) (lv:=fun _=>[15,5,6]) A B H I (by omega) J (by omega) S rfl;simp[ah,aE,f250] at S;subst S;obtain⟨u,o⟩:=xE (α:=Int) (A.length:Int);have h0:0<=(A.length:Int):=by omega
 have m:8*(A.length:Int)<=281474976710656:=by omega
 have j:(A.length:Int)<=281474976710656:=by omega
 obtain⟨U,R⟩:=xE (vn 1000000000 A B 0);rw[<-R] at V Z |-;rcases QQX A.length with hz | hpos
 .have N:=Mp hz
  have L:B=[]:=Mp (by omega);subst N;subst L;have G:U=[]:=Mp (by simpa using V);subst G;simp only[List.length_nil,iL,iy,QQZ,Int.cast_ofNat_Int,O7] at Z;have D:bh .u64 [.cells false 1 [],.cells false 1 [],.cells true 1 []] (.slice 2 0 0 none)=some []:=by rfl
  simp[aa,C,f250,Z,bR,D,aW]
 .have W:∀done,iL A B A.length done=[.cells false 1 (iN .u64 A),.cells false 1 (iN .u64 B),.qK,.cells true 1 (iN .u64 done)]:=fun done=>by
   cases h:A.length with
   |zero=>omega
   |succ i=>rfl
  have hO:iy A.length=.slice 3 0 A.length none:=by
   cases h:A.length with
   |zero=>omega
   |succ i=>rfl
  rw[W,hO] at Z;simp only[iL] at Z;have D:bh .u64 [.cells false 1 (iN .u64 A),.cells false 1 (iN .u64 B),.qK,.cells true 1 (iN .u64 U)] (.slice 3 0 A.length none)=some U:=
   aR rfl (by simp[V]) (B5 (by simp[V]))
  have h7:U.length<=1000000000:=by omega
  simp[aa,C,f250,m,j,Z,bR,D,h7]
theorem HE{A B:List Nat}(H:lok 1000000000 A=true)(I:lok 1000000000 B=true)(W:A.length<=100000000)(J:B.length<=A.length)(Zl:aq 1000000000 B<=aq 1000000000 A)(hx:aft .u64 M x A)(hy:aft .u64 M y B):
  kO prog 250 [x,y] M (.slice M.length 0 (dig 1000000000 (aq 1000000000 A-aq 1000000000 B)).length none) (M++[.cells true 1 (iN .u64 (dig 1000000000 (aq 1000000000 A-aq 1000000000 B)))]):=by
 obtain⟨S,Z⟩:=Cq (B:=1000000000) (by omega) A B 0 H I (by omega) J (by omega);have V:aW (vn 1000000000 A B 0)=dig 1000000000 (aq 1000000000 A-aq 1000000000 B):=by rw[<-dS (by omega) Z];congr 1;omega
 have:=(ar aj (aJ _) jr (aM _) (DE A B H I W J)).1;simp only[afh.mem,Option.getD_none,List.cons_append,List.nil_append] at this;have U:=kO.ag9 (m:=[.cells false 1 (iN .u64 A),.cells false 1 (iN .u64 B)]) this (Cd (dD _));obtain⟨b,c,rfl,rfl,h3⟩:=kO.agc (new:=[.cells true 1 (iN .u64 (aW (vn 1000000000 A B 0)))]) rfl U hx hy;rw[V] at h3;simpa [AV.ren,fa] using h3
end Go.Proofs
