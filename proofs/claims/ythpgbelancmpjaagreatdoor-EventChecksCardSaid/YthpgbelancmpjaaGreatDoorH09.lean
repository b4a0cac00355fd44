/- See H38. -/
import Derived.Test.YthpgbelancmpjaaGreatDoorH08
set_option linter.all false
namespace Go.Eng
def aq(B:Nat):List Nat->Nat
 | []=>0
 |d::l=>d+B*aq B l
def lok(B:Nat)(l:List Nat):Bool:=l.all fun d=>decide (d<B)
def bd:List Nat->List Nat
 | []=>[]
 |d::l=>match bd l with
  | []=>if d=0 then [] else [d]
  |x::r=>d::x::r
def Vn(B:Nat):Nat->Nat->List Nat
 |0,_=>[]
 |f+1,n=>if n=0 then [] else n%B::Vn B f (n / B)
def dig(B n:Nat):List Nat:=Vn B (n.log2+1) n
theorem T7{B:Nat}(H:2<=B):∀(f g n:Nat),n<2 ^ f->n<2 ^ g->Vn B f n=Vn B g n
 |0,g,n,h,_=>by
  have:n=0:=by simp at h;omega
  subst this;cases g<;>simp[Vn]
 |f+1,0,n,_,h=>by
  have:n=0:=by simp at h;omega
  subst this;simp[Vn]
 |f+1,g+1,n,h1,h2=>by
  unfold Vn;by_cases Z:n=0
  .rw[if_pos Z,if_pos Z]
  .rw[if_neg Z,if_neg Z]
   have h:n / B<=n / 2:=Nat.div_le_div_left H (by omega);rw[Nat.pow_succ] at h1 h2;rw[T7 H f g (n / B) (by omega) (by omega)]
theorem dX(B:Nat):dig B 0=[]:=by simp[dig,Vn]
variable{B n:Nat}
section
variable (hB:2<=B)
include hB
theorem yB(H:n≠0):dig B n=n%B::dig B (n / B):=by
 have Z:n<2 ^ (n.log2+1):=Nat.lt_log2_self;have X:n / B<2 ^ ((n / B).log2+1):=Nat.lt_log2_self;have h:n / B<=n / 2:=Nat.div_le_div_left hB (by omega);show Vn B (n.log2+1) n=_
 rw[Vn,if_neg H];congr 1;exact T7 hB _ _ _ (by rw[Nat.pow_succ] at Z;omega) X
theorem NK{p:Nat->Prop}(h0:p 0)(h1:∀n,n≠0->p (n / B)->p n)(n:Nat):p n:=by
 induction n using Nat.strongRecOn with
 |_ n ih=>
  by_cases Z:n=0
  .subst Z;exact h0
  .exact h1 n Z (ih (n / B) (Nat.div_lt_self (by omega) hB))
theorem bN(n:Nat):aq B (dig B n)=n:=by
 induction n using NK hB with
 |h0=>rw[dX];rfl
 |h1 n hn ih=>
  rw[yB hB hn,aq,ih];have:=Nat.mod_add_div n B;omega
theorem cc(n:Nat):lok B (dig B n)=true:=by
 induction n using NK hB with
 |h0=>rw[dX];rfl
 |h1 n hn ih=>
  rw[yB hB hn];unfold lok at ih |-;rw[QQX,ih];simp[Nat.mod_lt n (show 0<B by omega)]
end
theorem gS(B:Nat):∀(l r:List Nat),aq B (l++r)=aq B l+B ^ l.length*aq B r
 | [],r=>by simp[aq]
 |d::l,r=>by rw[List.cons_append,aq,aq,gS B l r,List.length_cons,Nat.pow_succ,Nat.mul_add,SP (B ^ l.length) B,QQk];omega
theorem gN{B:Nat}:∀{l:List Nat},lok B l=true->aq B l<B ^ l.length
 | [],_=>by simp[aq]
 |d::l,h=>by unfold lok at h;simp only[QQX,Ar,Cs] at h;have:=gN (l:=l) h.2;rw[aq,List.length_cons,Nat.pow_succ];have Z:B*(aq B l+1)<=B*B ^ l.length:=Nat.mul_le_mul_left _ this;rw[Nat.mul_add] at Z;rw[SP (B ^ l.length) B];omega
theorem Fx(B:Nat):∀l:List Nat,aq B (bd l)=aq B l
 | []=>rfl
 |d::l=>by
  have Z:=Fx B l;unfold bd;split
  .rename_i h
   rw[h] at Z;rw[aq,<-Z];split
   next X=>subst X;simp[aq]
   .simp[aq]
  .rename_i x r h
   rw[h] at Z;show d+B*aq B (x::r)=d+B*aq B l
   rw[Z]
theorem fh(H:2<=B):dig B n=[]↔n=0:=by
 constructor
 .intro h
  by_cases Z:n=0
  .exact Z
  .rw[yB H Z] at h;cases h
 .rintro rfl;exact dX B
theorem dW{B:Nat}(H:2<=B):∀{l:List Nat},lok B l=true->dig B (aq B l)=bd l
 | [],_=>dX B
 |d::l,h=>by
  unfold lok at h;simp only[QQX,Ar,Cs] at h;have Z:=dW H (l:=l) h.2;have R:aq B (d::l)=d+B*aq B l:=rfl;have V:(d+B*aq B l) / B=aq B l:=by rw[Nat.add_mul_div_left _ _ (by omega),Nat.div_eq_of_lt h.1,QQY]
  have U:(d+B*aq B l)%B=d:=by rw[Nat.add_mul_mod_self_left,QQa h.1]
  rw[R];unfold bd;split
  .rename_i S
   rw[S] at Z;have Q:=(fh H).1 Z;rw[Q];split
   next X=>subst X;exact dX B
   .rename_i X
    rw[yB H (by omega),Nat.mul_zero,Nat.add_zero,QQa h.1,Nat.div_eq_of_lt h.1,dX]
  .rename_i x r S
   rw[S] at Z;have O:aq B l≠0:=by intro e;rw[e,dX] at Z;cases Z
   have:d+B*aq B l≠0:=by have:0<B*aq B l:=Nat.mul_pos (by omega) (by omega);omega
   rw[yB H this,V,U,Z]
theorem cB(H:2<=B)(n:Nat):bd (dig B n)=dig B n:=by rw[<-dW H (cc H n),bN H]
theorem jy:∀l:List Nat,bd (l++[0])=bd l
 | []=>rfl
 |d::l=>by rw[List.cons_append,bd,jy l,bd]
theorem Fw{d:Nat}(hd:d≠0):∀l:List Nat,bd (l++[d])=l++[d]
 | []=>by simp[bd,hd]
 |c::l=>by rw[List.cons_append,bd,Fw hd l];cases l<;>rfl
theorem dw:∀l:List Nat,(bd l).length<=l.length
 | []=>Es _
 |d::l=>by
  have:=dw l;unfold bd;split
  .split<;>simp
  .rename_i x r h
   rw[h] at this;simp only[List.length_cons] at this |-;omega
theorem kM:∀l:List Nat,bd l=l.take (bd l).length
 | []=>rfl
 |d::l=>by
  have:=kM l;unfold bd;split
  .split<;>simp
  .rename_i x r h
   rw[h] at this;rw[List.length_cons,List.take_succ_cons,<-this]
section
variable (hB:2<=B)
include hB
theorem sR(n:Nat):n<B ^ (dig B n).length:=by
 have:=gN (cc hB n)
 rwa [bN hB] at this
theorem tn(n:Nat)(H:n≠0):B ^ ((dig B n).length-1)<=n:=by
 induction n using NK hB with
 |h0=>exact absurd rfl H
 |h1 n _ ih=>
  rw[yB hB H,List.length_cons,Nat.add_sub_cancel];by_cases h0:n / B=0
  .rw[h0,dX];simp;omega
  .have:=ih h0
   have Z:0<(dig B (n / B)).length:=by
    cases h:dig B (n / B) with
    |nil=>exact absurd ((fh hB).1 h) h0
    |cons=>simp
   have e:B ^ (dig B (n / B)).length=B*B ^ ((dig B (n / B)).length-1):=by rw[SP,<-Nat.pow_succ];congr 1;omega
   rw[e];exact Y2 (Nat.mul_le_mul_left _ this) (Nat.mul_div_le n B)
theorem dV{m:Nat}(h:(dig B m).length<(dig B n).length):m<n:=by
 have Z:n≠0:=by rintro rfl;rw[dX] at h;simp at h
 have X:=sR hB m;have V:=tn hB n Z;have h3:B ^ (dig B m).length<=B ^ ((dig B n).length-1):=L9 (by omega) (by omega);omega
theorem fm{k:Nat}(h:n<B ^ k):(dig B n).length<=k:=by
 by_cases Z:n=0
 .subst Z;rw[dX];simp
 .have V:=tn hB n Z
  have X:B ^ ((dig B n).length-1)<B ^ k:=by omega
  have:=(Nat.pow_lt_pow_iff_right (by omega:1<B)).1 X;omega
end
variable{d:Nat}{l:List Nat}
theorem eK(h:lok B l=true){i:Nat}(H:l[i]? =some d):d<B:=by have:=List.all_eq_true.1 h d (Lo H);simpa using this
variable{r:List Nat}
theorem oG:lok B (l++r)=(lok B l&&lok B r):=by simp[lok,List.all_append]
theorem di:lok B (d::r)=(decide (d<B)&&lok B r):=rfl
theorem jx(h:lok B l=true)(k:Nat):lok B (l.take k)=true:=by unfold lok at h |-;rw[List.all_eq_true] at h |-;exact fun d Z=>h d (List.mem_of_mem_take Z)
theorem jw(h:lok B l=true)(k:Nat):lok B (l.drop k)=true:=by unfold lok at h |-;rw[List.all_eq_true] at h |-;exact fun d Z=>h d (List.mem_of_mem_drop Z)
theorem LI(B:Nat)(l:List Nat)(d:Nat):aq B (l++[d])=aq B l+B ^ l.length*d:=by rw[gS];simp[aq]
def uY(B:Nat):List Nat->List Nat->Nat->List Nat
 | [],_,c=>[c]
 |x::a,b,c=>(c+x+b.headD 0)%B::uY B a b.tail ((c+x+b.headD 0) / B)
theorem LJ(B:Nat)(b:List Nat):aq B b=b.headD 0+B*aq B b.tail:=by cases b<;>simp[aq]
theorem LH(B:Nat):∀(a b:List Nat) (c:Nat),b.length<=a.length->aq B (uY B a b c)=aq B a+aq B b+c
 | [],b,c,h=>by have:b=[]:=GT (by simpa using h);subst this;simp[uY,aq]
 |x::a,b,c,h=>by
  have Z:b.tail.length<=a.length:=by simp at h |-;omega
  rw[uY,aq,LH B a b.tail _ Z,LJ B b,aq];have:=Nat.mod_add_div (c+x+b.headD 0) B;rw[Nat.mul_add,Nat.mul_add];omega
variable{b:List Nat}
theorem LD(H:0<B)(h:lok B b=true):b.headD 0<B:=by
 cases b with
 |nil=>exact H
 |cons d b=>rw[di,Ar,Cs] at h;exact h.1
theorem OX(h:lok B b=true):lok B b.tail=true:=by
 cases b with
 |nil=>rfl
 |cons d b=>rw[di,Ar] at h;exact h.2
theorem OW{B:Nat}(H:2<=B):∀(a b:List Nat) (c:Nat),lok B a=true->lok B b=true->c<=1->lok B (uY B a b c)=true
 | [],b,c,_,_,hc=>by simp[uY,lok];omega
 |x::a,b,c,ha,hb,hc=>by
  rw[di,Ar,Cs] at ha;have Z:=LD (by omega) hb;rw[uY,di,Ar,Cs];refine⟨Nat.mod_lt _ (by omega),OW H a _ _ ha.2 (OX hb) ?_⟩;have:(c+x+b.headD 0) / B<2:=by rw[Nat.div_lt_iff_lt_mul (by omega)];omega
  omega
def vz(B:Nat):List Nat->List Nat->Nat->List Nat
 | [],_,_=>[]
 |x::a,b,c=>if x<c+b.headD 0 then (x+B-(c+b.headD 0))::vz B a b.tail 1 else (x-(c+b.headD 0))::vz B a b.tail 0
theorem Db{B:Nat}(H:2<=B):∀(a b:List Nat) (c:Nat),lok B a=true->lok B b=true->c<=1->b.length<=a.length->aq B b+c<=aq B a->
  aq B (vz B a b c)+aq B b+c=aq B a/\lok B (vz B a b c)=true
 | [],b,c,_,_,_,h,h2=>by have:b=[]:=GT (by simpa using h);subst this;simp only[aq] at h2;simp only[vz,aq];exact⟨by omega,rfl⟩
 |x::a,b,c,ha,hb,hc,h,h2=>by
  have U:b.tail.length<=a.length:=by simp at h |-;omega
  rw[di,Ar,Cs] at ha;have R:=LD (by omega) hb;have Z:=OX hb;rw[LJ B b] at h2 |-;rw[aq] at h2 |-;unfold vz;split
  .rename_i S
   have h3:aq B b.tail+1<=aq B a:=by
    have:B*aq B b.tail<B*aq B a:=by omega
    have:=Nat.lt_of_mul_lt_mul_left this;omega
   obtain⟨X,V⟩:=Db H a b.tail 1 ha.2 Z (by omega) U h3;have e:B*aq B a=B*aq B (vz B a b.tail 1)+B*aq B b.tail+B:=by rw[<-X,Nat.mul_add,Nat.mul_add,Nat.mul_one]
   rw[aq,di,V,Bool.and_true,Cs,e];exact⟨by omega,by omega⟩
  .rename_i S
   have h3:aq B b.tail+0<=aq B a:=by
    have:B*aq B b.tail<B*aq B a+B:=by omega
    rw[<-Nat.mul_succ] at this;have:=Nat.lt_of_mul_lt_mul_left this;omega
   obtain⟨X,V⟩:=Db H a b.tail 0 ha.2 Z (by omega) U h3;have e:B*aq B a=B*aq B (vz B a b.tail 0)+B*aq B b.tail:=by rw[<-X,Nat.mul_add,Nat.mul_add,Nat.mul_zero,Nat.add_zero]
   rw[aq,di,V,Bool.and_true,Cs,e];exact⟨by omega,by omega⟩
def ju(B:Nat):List Nat->Nat->List Nat
 | [],_=>[]
 |o::l,c=>if c=0 then o::l else (c+o)%B::ju B l ((c+o) / B)
def RB(B x:Nat):List Nat->List Nat->Nat->List Nat
 |o,[],c=>ju B o c
 | [],_::_,_=>[]
 |o::l,y::b,c=>(c+(o+x*y))%B::RB B x l b ((c+(o+x*y)) / B)
theorem w9(B:Nat):∀(o:List Nat) (c:Nat),(ju B o c).length=o.length
 | [],_=>rfl
 |o::l,c=>by
  unfold ju;split
  .rfl
  .simp[w9 B l]
theorem vm(B x:Nat):∀(o b:List Nat) (c:Nat),(RB B x o b c).length=o.length
 |o,[],c=>by cases o<;>exact w9 B _ c
 | [],_::_,_=>rfl
 |o::l,y::b,c=>by simp[RB,vm B x l b]
theorem C9{B:Nat}(H:2<=B):∀(o:List Nat) (c:Nat),lok B o=true->aq B o+c<B ^ o.length->aq B (ju B o c)=aq B o+c/\lok B (ju B o c)=true
 | [],c,_,h=>by simp only[aq,List.length_nil,Nat.pow_zero] at h;simp only[ju,aq];exact⟨by omega,rfl⟩
 |o::l,c,ho,h=>by
  unfold ju;split
  next Z=>subst Z;exact⟨by omega,ho⟩
  .rw[di,Ar,Cs] at ho
   have X:=Nat.mod_add_div (c+o) B;rw[aq,List.length_cons,Nat.pow_succ,SP (B ^ l.length)] at h;have V:aq B l+(c+o) / B<B ^ l.length:=by
    have:B*(aq B l+(c+o) / B)<B*B ^ l.length:=by rw[Nat.mul_add];omega
    exact Nat.lt_of_mul_lt_mul_left this
   obtain⟨U,S⟩:=C9 H l _ ho.2 V;rw[aq,aq,U,di,S,Nat.mul_add];refine⟨by omega,?_⟩;simp[Nat.mod_lt (c+o) (show 0<B by omega)]
theorem Da{B:Nat}(H:2<=B)(x:Nat):∀(o b:List Nat) (c:Nat),lok B o=true->aq B o+x*aq B b+c<B ^ o.length->
  b.length<=o.length->aq B (RB B x o b c)=aq B o+x*aq B b+c/\lok B (RB B x o b c)=true
 |o,[],c,ho,h,_=>by
  simp only[aq,Nat.mul_zero,Nat.add_zero] at h |-;have:RB B x o [] c=ju B o c:=by cases o<;>rfl
  rw[this];exact C9 H o c ho h
 | [],y::b,c,_,_,hl=>by simp at hl
 |o::l,y::b,c,ho,h,hl=>by
  rw[di,Ar,Cs] at ho;have Z:=Nat.mod_add_div (c+(o+x*y)) B;have e:x*(y+B*aq B b)=x*y+B*(x*aq B b):=by rw[Nat.mul_add,<-QQk,<-QQk,SP x B]
  rw[aq,aq,e,List.length_cons,Nat.pow_succ,SP (B ^ l.length)] at h;have X:aq B l+x*aq B b+(c+(o+x*y)) / B<B ^ l.length:=by
   have:B*(aq B l+x*aq B b+(c+(o+x*y)) / B)<B*B ^ l.length:=by rw[Nat.mul_add,Nat.mul_add];omega
   exact Nat.lt_of_mul_lt_mul_left this
  obtain⟨V,U⟩:=Da H x l b _ ho.2 X (by simpa using hl);rw[RB,aq,V,di,U,aq,aq,e,Nat.mul_add,Nat.mul_add];refine⟨by omega,?_⟩;simp[Nat.mod_lt (c+(o+x*y)) (show 0<B by omega)]
def sE(B:Nat):List Nat->List Nat->List Nat->List Nat
 | [],_,o=>o
 |x::a,b,o=>match RB B x o b 0 with
  | []=>[]
  |d::r=>d::sE B a b r
theorem Fy{B:Nat}(H:2<=B):∀(a b o:List Nat),lok B o=true->aq B o+aq B a*aq B b<B ^ o.length->a.length+b.length<=o.length->
  aq B (sE B a b o)=aq B o+aq B a*aq B b/\lok B (sE B a b o)=true/\(sE B a b o).length=o.length
 | [],b,o,ho,h,_=>by simp only[sE,aq,Nat.zero_mul,Nat.add_zero];exact⟨trivial,ho,trivial⟩
 |x::a,b,o,ho,h,hl=>by
  have e:(x+B*aq B a)*aq B b=x*aq B b+B*(aq B a*aq B b):=by rw[Nat.add_mul,QQk]
  rw[aq,e] at h;have V :a.length+1+b.length<=o.length:=by simpa using hl
  obtain⟨r1,r2⟩:=Da H x o b 0 ho (by omega) (by omega);have Z:=vm B x o b 0;unfold sE;split
  next X=>rw[X] at Z;simp at Z;omega
  .rename_i d r X
   rw[X] at r1 r2 Z;rw[di,Ar,Cs] at r2;simp only[List.length_cons] at Z;rw[aq] at r1;have U:aq B r+aq B a*aq B b<B ^ r.length:=by
    have:B*(aq B r+aq B a*aq B b)<B*B ^ r.length:=by rw[SP B (B ^ r.length),<-Nat.pow_succ,show r.length.succ=o.length from Z,Nat.mul_add];omega
    exact Nat.lt_of_mul_lt_mul_left this
   obtain⟨S,R,Q⟩:=Fy H a b r r2.2 U (by omega);rw[aq,S,di,R,List.length_cons,Q,aq,e,Nat.mul_add];exact⟨by omega,by simp[r2.1],Z⟩
theorem Rp(H:2<=B){a:List Nat}(I:lok B a=true)(J:lok B b=true):
  aq B (sE B a b (List.replicate (a.length+b.length+1) 0))=aq B a*aq B b/\lok B (sE B a b (List.replicate (a.length+b.length+1) 0))=true/\
   (sE B a b (List.replicate (a.length+b.length+1) 0)).length=a.length+b.length+1:=by
 have X:∀n,aq B (List.replicate n 0)=0:=by
  intro n;induction n with
  |zero=>rfl
  |succ n ih=>rw[List.replicate_succ,aq,ih];simp
 have Z:∀n,lok B (List.replicate n 0)=true:=by intro n;unfold lok;rw[List.all_eq_true];intro d V;rw[List.mem_replicate] at V;simp[V.2];omega
 have h:aq B a*aq B b<B ^ (a.length+b.length+1):=by have U:=gN I;have S:=gN J;have h3:aq B a*aq B b<B ^ a.length*B ^ b.length:=Nat.mul_lt_mul_of_lt_of_lt U S;rw[<-Nat.pow_add] at h3;have R:B ^ (a.length+b.length)<=B ^ (a.length+b.length+1):=L9 (by omega) (by omega);omega
 have:=Fy H a b (List.replicate (a.length+b.length+1) 0) (Z _) (by rw[X,QQY,QXa];exact h) (by rw[QXa];omega)
 rwa [X,QQY,QXa] at this
def fZ(B d:Nat):List Nat->List Nat×Nat
 | []=>([],0)
 |x::l=>let p:=fZ B d l;((p.2*B+x) / d::p.1,(p.2*B+x)%d)
theorem CL{B d:Nat}(hd:0<d)(H:d<B):∀l:List Nat,lok B l=true->(fZ B d l).2<d/\aq B (fZ B d l).1*d+(fZ B d l).2=aq B l/\lok B (fZ B d l).1=true/\(fZ B d l).1.length=l.length
 | [],_=>by simp[fZ,aq,lok,hd]
 |x::l,h=>by
  rw[di,Ar,Cs] at h;obtain⟨X,V,U,S⟩:=CL hd H l h.2;simp only[fZ];have Z:=Nat.mod_add_div ((fZ B d l).2*B+x) d;refine⟨Nat.mod_lt _ hd,?_,?_,by simp[S]⟩
  .rw[aq,aq,<-V,Nat.add_mul,Nat.mul_add]
   rw[SP d] at Z;rw[QQk,SP B (fZ B d l).2];omega
  .rw[di,Ar,Cs]
   refine⟨?_,U⟩;rw[Nat.div_lt_iff_lt_mul hd];have h3:((fZ B d l).2+1)*B<=d*B:=QQe _ X;rw[Nat.add_mul] at h3;rw[SP B d];omega
theorem WA{p D top r b q:Nat}(hr:r<(D+1)*p)(H:top*p<=b)(hq:q*b<=r)(I:0<top):q<=D / top:=by
 rw[Nat.le_div_iff_mul_le I];have X:q*(top*p)<=q*b:=Nat.mul_le_mul_left _ H;have Z:(q*top)*p<(D+1)*p:=by rw[QQk];omega
 have:=Nat.lt_of_mul_lt_mul_right Z;omega
end Go.Eng
namespace Go.Proofs
open Go.Eng
open Tryz
variable{A:List Nat}
theorem sh{n:Nat}(h:A[n]? =some 0):bd (A.take (n+1))=bd (A.take n):=by rw[List.take_add_one,h];exact jy _
theorem sg{n d:Nat}(h:A[n]? =some d)(hd:d≠0):bd (A.take (n+1))=A.take (n+1):=by rw[List.take_add_one,h];exact Fw hd _
variable{K:Nat}{O:afu}{lv:Code->List Nat}
theorem Ez(A:List Nat)(W:A.length<=1000000000)(J:A.length<K){b:Code}(I:ah f253=[b])(H:lv b=[0]):
  ∃F:Env->Bool->Env,∀Z d,aa Z 0=.slice 0 0 A.length none->
   aO (aL prog) lv O K 21 1 true (.loop b) ⟨Z,[.cells false 1 (iN .u64 A)],d⟩=some (.exit 0,⟨F Z d,[.cells false 1 (iN .u64 A)],d⟩)/\aa (F Z d) 0=.slice 0 0 (bd A).length none:=by
 refine bG H (fun Z=>aa Z 0=.slice 0 0 A.length none) (fun _ M =>aa M 0=.slice 0 0 (bd A).length none) ?_;clear H;intro Z d G;simp[ah,aw,f253] at I;have S:au [0] (ae b) Z ((0,.slice 0 0 A.length none)::Z)=au [0] (ae b) Z Z:=by simp[au,G]
 rw[<-S];refine bZ (α:=Nat) (fun n=>⟨au [0] (ae b) Z ((0,.slice 0 0 n none)::Z),[.cells false 1 (iN .u64 A)],d⟩) id (fun n=>n<=A.length/\bd (A.take n)=bd A) (.exit 0) _ d _ (by simp) ?_ K A.length ⟨Es _,by rw[V1]⟩ J;rintro n ⟨hn1,hn2⟩;clear S;subst I;cases n with
 |zero=>
  right;rw[<-hn2];simp[bd]
 |succ n=>
  have D:n<A.length:=by omega
  obtain⟨x,V⟩:∃x,A[n]? =some x:=⟨A[n],by simp[D]⟩
  have R:IntKind.i64.wrap (n:Int)=(n:Int):=af;have Q:(n:Int)<(n:Int)+1:=by omega
  have N:0<(n:Int)+1:=by omega
  by_cases X:x=0
  .subst X
   left;refine⟨n,?_⟩;have h3:(n:Int)<=(n:Int)+1:=by omega
   have U:n+1<=A.length:=by omega
   simp[R,Q,N,h3,U,V];exact⟨by omega,by rw[<-sh V];exact hn2⟩
  .right
   rw[<-hn2,sg V X];have U:min (n+1) A.length=n+1:=by omega
   simp[R,Q,N,U,V,X]
theorem Qb(A:List Nat)(H:A.length<=1000000000):bz prog 253 [.slice 0 0 A.length none] [.cells false 1 (iN .u64 A)] (.slice 0 0 (bd A).length none) [.cells false 1 (iN .u64 A)]:=by
 have X:bq prog 253=some f253:=by kernel_rfl
 obtain⟨b,Z⟩:∃b,ah f253=[b]:=⟨_,rfl⟩
 obtain⟨F,V⟩:=Ez (O:=bC) (K:=A.length+1) (lv:=fun _=>[0]) A H (by omega) Z rfl;simp[ah,aw,f253] at Z;subst Z;refine fQ (lv:=(fun _=>[0])) (K:=(A.length+1)) (ar _) ?_;simp[ad,X,f253,V]
variable{X Y:List Nat}
theorem T2{B n a b:Nat}(hX:lok B X=true)(I:lok B Y=true)(C':X.length=Y.length)(hd:X.drop (n+1)=Y.drop (n+1))(H:X[n]? =some a)(J:Y[n]? =some b)(W:a≠b):
  j9 (aq B X) (aq B Y)=if a<b then -1 else 1:=by
 have F:n<X.length:=gL H;have U:X=X.take n++([a]++X.drop (n+1)):=by
  conv=>lhs;rw[<-List.take_append_drop (n+1) X,List.take_add_one,H]
  simp
 have S:Y=Y.take n++([b]++Y.drop (n+1)):=by
  conv=>lhs;rw[<-List.take_append_drop (n+1) Y,List.take_add_one,J]
  simp
 have R:=gN (jx hX n);have Q:=gN (jx I n);have Z:(X.take n).length=n:=by simp;omega
 have V:(Y.take n).length=n:=by simp;omega
 rw[Z] at R;rw[V] at Q;have N:aq B X=aq B (X.take n)+B ^ n*(a+B*aq B (X.drop (n+1))):=by
  conv=>lhs;rw[U,gS,gS,Z]
  simp[aq]
 have M:aq B Y=aq B (Y.take n)+B ^ n*(b+B*aq B (X.drop (n+1))):=by
  conv=>lhs;rw[S,gS,gS,V,<-hd]
  simp[aq]
 rw[N,M];generalize B*aq B (X.drop (n+1))=D;generalize B ^ n=p at*;split
 .rename_i G
  have:p*(a+D+1)<=p*(b+D):=Nat.mul_le_mul_left _ (by omega);rw[Nat.mul_add,Nat.mul_one] at this;unfold j9;rw[if_pos (by omega)]
 .rename_i G
  have:p*(b+D+1)<=p*(a+D):=Nat.mul_le_mul_left _ (by omega);rw[Nat.mul_add,Nat.mul_one] at this;unfold j9;rw[if_neg (by omega),if_pos (by omega)]
theorem Lp{n a:Nat}(h:X.drop (n+1)=Y.drop (n+1))(H:X[n]? =some a)(I:Y[n]? =some a):X.drop n=Y.drop n:=by have Z:n<X.length:=gL H;have V:n<Y.length:=gL I;rw[LU Z,LU V,h];have:=(Hi.1 H).2;have:=(Hi.1 I).2;simp_all
theorem BT(A B:List Nat)(W:lok 1000000000 A=true)(hB:lok 1000000000 B=true)(hl:A.length<=1000000000)(I:A.length=B.length)(hK:A.length<K){b:Code}(J:ah f249=[b])(H:lv b=[5]):
  ∃F:Env->Bool->Env,∀Z d,(aa Z 0=.slice 0 0 A.length none/\aa Z 1=.slice 1 0 A.length none/\aa Z 5=.int .i64 ((A.length:Int)-1))->
   aO (aL prog) lv O K 41 2 true (.loop b) ⟨Z,[.cells false 1 (iN .u64 A),.cells false 1 (iN .u64 B)],d⟩=some (if A=B then .exit 0 else .ret,⟨F Z d,[.cells false 1 (iN .u64 A),.cells false 1 (iN .u64 B)],d⟩)/\
    (A≠B->aa (F Z d) 4=.int .i64 (j9 (aq 1000000000 A) (aq 1000000000 B))):=by
 refine bG H (fun Z=>aa Z 0=.slice 0 0 A.length none/\aa Z 1=.slice 1 0 A.length none/\aa Z 5=.int .i64 ((A.length:Int)-1)) (fun _ m =>A≠B->aa m 4=.int .i64 (j9 (aq 1000000000 A) (aq 1000000000 B))) ?_;clear H;rintro Z d ⟨h0,h1,h5⟩;simp[ah,aw,f249] at J;have u:au [5] (ae b) Z ((5,.int .i64 ((A.length:Int)-1))::Z)=au [5] (ae b) Z Z:=by simp[au,h5]
 rw[<-u];refine bZ (α:=Nat) (fun n=>⟨au [5] (ae b) Z ((5,.int .i64 ((n:Int)-1))::Z),[.cells false 1 (iN .u64 A),.cells false 1 (iN .u64 B)],d⟩) id (fun n=>n<=A.length/\A.drop n=B.drop n) (if A=B then .exit 0 else .ret) _ d _ (by split<;>simp) ?_ K A.length ⟨Es _,by rw[List.drop_length,I,List.drop_length]⟩ hK;rintro n ⟨hn1,hn2⟩;clear u;subst J;cases n with
 |zero=>
  right;rw[List.drop_zero,List.drop_zero] at hn2;simp[hn2]
 |succ n=>
  have M:n<A.length:=by omega
  have U:n<B.length:=by omega
  obtain⟨x,C,S⟩:=dp M;obtain⟨y,G,R⟩:=dp U;have j:(((n+1:Nat):Int)-1)=(n:Int):=by omega
  have e2:IntKind.i64.wrap ((n:Int)-1)=(n:Int)-1:=af;rw[j];by_cases Q:x=y
  .left
   subst Q;refine⟨n,?_⟩;simp[h0,h1,S,R,M,U,e2];exact⟨by omega,Lp hn2 C G⟩
  .right
   have o:A≠B:=by rintro rfl;rw[C] at G;cases G;exact Q rfl
   have D:=T2 W hB I hn2 C G Q;have N :¬((x:Int)=(y:Int)):=by omega
   by_cases V:x<y
   .rw[if_pos V] at D
    simp[h0,h1,S,R,M,U,N,V,o,D]
   .rw[if_neg V] at D
    simp[h0,h1,S,R,M,U,N,V,o,D]
theorem MN(A B:List Nat)(H:lok 1000000000 A=true)(I:lok 1000000000 B=true)(J:A.length<=1000000000)(tA:bd A=A)(W:bd B=B):
  bz prog 249 [.slice 0 0 A.length none,.slice 1 0 B.length none] [.cells false 1 (iN .u64 A),.cells false 1 (iN .u64 B)] (.int .i64 (j9 (aq 1000000000 A) (aq 1000000000 B))) [.cells false 1 (iN .u64 A),.cells false 1 (iN .u64 B)]:=by
 have R:bq prog 249=some f249:=by kernel_rfl
 obtain⟨b,Q⟩:∃b,ah f249=[b]:=⟨_,rfl⟩
 refine fQ (lv:=(fun _=>[5])) (K:=(A.length+1)) (ar _) ?_;have D:dig 1000000000 (aq 1000000000 A)=A:=by rw[dW (by omega) H,tA]
 have C:dig 1000000000 (aq 1000000000 B)=B:=by rw[dW (by omega) I,W]
 by_cases N:A.length=B.length
 .have Z:=BT (O:=bC) (K:=A.length+1) (lv:=fun _=>[5]) A B H I J N (by omega) Q rfl
  simp[ah,aw,f249] at Q;subst Q;obtain⟨F,Z⟩:=Z;have y:IntKind.i64.wrap ((B.length:Int)-1)=(B.length:Int)-1:=af;by_cases V:A=B
  .subst V
   have U:j9 (aq 1000000000 A) (aq 1000000000 A)=0:=by unfold j9;simp
   rw[if_pos rfl] at Z;simp[ad,R,f249,Z,y,U]
  .rw[if_neg V] at Z
   simp only[N] at Z;simp[ad,R,f249,Z,N,y,V]
 .have S :¬((A.length:Int)=B.length):=by omega
  by_cases M:A.length<B.length
  .have G:aq 1000000000 A<aq 1000000000 B:=dV (B:=1000000000) (by omega) (by rw[D,C];exact M)
   have U:j9 (aq 1000000000 A) (aq 1000000000 B)= -1:=by unfold j9;rw[if_pos G]
   simp[ad,R,f249,S,M,U]
  .have G:aq 1000000000 B<aq 1000000000 A:=dV (B:=1000000000) (by omega) (by rw[D,C];omega)
   have U:j9 (aq 1000000000 A) (aq 1000000000 B)=1:=by unfold j9;rw[if_neg (by omega),if_pos G]
   simp[ad,R,f249,S,M,U]
theorem lF(l:List Nat):l.take (bd l).length=bd l:=(kM l).symm
variable{M:Mem}{x:AV}
theorem MY(H:A.length<=1000000000)(hx:afO .u64 M x A):∃b,x=.slice b 0 A.length none/\bz prog 253 [x] M (.slice b 0 (bd A).length none) M:=by obtain⟨b,e,h⟩:=bz.ag2 (new:=[]) (rest:=[]) rfl rfl (Qb A H) hx;refine⟨b,e,?_⟩;simpa [AV.ren,back] using h
variable{y:AV}
theorem H3{A B:List Nat}(H:lok 1000000000 A=true)(I:lok 1000000000 B=true)(J:A.length<=1000000000)(tA:bd A=A)(W:bd B=B)(hx:afO .u64 M x A)(hy:afO .u64 M y B):
  bz prog 249 [x,y] M (.int .i64 (j9 (aq 1000000000 A) (aq 1000000000 B))) M:=by
 obtain⟨b,c,Z,V,h⟩:=bz.agq (new:=[]) rfl (MN A B H I J tA W) hx hy;simpa [AV.ren] using h
noncomputable def bP:afu:=fun c Z M=>match c,Z with
 |.fn 253,[x]=>match x,bl .u64 M x with
  |.slice b _ _ _,some A=>if A.length<=1000000000 then some ⟨.slice b 0 (bd A).length none,none,[]⟩ else none
  |_,_=>none
 |.fn 249,[x,y]=>match bl .u64 M x,bl .u64 M y with
  |some A,some B=>if lok 1000000000 A=true/\lok 1000000000 B=true/\A.length<=1000000000/\bd A=A/\bd B=B then some ⟨.int .i64 (j9 (aq 1000000000 A) (aq 1000000000 B)),none,[]⟩ else none
  |_,_=>none
 |_,_=>none
theorem ja:afs prog bP:=by
 have V:∀c Z M r,bP c Z M=some r->(∃f,c=.fn f/\bz prog f Z M r.v (r.mem M))/\r.pre=none:=by
  intro c Z M r h;unfold bP at h;split at h
  .split at h
   .rename_i S
    split at h
    .rename_i Q
     cases h;obtain⟨b,e,h⟩:=MY Q (br S);cases e;exact⟨⟨_,rfl,by simpa [afw.mem] using h⟩,rfl⟩
    .cases h
   .cases h
  .split at h
   .rename_i S N
    split at h
    .rename_i G
     obtain⟨F,D,C,B,u⟩:=G;cases h;exact⟨⟨_,rfl,by simpa [afw.mem] using H3 F D C B u (br S) (br N)⟩,rfl⟩
    .cases h
   .cases h
  .cases h
 refine⟨fun f Z M r h=>?_,fun b Z M r h=>?_,fun c Z M r p h R=>?_⟩
 .obtain⟨⟨o,e,U⟩,_⟩:=V _ _ _ _ h
  cases e;exact U
 .obtain⟨⟨o,e,U⟩,_⟩:=V _ _ _ _ h
  cases e
 .obtain⟨_,U⟩:=V _ _ _ _ h
  rw[U] at R;cases R
def iy(X Y:List Nat):Nat->List Nat->Mem
 |0,_=>[.cells false 1 (iN .u64 X),.cells false 1 (iN .u64 Y),.cells true 1 []]
 |_+1,done=>[.cells false 1 (iN .u64 X),.cells false 1 (iN .u64 Y),.y9,.cells true 1 (iN .u64 done)]
def ia:Nat->AV
 |0=>.slice 2 0 0 none
 |i+1=>.slice 3 0 (i+1) none
theorem jY(X Y:List Nat)(i:Nat)(done:List Nat):iy X Y (i+1) done=[.cells false 1 (iN .u64 X),.cells false 1 (iN .u64 Y),.y9,.cells true 1 (iN .u64 done)]:=rfl
theorem lI(X Y:List Nat):(iy X Y 0 []).length=3:=rfl
theorem jZ(i:Nat):ia (i+1)=.slice 3 0 (i+1) none:=rfl
theorem bF{α:Type}{p q:α->Prop}{r:Prop}(hr:r)(h:∃s,p s/\q s):∃s,p s/\q s/\r:=let ⟨s,a,b⟩:=h;⟨s,a,b,hr⟩
theorem Et(X Y A B:List Nat)(I J:Nat)(hs:(I=0/\J=1/\X=A/\Y=B)\/(I=1/\J=0/\X=B/\Y=A))(hA:lok 1000000000 A=true)(hB:lok 1000000000 B=true)(hl:A.length<=1000000000)(C':B.length<=A.length)(hK:A.length<K){b:Code}(W:ah f248=[b])(H:lv b=[22,5,6]):
  ∃F:Env->Bool->Env,∀Z d,(aa Z 1=.slice J 0 B.length none/\aa Z 20=.slice I 0 A.length none/\aa Z 21=.int .i64 A.length/\aa Z 5=.slice 2 0 0 none/\aa Z 6=.int .u64 0/\aa Z 22=.int .i64 0)->
   aO (aL prog) lv O K 53 2 true (.loop b) ⟨Z,iy X Y 0 [],d⟩=some (.exit 0,⟨F Z d,iy X Y A.length ((uY 1000000000 A B 0).take A.length),d⟩)/\
    (aa (F Z d) 5=ia A.length/\aa (F Z d) 6=.int .u64 (((uY 1000000000 A B 0).getD A.length 0:Nat):Int)):=by
 refine bG H (fun Z=>aa Z 1=.slice J 0 B.length none/\aa Z 20=.slice I 0 A.length none/\aa Z 21=.int .i64 A.length/\aa Z 5=.slice 2 0 0 none/\aa Z 6=.int .u64 0/\aa Z 22=.int .i64 0)
  (fun _ m =>aa m 5=ia A.length/\aa m 6=.int .u64 (((uY 1000000000 A B 0).getD A.length 0:Nat):Int)) ?_
 clear H;rintro Z d ⟨h1,h20,h21,h5,h6,h22⟩;simp[ah,aw,f248] at W;have j:au [22,5,6] (ae b) Z ((22,.int .i64 ((0:Nat):Int))::(5,ia 0)::(6,.int .u64 ((0:Nat):Int))::Z)=au [22,5,6] (ae b) Z Z:=by simp[au,h5,h6,h22,ia]
 rw[<-j];refine bZ (α:=Nat×List Nat×Nat) (fun a=>⟨au [22,5,6] (ae b) Z ((22,.int .i64 (a.1:Int))::(5,ia a.1)::(6,.int .u64 (a.2.2:Int))::Z),iy X Y a.1 a.2.1,d⟩) (fun a=>A.length-a.1)
  (fun a=>a.1<=A.length/\a.2.1.length=a.1/\a.2.2<=1/\a.2.1++uY 1000000000 (A.drop a.1) (B.drop a.1) a.2.2=uY 1000000000 A B 0) (.exit 0) _ d _ (by simp) ?_ K (0,[],0) ⟨Nat.zero_le _,rfl,Nat.zero_le _,rfl⟩ (by simpa using hK)
 rintro ⟨i,done,c⟩ ⟨hi,hd,hc,H1⟩;simp only at hi hd hc H1;clear j;subst W;by_cases C:i=A.length
 .right
  subst C;rw[List.drop_length,uY] at H1;rw[<-H1,<-hd];simp only[List.take_left'];simp[h21,hd]
 .left
  have N:i<A.length:=by omega
  obtain⟨x,hx,U⟩:=dp N;have hxb:=eK hA hx;have eA:A.drop i=x::A.drop (i+1):=by rw[LU N,U]
  have w0:IntKind.i64.wrap 1=1:=by decide
  have w1:IntKind.i64.wrap ((i:Int)+1)=(i:Int)+1:=af;have hI:(i:Int)<(A.length:Int):=by omega
  have G:(i+1)*8<=140737488355328:=by omega
  have D:i+1<=140737488355328:=by omega
  have ht:(iN .u64 done).take i=iN .u64 done:=An (by simp[hd]);have hM:0<i->iy X Y i done=[.cells false 1 (iN .u64 X),.cells false 1 (iN .u64 Y),.y9,.cells true 1 (iN .u64 done)]:=fun h=>by cases i with
   |zero=>omega
   |succ i=>rfl
  have hO:0<i->ia i=.slice 3 0 i none:=fun h=>by cases i with
   |zero=>omega
   |succ i=>rfl
  by_cases V:i<B.length
  .obtain⟨y,hy,S⟩:=dp V
   have hyb:=eK hB hy;have u:B.drop i=y::B.drop (i+1):=by rw[LU V,S]
   rw[eA,u,uY,List.headD_cons,List.tail_cons] at H1;obtain⟨s,R⟩:=xE (α:=Nat) (c+x+y);rw[<-R] at H1;have w2:IntKind.u64.wrap ((c:Int)+(x:Int))=(c:Int)+(x:Int):=dc (by omega) (by omega);have w3:IntKind.u64.wrap ((c:Int)+(x:Int)+(y:Int))=(s:Int):=by rw[dc (by omega) (by omega)];omega
   have w4:(s:Int).tmod 1000000000=(s:Int)%1000000000:=Bc s 1000000000;have w5:IntKind.u64.wrap ((s:Int) / 1000000000)=(s:Int) / 1000000000:=dc (by omega) (by omega);refine⟨(i+1,done++[s%1000000000],s / 1000000000),?_⟩;refine bF (r:=_/\_) (show(i+1<=A.length/\(done++[s%1000000000]).length=i+1/\s / 1000000000<=1/\(done++[s%1000000000])++uY 1000000000 (A.drop (i+1)) (B.drop (i+1)) (s / 1000000000)=uY 1000000000 A B 0)/\A.length-(i+1)<A.length-i by refine⟨⟨by omega,by simp[hd],by omega,?_⟩,by omega⟩;rw[<-H1];simp) ?_
   clear H1;rcases hs with⟨rfl,rfl,rfl,rfl⟩ | ⟨rfl,rfl,rfl,rfl⟩<;>rcases P1 i with rfl | hpos;all_goals first
    |(have Q:=GT hd;subst Q;simp[iy,ia,h1,h20,h21,U,S,N,V,w0,w2,w3,w4,w5,cD];done)
    |simp[hM hpos,hO hpos,jY,jZ,lI,h1,h20,h21,U,S,hI,G,D,N,V,hd,w1,w2,w3,w4,w5,ht,dJ,cD]
  .have u:B.drop i=[]:=List.drop_eq_nil_of_le (by omega)
   have o:B.drop (i+1)=[]:=List.drop_eq_nil_of_le (by omega);rw[eA,u,uY] at H1;simp only[List.headD_nil,List.tail_nil,Nat.add_zero] at H1;obtain⟨s,R⟩:=xE (α:=Nat) (c+x);rw[<-R] at H1;have w3:IntKind.u64.wrap ((c:Int)+(x:Int))=(s:Int):=by rw[dc (by omega) (by omega)];omega
   have w4:(s:Int).tmod 1000000000=(s:Int)%1000000000:=Bc s 1000000000;have w5:IntKind.u64.wrap ((s:Int) / 1000000000)=(s:Int) / 1000000000:=dc (by omega) (by omega);refine⟨(i+1,done++[s%1000000000],s / 1000000000),?_⟩;refine bF (r:=_/\_) (show(i+1<=A.length/\(done++[s%1000000000]).length=i+1/\s / 1000000000<=1/\(done++[s%1000000000])++uY 1000000000 (A.drop (i+1)) (B.drop (i+1)) (s / 1000000000)=uY 1000000000 A B 0)/\A.length-(i+1)<A.length-i by refine⟨⟨by omega,by simp[hd],by omega,?_⟩,by omega⟩;rw[<-H1,o];simp) ?_
   clear H1;rcases hs with⟨rfl,rfl,rfl,rfl⟩ | ⟨rfl,rfl,rfl,rfl⟩<;>rcases P1 i with rfl | hpos;all_goals first
    |(have Q:=GT hd;subst Q;simp[iy,ia,h1,h20,h21,U,N,V,w0,w3,w4,w5,cD];done)
    |simp[hM hpos,hO hpos,jY,jZ,lI,h1,h20,h21,U,hI,G,D,N,V,hd,w1,w3,w4,w5,ht,dJ,cD]
theorem Cx(B:Nat):∀(a b:List Nat) (c:Nat),(uY B a b c).length=a.length+1
 | [],_,_=>rfl
 |x::a,b,c=>by rw[uY,List.length_cons,Cx B a];rfl
theorem OI{B:Nat}(H:2<=B){a b:List Nat}(I:lok B a=true)(J:lok B b=true)(W:b.length<=a.length):bd (uY B a b 0)=dig B (aq B a+aq B b):=by rw[<-dW H (OW H a b 0 I J (by omega)),LH B a b 0 W,Nat.add_zero]
theorem EP{l:List Nat}{n:Nat}(h:l.length=n+1):l.take n++[l.getD n 0]=l:=by
 have Z:n<l.length:=by omega
 have:l.getD n 0=l[n]:=by simp[List.getD,Z]
 rw[this];have V:l.take (n+1)=l:=An (by omega);rw[List.take_add_one,LB Z] at V;exact V
theorem wk(X Y A B:List Nat)(H I:Nat)(hs:(H=0/\I=1/\X=A/\Y=B/\¬A.length<B.length)\/(H=1/\I=0/\X=B/\Y=A/\B.length<A.length))(hA:lok 1000000000 A=true)(hB:lok 1000000000 B=true)(hl:A.length<=100000000)(Z':B.length<=A.length):
  ad (aL prog) (fun _=>[22,5,6]) (bq prog) bP (A.length+1) 248 [.slice 0 0 X.length none,.slice 1 0 Y.length none] [.cells false 1 (iN .u64 X),.cells false 1 (iN .u64 Y)]=
   some ⟨.slice 2 0 (bd (uY 1000000000 A B 0)).length none,none,[.cells true 1 (iN .u64 (uY 1000000000 A B 0))]⟩:=by
 have m:bq prog 248=some f248:=by kernel_rfl
 obtain⟨b,j⟩:∃b,ah f248=[b]:=⟨_,rfl⟩
 have G:=Cx 1000000000 A B 0;have R:=EP G;obtain⟨F,S⟩:=Et (O:=bP) (K:=A.length+1) (lv:=fun _=>[22,5,6]) X Y A B H I (by rcases hs with⟨a,b,c,d,_⟩ | ⟨a,b,c,d,_⟩;exact .inl ⟨a,b,c,d⟩;exact .inr ⟨a,b,c,d⟩) hA hB (by omega) Z' (by omega) j rfl;simp[ah,aw,f248] at j;subst j;obtain⟨Z,W⟩:=xE (α:=Int) ((A.length:Int)+1);have w1:IntKind.i64.wrap ((A.length:Int)+1)=Z:=by rw[W];exact af
 have h0:0<=Z:=by omega
 have h1:8*Z<=281474976710656:=by omega
 have h2:Z<=281474976710656:=by omega
 obtain⟨V,D⟩:=xE (uY 1000000000 A B 0);rcases P1 A.length with hz | hpos
 .have J:=GT hz
  have hB0:B=[]:=GT (by omega);subst J;subst hB0;simp only[List.length_nil,iy,ia,uY,QQY,Int.cast_ofNat_Int,List.take_zero,List.getD_cons_zero] at S;have o:bl .u64 [.cells false 1 [],.cells false 1 [],.y9,.cells true 1 [.int .u64 0],.cells true 1 [.int .u64 0]] (.slice 4 0 1 none)=some [0]:=by rfl
  rcases hs with⟨rfl,rfl,rfl,rfl,N⟩ | ⟨rfl,rfl,rfl,rfl,N⟩
  .have w0:IntKind.i64.wrap 1=1:=by decide
   simp only[OP] at S;simp[ad,m,f248,S,bP,o,uY,bd,cD,w0]
  .simp at N
 .have hM:∀done,iy X Y A.length done=[.cells false 1 (iN .u64 X),.cells false 1 (iN .u64 Y),.y9,.cells true 1 (iN .u64 done)]:=fun done=>by
   cases h:A.length with
   |zero=>omega
   |succ i=>rfl
  have hO:ia A.length=.slice 3 0 A.length none:=by
   cases h:A.length with
   |zero=>omega
   |succ i=>rfl
  rw[hM,hO] at S;simp only[iy] at S;obtain⟨U,C⟩:=xE ((uY 1000000000 A B 0).take A.length);obtain⟨u,aew⟩:=xE ((uY 1000000000 A B 0).getD A.length 0);rw[<-C,<-aew] at S R;rw[<-D] at R G |-;have Q:U.length=A.length:=by rw[C,M0,<-D,G];omega
  have h3:(A.length+1)*8<=140737488355328:=by omega
  have h4:A.length<=140737488355327:=by omega
  have h5:(iN .u64 U).take A.length=iN .u64 U:=An (by simp[Q]);have o:bl .u64 [.cells false 1 (iN .u64 X),.cells false 1 (iN .u64 Y),.y9,.y9,.cells true 1 [.int .u64 (u:Int)],.cells true 1 (iN .u64 V)] (.slice 5 0 (A.length+1) none)=some V:=
   aW rfl (by simp[G]) (An (by simp[G]))
  have h7:V.length<=1000000000:=by omega
  have h8:iN .u64 U++[.int .u64 (u:Int)]=iN .u64 V:=by rw[XN,R]
  rcases hs with⟨rfl,rfl,rfl,rfl,N⟩ | ⟨rfl,rfl,rfl,rfl,N⟩
  .simp[ad,m,f248,N,w1,h0,h1,h2,S,bP,Q,h3,h4,h5,o,h7,h8]
  .simp[ad,m,f248,N,w1,h0,h1,h2,S,bP,Q,h3,h4,h5,o,h7,h8]
theorem CS{k:IntKind}{l r:List Nat}(h:l <+: r):iN k l <+: iN k r:=by obtain⟨t,rfl⟩:=h;exact⟨iN k t,by rw[<-dJ]⟩
theorem dK(l:List Nat):bd l <+: l:=by rw[kM l];exact List.take_prefix _ _
theorem MP{A B:List Nat}(H:lok 1000000000 A=true)(I:lok 1000000000 B=true)(J:A.length<=100000000)(W:B.length<=100000000)(hx:afO .u64 M x A)(hy:afO .u64 M y B):
  bz prog 248 [x,y] M (.slice M.length 0 (dig 1000000000 (aq 1000000000 A+aq 1000000000 B)).length none) (M++[.cells true 1 (iN .u64 (dig 1000000000 (aq 1000000000 A+aq 1000000000 B)))]):=by
 have V:∃Z,bd Z=dig 1000000000 (aq 1000000000 A+aq 1000000000 B)/\bz prog 248 [.slice 0 0 A.length none,.slice 1 0 B.length none] [.cells false 1 (iN .u64 A),.cells false 1 (iN .u64 B)] (.slice 2 0 (bd Z).length none) [.cells false 1 (iN .u64 A),.cells false 1 (iN .u64 B),.cells true 1 (iN .u64 Z)]:=by
  by_cases U:A.length<B.length
  .refine⟨uY 1000000000 B A 0,by rw[OI (by omega) I H (by omega),QXX],?_⟩
   have:=(aB ak (aI _) ja (aQ _) (wk A B B A 1 0 (.inr ⟨rfl,rfl,rfl,rfl,U⟩) I H W (by omega))).1;simpa [afw.mem] using this
  .refine⟨uY 1000000000 A B 0,OI (by omega) H I (by omega),?_⟩
   have:=(aB ak (aI _) ja (aQ _) (wk A B A B 0 1 (.inl ⟨rfl,rfl,rfl,rfl,U⟩) H I J (by omega))).1;simpa [afw.mem] using this
 obtain⟨Z,S,h⟩:=V;have R:=bz.ahn (m:=[.cells false 1 (iN .u64 A),.cells false 1 (iN .u64 B)]) h (CS (dK Z));obtain⟨b,c,rfl,rfl,h3⟩:=bz.agq (new:=[.cells true 1 (iN .u64 (bd Z))]) rfl R hx hy;rw[S] at h3;simpa [AV.ren,back] using h3
theorem DL(B:Nat):∀(a b:List Nat) (c:Nat),(vz B a b c).length=a.length
 | [],_,_=>rfl
 |x::a,b,c=>by unfold vz;split<;>simp[DL B a]
theorem W3(B x:Nat)(a:List Nat)(c:Nat):vz B (x::a) [] c=if x<c then (x+B-c)::vz B a [] 1 else (x-c)::vz B a [] 0:=rfl
theorem BO(A B:List Nat)(hA:lok 1000000000 A=true)(hB:lok 1000000000 B=true)(hl:A.length<=1000000000)(C':B.length<=A.length)(hK:A.length<K){b:Code}(hb:ah f250=[b])(H:lv b=[15,5,6]):
  ∃F:Env->Bool->Env,∀V d,(aa V 1=.slice 1 0 B.length none/\aa V 13=.slice 0 0 A.length none/\aa V 14=.int .i64 A.length/\aa V 5=.slice 2 0 0 none/\aa V 6=.int .u64 0/\aa V 15=.int .i64 0)->
   aO (aL prog) lv O K 45 2 true (.loop b) ⟨V,iy A B 0 [],d⟩=some (.exit 0,⟨F V d,iy A B A.length (vz 1000000000 A B 0),d⟩)/\aa (F V d) 5=ia A.length:=by
 refine bG H (fun V=>aa V 1=.slice 1 0 B.length none/\aa V 13=.slice 0 0 A.length none/\aa V 14=.int .i64 A.length/\aa V 5=.slice 2 0 0 none/\aa V 6=.int .u64 0/\aa V 15=.int .i64 0)
  (fun _ AC =>aa AC 5=ia A.length) ?_
 clear H;rintro V d ⟨h1,h20,h21,h5,h6,h22⟩;simp[ah,aw,f250] at hb;have hn:au [15,5,6] (ae b) V ((15,.int .i64 ((0:Nat):Int))::(5,ia 0)::(6,.int .u64 ((0:Nat):Int))::V)=au [15,5,6] (ae b) V V:=by simp[au,h5,h6,h22,ia]
 rw[<-hn];refine bZ (α:=Nat×List Nat×Nat) (fun a=>⟨au [15,5,6] (ae b) V ((15,.int .i64 (a.1:Int))::(5,ia a.1)::(6,.int .u64 (a.2.2:Int))::V),iy A B a.1 a.2.1,d⟩) (fun a=>A.length-a.1)
  (fun a=>a.1<=A.length/\a.2.1.length=a.1/\a.2.2<=1/\a.2.1++vz 1000000000 (A.drop a.1) (B.drop a.1) a.2.2=vz 1000000000 A B 0) (.exit 0) _ d _ (by simp) ?_ K (0,[],0) ⟨Nat.zero_le _,rfl,Nat.zero_le _,rfl⟩ (by simpa using hK)
 rintro ⟨i,done,c⟩ ⟨hi,hd,hc,H1⟩;simp only at hi hd hc H1;clear hn;subst hb;by_cases J:i=A.length
 .right
  subst J;rw[List.drop_length,vz,List.append_nil] at H1;rw[<-H1];simp[h21]
 .left
  have Q:i<A.length:=by omega
  obtain⟨x,hx,S⟩:=dp Q;have hxb:=eK hA hx;have eA:A.drop i=x::A.drop (i+1):=by rw[LU Q,S]
  have w0:IntKind.i64.wrap 1=1:=by decide
  have w1:IntKind.i64.wrap ((i:Int)+1)=(i:Int)+1:=af;have o:(i:Int)<(A.length:Int):=by omega
  have N:(i+1)*8<=140737488355328:=by omega
  have G:i+1<=140737488355328:=by omega
  have m:(iN .u64 done).take i=iN .u64 done:=An (by simp[hd]);have j:0<i->iy A B i done=[.cells false 1 (iN .u64 A),.cells false 1 (iN .u64 B),.y9,.cells true 1 (iN .u64 done)]:=fun h=>by cases i with
   |zero=>omega
   |succ i=>rfl
  have W:0<i->ia i=.slice 3 0 i none:=fun h=>by cases i with
   |zero=>omega
   |succ i=>rfl
  have D:i=0->done=[]:=fun h=>GT (by omega)
  by_cases U:i<B.length
  .obtain⟨y,hy,R⟩:=dp U
   have hyb:=eK hB hy;have I:B.drop i=y::B.drop (i+1):=by rw[LU U,R]
   rw[eA,I,vz,List.headD_cons,List.tail_cons] at H1;obtain⟨s,hs'⟩:=xE (α:=Nat) (c+y);rw[<-hs'] at H1;have w2:IntKind.u64.wrap ((c:Int)+(y:Int))=(s:Int):=by rw[dc (by omega) (by omega)];omega
   by_cases Z:x<s
   .rw[if_pos Z] at H1
    obtain⟨r,C⟩:=xE (α:=Nat) (x+1000000000-s);rw[<-C] at H1;have w3:IntKind.u64.wrap ((x:Int)+1000000000)=(x:Int)+1000000000:=dc (by omega) (by omega);have w4:IntKind.u64.wrap ((x:Int)+1000000000-(s:Int))=(r:Int):=by rw[dc (by omega) (by omega)];omega
    refine⟨(i+1,done++[r],1),?_⟩;refine bF (r:=_/\_) (show(i+1<=A.length/\(done++[r]).length=i+1/\1<=1/\(done++[r])++vz 1000000000 (A.drop (i+1)) (B.drop (i+1)) 1=vz 1000000000 A B 0)/\A.length-(i+1)<A.length-i by refine⟨⟨by omega,by simp[hd],by omega,?_⟩,by omega⟩;rw[<-H1];simp) ?_
    clear H1;rcases P1 i with rfl | hpos
    .obtain rfl:=D rfl
     simp[iy,ia,h1,h20,h21,S,R,Q,U,w0,w2,w3,w4,Z,cD]
    .simp[j hpos,W hpos,jY,jZ,lI,h1,h20,h21,S,R,o,N,G,Q,U,hd,w1,w2,w3,w4,Z,m,dJ,cD]
   .rw[if_neg Z] at H1
    obtain⟨r,C⟩:=xE (α:=Nat) (x-s);rw[<-C] at H1;have w4:IntKind.u64.wrap ((x:Int)-(s:Int))=(r:Int):=by rw[dc (by omega) (by omega)];omega
    refine⟨(i+1,done++[r],0),?_⟩;refine bF (r:=_/\_) (show(i+1<=A.length/\(done++[r]).length=i+1/\0<=1/\(done++[r])++vz 1000000000 (A.drop (i+1)) (B.drop (i+1)) 0=vz 1000000000 A B 0)/\A.length-(i+1)<A.length-i by refine⟨⟨by omega,by simp[hd],by omega,?_⟩,by omega⟩;rw[<-H1];simp) ?_
    clear H1;rcases P1 i with rfl | hpos
    .obtain rfl:=D rfl
     simp[iy,ia,h1,h20,h21,S,R,Q,U,w0,w2,w4,Z,cD]
    .simp[j hpos,W hpos,jY,jZ,lI,h1,h20,h21,S,R,o,N,G,Q,U,hd,w1,w2,w4,Z,m,dJ,cD]
  .have I:B.drop i=[]:=List.drop_eq_nil_of_le (by omega)
   have u:B.drop (i+1)=[]:=List.drop_eq_nil_of_le (by omega);rw[eA,I,W3] at H1;by_cases Z:x<c
   .rw[if_pos Z] at H1
    obtain⟨r,C⟩:=xE (α:=Nat) (x+1000000000-c);rw[<-C] at H1;have w3:IntKind.u64.wrap ((x:Int)+1000000000)=(x:Int)+1000000000:=dc (by omega) (by omega);have w4:IntKind.u64.wrap ((x:Int)+1000000000-(c:Int))=(r:Int):=by rw[dc (by omega) (by omega)];omega
    refine⟨(i+1,done++[r],1),?_⟩;refine bF (r:=_/\_) (show(i+1<=A.length/\(done++[r]).length=i+1/\1<=1/\(done++[r])++vz 1000000000 (A.drop (i+1)) (B.drop (i+1)) 1=vz 1000000000 A B 0)/\A.length-(i+1)<A.length-i by refine⟨⟨by omega,by simp[hd],by omega,?_⟩,by omega⟩;rw[<-H1,u];simp) ?_
    clear H1;rcases P1 i with rfl | hpos
    .obtain rfl:=D rfl
     simp[iy,ia,h1,h20,h21,S,Q,U,w0,w3,w4,Z,cD]
    .simp[j hpos,W hpos,jY,jZ,lI,h1,h20,h21,S,o,N,G,Q,U,hd,w1,w3,w4,Z,m,dJ,cD]
   .rw[if_neg Z] at H1
    obtain⟨r,C⟩:=xE (α:=Nat) (x-c);rw[<-C] at H1;have w4:IntKind.u64.wrap ((x:Int)-(c:Int))=(r:Int):=by rw[dc (by omega) (by omega)];omega
    refine⟨(i+1,done++[r],0),?_⟩;refine bF (r:=_/\_) (show(i+1<=A.length/\(done++[r]).length=i+1/\0<=1/\(done++[r])++vz 1000000000 (A.drop (i+1)) (B.drop (i+1)) 0=vz 1000000000 A B 0)/\A.length-(i+1)<A.length-i by refine⟨⟨by omega,by simp[hd],by omega,?_⟩,by omega⟩;rw[<-H1,u];simp) ?_
    clear H1;rcases P1 i with rfl | hpos
    .obtain rfl:=D rfl
     simp[iy,ia,h1,h20,h21,S,Q,U,w0,w4,Z,cD]
    .simp[j hpos,W hpos,jY,jZ,lI,h1,h20,h21,S,o,N,G,Q,U,hd,w1,w4,Z,m,dJ,cD]
theorem El(A B:List Nat)(H:lok 1000000000 A=true)(I:lok 1000000000 B=true)(hl:A.length<=100000000)(J:B.length<=A.length):
  ad (aL prog) (fun _=>[15,5,6]) (bq prog) bP (A.length+1) 250 [.slice 0 0 A.length none,.slice 1 0 B.length none] [.cells false 1 (iN .u64 A),.cells false 1 (iN .u64 B)]=
   some ⟨.slice 2 0 (bd (vz 1000000000 A B 0)).length none,none,[.cells true 1 (iN .u64 (vz 1000000000 A B 0))]⟩:=by
 have C:bq prog 250=some f250:=by kernel_rfl
 obtain⟨b,S⟩:∃b,ah f250=[b]:=⟨_,rfl⟩
 have U:=DL 1000000000 A B 0;obtain⟨F,V⟩:=BO (O:=bP) (K:=A.length+1) (lv:=fun _=>[15,5,6]) A B H I (by omega) J (by omega) S rfl;simp[ah,aw,f250] at S;subst S;obtain⟨u,o⟩:=xE (α:=Int) (A.length:Int);have h0:0<=(A.length:Int):=by omega
 have m:8*(A.length:Int)<=281474976710656:=by omega
 have j:(A.length:Int)<=281474976710656:=by omega
 obtain⟨Z,R⟩:=xE (vz 1000000000 A B 0);rw[<-R] at U V |-;rcases P1 A.length with hz | hpos
 .have Q:=GT hz
  have N:B=[]:=GT (by omega);subst Q;subst N;have G:Z=[]:=GT (by simpa using U);subst G;simp only[List.length_nil,iy,ia,QQY,Int.cast_ofNat_Int,OP] at V;have D:bl .u64 [.cells false 1 [],.cells false 1 [],.cells true 1 []] (.slice 2 0 0 none)=some []:=by rfl
  simp[ad,C,f250,V,bP,D,bd]
 .have W:∀done,iy A B A.length done=[.cells false 1 (iN .u64 A),.cells false 1 (iN .u64 B),.y9,.cells true 1 (iN .u64 done)]:=fun done=>by
   cases h:A.length with
   |zero=>omega
   |succ i=>rfl
  have hO:ia A.length=.slice 3 0 A.length none:=by
   cases h:A.length with
   |zero=>omega
   |succ i=>rfl
  rw[W,hO] at V;simp only[iy] at V;have D:bl .u64 [.cells false 1 (iN .u64 A),.cells false 1 (iN .u64 B),.y9,.cells true 1 (iN .u64 Z)] (.slice 3 0 A.length none)=some Z:=
   aW rfl (by simp[U]) (An (by simp[U]))
  have h7:Z.length<=1000000000:=by omega
  simp[ad,C,f250,m,j,V,bP,D,h7]
theorem H2{A B:List Nat}(H:lok 1000000000 A=true)(I:lok 1000000000 B=true)(W:A.length<=100000000)(J:B.length<=A.length)(hle:aq 1000000000 B<=aq 1000000000 A)(hx:afO .u64 M x A)(hy:afO .u64 M y B):
  bz prog 250 [x,y] M (.slice M.length 0 (dig 1000000000 (aq 1000000000 A-aq 1000000000 B)).length none) (M++[.cells true 1 (iN .u64 (dig 1000000000 (aq 1000000000 A-aq 1000000000 B)))]):=by
 obtain⟨S,Z⟩:=Db (B:=1000000000) (by omega) A B 0 H I (by omega) J (by omega);have V:bd (vz 1000000000 A B 0)=dig 1000000000 (aq 1000000000 A-aq 1000000000 B):=by rw[<-dW (by omega) Z];congr 1;omega
 have:=(aB ak (aI _) ja (aQ _) (El A B H I W J)).1;simp only[afw.mem,Option.getD_none,List.cons_append,List.nil_append] at this;have U:=bz.ahn (m:=[.cells false 1 (iN .u64 A),.cells false 1 (iN .u64 B)]) this (CS (dK _));obtain⟨b,c,rfl,rfl,h3⟩:=bz.agq (new:=[.cells true 1 (iN .u64 (bd (vz 1000000000 A B 0)))]) rfl U hx hy;rw[V] at h3;simpa [AV.ren,back] using h3
end Go.Proofs
