/- See C54. -/
import Derived.Test.YtffdedmakncfmaaGreatDoorC09
set_option linter.all false
namespace Go.Eng
def nr(B x:Nat):List Nat→List Nat→Nat→List Nat×Nat
 |o,[],c=>(o,c)
 | [],_::_,c=>([],c)
 |o::l,y::b,c=>((c+(o+x*y))%B::(nr B x l b ((c+(o+x*y)) / B)).1,(nr B x l b ((c+(o+x*y)) / B)).2)
theorem Bv(B x:Nat)(o:List Nat)(c:Nat):nr B x o [] c=(o,c):=by cases o<;>rfl
theorem DM(B x:Nat):∀(o b:List Nat) (c:Nat),(nr B x o b c).1.length=o.length
 |o,[],c=>by rw[Bv]
 | [],_::_,_=>rfl
 |o::l,y::b,c=>by simp[nr,DM B x l b]
theorem U0(B x:Nat):∀(o b:List Nat) (c:Nat),b.length≤o.length→SG B x o b c=(nr B x o b c).1.take b.length++jx B ((nr B x o b c).1.drop b.length) (nr B x o b c).2
 |o,[],c,_=>by rw[Bv];cases o<;>rfl
 | [],_::_,_,h=>by simp at h
 |o::l,y::b,c,h=>by rw[SG,nr,U0 B x l b _ (by simpa using h)];simp
theorem MM{B:Nat}(H:2≤B){x:Nat}(I:x<B):∀(o b:List Nat) (c:Nat),lok B o=true→lok B b=true→c<B→b.length≤o.length→
  lok B (nr B x o b c).1=true∧(nr B x o b c).2<B∧au B (nr B x o b c).1+B ^ b.length*(nr B x o b c).2=au B o+x*au B b+c
 |o,[],c,ho,_,hc,_=>by rw[Bv];simp only[au,List.length_nil,Nat.pow_zero,Nat.mul_zero,Nat.one_mul];exact⟨ho,hc,by omega⟩
 | [],_::_,_,_,_,_,h=>by simp at h
 |o::l,y::b,c,ho,hb,hc,h=>by
  rw[cL,Bool.and_eq_true,decide_eq_true_eq] at ho hb;have Z:x*y≤(B-1)*(B-1):=Nat.mul_le_mul (by omega) (by omega);have X:(c+(o+x*y)) / B<B:=by
   rw[Nat.div_lt_iff_lt_mul (by omega)];obtain⟨q,rfl⟩:∃q,B=q+1:=⟨B-1,by omega⟩
   have O:(q+1)*(q+1)=q*q+q+q+1:=by rw[Nat.add_mul,Nat.mul_add];omega
   simp only[Nat.add_sub_cancel] at Z;omega
  obtain⟨V,U,S⟩:=MM H I l b _ ho.2 hb.2 X (by simpa using h);have R:=Nat.mod_add_div (c+(o+x*y)) B;have e:x*(y+B*au B b)=x*y+B*(x*au B b):=by rw[Nat.mul_add,←Nat.mul_assoc,←Nat.mul_assoc,Nat.mul_comm x B]
  have Q:B ^ (b.length+1)*(nr B x l b ((c+(o+x*y)) / B)).2=B*(B ^ b.length*(nr B x l b ((c+(o+x*y)) / B)).2):=by rw[Nat.pow_succ,Nat.mul_comm (B ^ b.length) B,Nat.mul_assoc]
  simp only[nr];refine⟨?_,U,?_⟩
  ·rw[cL,V];simp[Nat.mod_lt (c+(o+x*y)) (show 0<B by omega)]
  ·rw[au,au,au,e,List.length_cons,Q]
   have:=congrArg (B*·) S;simp only[Nat.mul_add] at this;omega
theorem OV(B:Nat)(l:List Nat):jx B l 0=l:=by cases l<;>simp[jx]
theorem tW(B:Nat){l:List Nat}{n:Nat}(y:n≤l.length):au B l=au B (l.take n)+B ^ n*au B (l.drop n):=by
 conv=>lhs;rw[←List.take_append_drop n l]
 rw[ib,List.length_take,Nat.min_eq_left y]
variable{B b m r:Nat}
theorem WI{D top:Nat}(y:2≤B)(hm:(dig B b).length=m)(I:1≤m)(H:(dig B b)[m-1]? =some top)(hr:r<B*b)(J:b≤r)(W:((dig B r).length=m∧(dig B r)[m-1]? =some D)∨((dig B r).length=m+1∧∃h l,(dig B r)[m]? =some h∧(dig B r)[m-1]? =some l∧D=h*B+l)):
  0<top∧r / b≤D / top∧r / b≤B-1:=by
 have C:=bC y b;have u:=bT y b;have Z:=bC y r;have X:=bT y r;have G:m-1<(dig B b).length:=by omega
 have F:(dig B b)[m-1]=top:=(List.getElem?_eq_some_iff.1 H).2;have o:b=au B ((dig B b).take (m-1))+B ^ (m-1)*top:=by have:=tW B (l:=dig B b) (n:=m-1) (by omega);rw[C,List.drop_eq_getElem_cons G,F,List.drop_of_length_le (by omega)] at this;simpa [au] using this
 have V:0<top:=by
  rcases Nat.eq_zero_or_pos top with h | h
  ·have S:=bY y b
   have U:aU (dig B b)=aU ((dig B b).take (m-1)):=by
    conv=>lhs;rw[←List.take_append_drop (m-1) (dig B b),List.drop_eq_getElem_cons G,F,List.drop_of_length_le (by omega),h]
    exact jD _
   have h3:=cS ((dig B b).take (m-1));rw[←U,S,List.length_take] at h3;omega
  ·exact h
 have R:0<b:=by
  rcases Nat.eq_zero_or_pos b with h | h
  ·subst h;simp at hr
  ·exact h
 have j:r / b*b≤r:=Nat.div_mul_le_self r b;have Q:top*B ^ (m-1)≤b:=by rw[Nat.mul_comm];omega
 have O:r<(D+1)*B ^ (m-1):=by
  rcases W with⟨S,U⟩ | ⟨S,h,l,U,h3,rfl⟩
  ·have N:m-1<(dig B r).length:=by omega
   have e:=tW B (l:=dig B r) (n:=m-1) (by omega);rw[Z,List.drop_eq_getElem_cons N,(List.getElem?_eq_some_iff.1 U).2,List.drop_of_length_le (by omega)] at e;have M:=gK (jC X (m-1));rw[List.length_take,Nat.min_eq_left (by omega)] at M;simp[au] at e;rw[Nat.add_mul,Nat.one_mul,Nat.mul_comm D];omega
  ·have N:m-1<(dig B r).length:=by omega
   have L:m-1+1<(dig B r).length:=by omega
   have K :m-1+1=m:=by omega
   have e:=tW B (l:=dig B r) (n:=m-1) (by omega);rw[Z,List.drop_eq_getElem_cons N,(List.getElem?_eq_some_iff.1 h3).2,List.drop_eq_getElem_cons L,List.drop_of_length_le (by omega)] at e;have Y:(dig B r)[m-1+1]=h:=by have:=(List.getElem?_eq_some_iff.1 U).2;simp only[K];exact this
   rw[Y] at e;have M:=gK (jC X (m-1));rw[List.length_take,Nat.min_eq_left (by omega)] at M;simp only[au,Nat.mul_zero,Nat.add_zero] at e;rw[Nat.mul_add] at e;have e6:(h*B+l+1)*B ^ (m-1)=B ^ (m-1)*l+B ^ (m-1)*(B*h)+B ^ (m-1):=by rw[Nat.add_mul,Nat.add_mul,Nat.one_mul,Nat.mul_comm (h*B),Nat.mul_comm l,Nat.mul_comm h B];omega
   omega
 refine⟨V,WH O Q j V,?_⟩;have:r / b<B:=by rw[Nat.div_lt_iff_lt_mul R];exact hr
 omega
theorem yQ(y:2≤B)(H:(dig B b).length=m)(hr:r<B*b)(I:b≤r):(dig B r).length=m∨(dig B r).length=m+1:=by
 have X:m≤(dig B r).length:=by
  rcases Nat.lt_or_ge (dig B r).length m with h | h
  ·have:=dI y (m:=r) (n:=b) (by omega);omega
  ·exact h
 have Z:r<B ^ (m+1):=by have:=tP y b;rw[H] at this;rw[Nat.pow_succ,Nat.mul_comm];exact Nat.lt_of_lt_of_le hr (Nat.mul_le_mul_left _ (by omega))
 have:=ff y Z;omega
theorem Ht{a:Nat}(y:2≤B)(H:a<B):aU (a::dig B r)=dig B (a+B*r):=by rw[←dJ y (show lok B (a::dig B r)=true by rw[cL,bT y];simp[H]),au,bC y]
end Go.Eng
namespace Go.Proofs
open Go.Eng
open Tryz
def nh(A B o:List Nat):Mem:=[.cells false 1 (iN .u64 A),.cells false 1 (iN .u64 B),.cells true 1 (iN .u64 o)]
theorem Uk(k:IntKind)(l:List Nat)(i n:Nat)(h:i<l.length):(iN k l).take i++.int k (n:Int)::(iN k l).drop (i+1)=iN k (l.take i++n::l.drop (i+1)):=by simp[iA,sH,dn,ca]
variable{i n:Nat}{l:List Nat}
theorem QA(h:i<l.length):(l.take i++n::l.drop (i+1)).take (i+1)=l.take i++[n]:=by
 have:(l.take i).length=i:=by simp;omega
 rw[List.take_append,this];have e:i+1-i=1:=by omega
 rw[e,List.take_of_length_le (by omega)];rfl
theorem P0(h:i<l.length):(l.take i++n::l.drop (i+1)).drop (i+1)=l.drop (i+1):=by
 have:(l.take i).length=i:=by simp;omega
 rw[List.drop_append,this];have e:i+1-i=1:=by omega
 rw[e,List.drop_of_length_le (by omega)];rfl
theorem FB(h:i<l.length):(l.take i++n::l.drop (i+1)).length=l.length:=by simp;omega
variable{K:Nat}{O:afF}{lv:Code→List Nat}
theorem AI(A B H:List Nat)(i x:Nat)(hx:x<1000000000)(W:lok 1000000000 B=true)(Y:lok 1000000000 H=true)(hl:H.length≤1000000000)(hn:i+B.length<H.length)(hK:B.length<K){b1 b b3:Code}(J:ah f141=[b1,b,b3])(I:lv b=[28,8]):
  ∃F:Env→Bool→Env,∀Z d,(ad Z 5=.slice 2 0 H.length none∧ad Z 6=.int .i64 i∧ad Z 7=.int .u64 x∧ad Z 26=.slice 1 0 B.length none∧ad Z 27=.int .i64 B.length∧ad Z 28=.int .i64 0∧ad Z 8=.int .u64 0)→
   aW (bh prog) lv O K 79 2 true (.loop b) ⟨Z,nh A B H,d⟩=some (.exit 2,⟨F Z d,nh A B (H.take i++(nr 1000000000 x (H.drop i) B 0).1),d⟩)∧
    (ad (F Z d) 8=.int .u64 (((nr 1000000000 x (H.drop i) B 0).2:Nat):Int)∧ad (F Z d) 5=ad Z 5∧ad (F Z d) 6=ad Z 6∧ad (F Z d) 1=ad Z 1∧ad (F Z d) 21=ad Z 21):=by
 refine bj I (fun Z=>ad Z 5=.slice 2 0 H.length none∧ad Z 6=.int .i64 i∧ad Z 7=.int .u64 x∧ad Z 26=.slice 1 0 B.length none∧ad Z 27=.int .i64 B.length∧ad Z 28=.int .i64 0∧ad Z 8=.int .u64 0)
  (fun Z U =>ad U 8=.int .u64 (((nr 1000000000 x (H.drop i) B 0).2:Nat):Int)∧ad U 5=ad Z 5∧ad U 6=ad Z 6∧ad U 1=ad Z 1∧ad U 21=ad Z 21) ?_
 clear I;rintro Z d ⟨h5,h6,h7,h26,h27,h28,h8⟩;simp[ah,aE,f141] at J;obtain⟨_,J,_⟩:=J;have S:aA [28,8] (ae b) Z ((28,.int .i64 ((0:Nat):Int))::(8,.int .u64 ((0:Nat):Int))::Z)=aA [28,8] (ae b) Z Z:=by simp[aA,h28,h8]
 rw[←S];refine bz (α:=Nat×List Nat×Nat) (fun a=>⟨aA [28,8] (ae b) Z ((28,.int .i64 (a.1:Int))::(8,.int .u64 (a.2.2:Int))::Z),nh A B a.2.1,d⟩) (fun a=>B.length-a.1)
  (fun a=>a.1≤B.length∧a.2.1.length=H.length∧lok 1000000000 a.2.1=true∧a.2.2<1000000000∧
   a.2.1.take (i+a.1)++(nr 1000000000 x (a.2.1.drop (i+a.1)) (B.drop a.1) a.2.2).1=H.take i++(nr 1000000000 x (H.drop i) B 0).1∧
   (nr 1000000000 x (a.2.1.drop (i+a.1)) (B.drop a.1) a.2.2).2=(nr 1000000000 x (H.drop i) B 0).2) (.exit 2) _ d _ (by simp) ?_ K (0,H,0) ⟨Nat.zero_le _,rfl,Y,by show(0:Nat)<1000000000;omega,rfl,rfl⟩ (by simpa using hK)
 rintro ⟨k,o,c⟩ ⟨hk,hol,hok,hc,J',aaE⟩;simp only at hk hol hok hc J' aaE;clear S;subst J;by_cases M:k=B.length
 ·right
  subst M;rw[List.drop_length,Bv] at J' aaE;simp only[List.take_append_drop] at J';rw[←J',←aaE];simp[h27]
 ·left
  have L:k<B.length:=by omega
  obtain⟨y,m,R⟩:=cO L;have j:=eh W m;have eB:B.drop k=y::B.drop (k+1):=by rw[List.drop_eq_getElem_cons L,R]
  obtain⟨p,hp⟩:=xE (α:=Nat) (i+k);have X:p<o.length:=by omega
  obtain⟨z,hz,Q⟩:=cO X;have hzb:=eh hok hz;have eo:o.drop p=z::o.drop (p+1):=by rw[List.drop_eq_getElem_cons X,Q]
  rw[←hp,eB,eo,nr] at J' aaE;have G:x*y≤999999999*999999999:=Nat.mul_le_mul (by omega) (by omega);obtain⟨s,u⟩:=xE (α:=Nat) (c+(z+x*y));rw[←u] at J' aaE;obtain⟨V,N⟩:=xE (α:=Nat) (x*y);rw[←N] at G u;have D:(x:Int)*(y:Int)=(V:Int):=by rw[N];exact(Int.natCast_mul x y).symm
  have w1:IntKind.i64.wrap ((i:Int)+(k:Int))=(p:Int):=by rw[af];omega
  have w2:IntKind.u64.wrap (V:Int)=(V:Int):=cG (by omega) (by omega);have w3:IntKind.u64.wrap ((z:Int)+(V:Int))=(z:Int)+(V:Int):=cG (by omega) (by omega);have w4:IntKind.u64.wrap ((c:Int)+((z:Int)+(V:Int)))=(s:Int):=by rw[cG (by omega) (by omega)];omega
  have w5:(s:Int).tmod 1000000000=(s:Int)%1000000000:=Bx s 1000000000;have w6:IntKind.u64.wrap ((s:Int) / 1000000000)=(s:Int) / 1000000000:=cG (by omega) (by omega);have w7:IntKind.i64.wrap ((k:Int)+1)=(k:Int)+1:=af;have hI:(p:Int)<(H.length:Int):=by omega
  have C:p+1≤o.length:=X;have hu:=Uk .u64 o p (s%1000000000) X;refine⟨(k+1,o.take p++s%1000000000::o.drop (p+1),s / 1000000000),?_⟩;refine br (r:=_∧_) (show(k+1≤B.length∧(o.take p++s%1000000000::o.drop (p+1)).length=H.length∧lok 1000000000 (o.take p++s%1000000000::o.drop (p+1))=true∧s / 1000000000<1000000000∧
    (o.take p++s%1000000000::o.drop (p+1)).take (i+(k+1))++(nr 1000000000 x ((o.take p++s%1000000000::o.drop (p+1)).drop (i+(k+1))) (B.drop (k+1)) (s / 1000000000)).1=H.take i++(nr 1000000000 x (H.drop i) B 0).1∧
    (nr 1000000000 x ((o.take p++s%1000000000::o.drop (p+1)).drop (i+(k+1))) (B.drop (k+1)) (s / 1000000000)).2=(nr 1000000000 x (H.drop i) B 0).2)∧B.length-(k+1)<B.length-k by
   have hq:i+(k+1)=p+1:=by omega
   rw[hq,QA X,P0 X];refine⟨⟨by omega,by rw[FB X,hol],?_,by omega,?_,aaE⟩,by omega⟩
   ·rw[oS,cL,jC hok,jB hok]
    simp;omega
   ·rw[←J'];simp) ?_
  clear J' aaE;simp[nh,h5,h6,h7,h26,h27,R,Q,hI,L,X,C,D,w1,w2,w3,w4,w5,w6,w7];simp[iA,sH,dn,ca]
theorem AJ(A B y:List Nat)(j0 H:Nat)(ho:lok 1000000000 y=true)(Y:H<1000000000)(hl:y.length≤1000000000)(hj0:j0≤y.length)(I:au 1000000000 (y.drop j0)+H<1000000000 ^ (y.length-j0))(hK:y.length<K){b1 b2 b:Code}(W:ah f141=[b1,b2,b])(J:lv b=[11,8]):
  ∃F:Env→Bool→Env,∀Z d,(ad Z 5=.slice 2 0 y.length none∧ad Z 11=.int .i64 j0∧ad Z 8=.int .u64 H)→
   aW (bh prog) lv O K 79 2 true (.loop b) ⟨Z,nh A B y,d⟩=some (.exit 4,⟨F Z d,nh A B (y.take j0++jx 1000000000 (y.drop j0) H),d⟩)∧
    (ad (F Z d) 5=ad Z 5∧ad (F Z d) 1=ad Z 1∧ad (F Z d) 21=ad Z 21):=by
 refine bj J (fun Z=>ad Z 5=.slice 2 0 y.length none∧ad Z 11=.int .i64 j0∧ad Z 8=.int .u64 H)
  (fun Z R =>ad R 5=ad Z 5∧ad R 1=ad Z 1∧ad R 21=ad Z 21) ?_
 clear J;rintro Z d ⟨h5,h11,h8⟩;simp[ah,aE,f141] at W;obtain⟨_,_,W⟩:=W;have U:aA [11,8] (ae b) Z ((11,.int .i64 (j0:Int))::(8,.int .u64 (H:Int))::Z)=aA [11,8] (ae b) Z Z:=by simp[aA,h11,h8]
 rw[←U];refine bz (α:=Nat×List Nat×Nat) (fun a=>⟨aA [11,8] (ae b) Z ((11,.int .i64 (a.1:Int))::(8,.int .u64 (a.2.2:Int))::Z),nh A B a.2.1,d⟩) (fun a=>y.length-a.1)
  (fun a=>a.1≤y.length∧a.2.1.length=y.length∧lok 1000000000 a.2.1=true∧a.2.2<1000000000∧au 1000000000 (a.2.1.drop a.1)+a.2.2<1000000000 ^ (y.length-a.1)∧
   a.2.1.take a.1++jx 1000000000 (a.2.1.drop a.1) a.2.2=y.take j0++jx 1000000000 (y.drop j0) H) (.exit 4) _ d _ (by simp) ?_ K (j0,y,H) ⟨hj0,rfl,ho,Y,I,rfl⟩ (by simp;omega)
 rintro ⟨j,o,c⟩ ⟨hj,hol,hok,hc,hf,J'⟩;simp only at hj hol hok hc hf J';clear U;subst W;by_cases V:c=0
 ·right
  subst V;rw[OV,List.take_append_drop] at J';rw[←J'];simp
 ·left
  have X:j<o.length:=by
   rcases Nat.lt_or_ge j y.length with h | h
   ·omega
   ·have:y.length-j=0:=by omega
    rw[this,Nat.pow_zero] at hf;omega
  obtain⟨z,L,S⟩:=cO X;have G:=eh hok L;have M:o.drop j=z::o.drop (j+1):=by rw[List.drop_eq_getElem_cons X,S]
  rw[M,jx,if_neg V] at J';rw[M,au] at hf;obtain⟨s,D⟩:=xE (α:=Nat) (c+z);rw[←D] at J';have w4:IntKind.u64.wrap ((c:Int)+(z:Int))=(s:Int):=by rw[cG (by omega) (by omega)];omega
  have w5:(s:Int).tmod 1000000000=(s:Int)%1000000000:=Bx s 1000000000;have w6:IntKind.u64.wrap ((s:Int) / 1000000000)=(s:Int) / 1000000000:=cG (by omega) (by omega);have w7:IntKind.i64.wrap ((j:Int)+1)=(j:Int)+1:=af;have C:(j:Int)<(y.length:Int):=by omega
  have u:j<y.length:=by omega
  have Q:j+1≤o.length:=X;have N:0<c:=by omega
  refine⟨(j+1,o.take j++s%1000000000::o.drop (j+1),s / 1000000000),?_⟩;refine br (r:=_∧_) (show(j+1≤y.length∧(o.take j++s%1000000000::o.drop (j+1)).length=y.length∧lok 1000000000 (o.take j++s%1000000000::o.drop (j+1))=true∧s / 1000000000<1000000000∧
    au 1000000000 ((o.take j++s%1000000000::o.drop (j+1)).drop (j+1))+s / 1000000000<1000000000 ^ (y.length-(j+1))∧
    (o.take j++s%1000000000::o.drop (j+1)).take (j+1)++jx 1000000000 ((o.take j++s%1000000000::o.drop (j+1)).drop (j+1)) (s / 1000000000)=y.take j0++jx 1000000000 (y.drop j0) H)∧y.length-(j+1)<y.length-j by
   rw[QA X,P0 X];refine⟨⟨by omega,by rw[FB X,hol],?_,by omega,?_,?_⟩,by omega⟩
   ·rw[oS,cL,jC hok,jB hok]
    simp;omega
   ·have e:y.length-j=(y.length-(j+1))+1:=by omega
    rw[e,Nat.pow_succ] at hf;generalize 1000000000 ^ (y.length-(j+1))=p at*;omega
   ·rw[←J'];simp) ?_
  clear J' hf I;simp[nh,h5,S,C,X,Q,N,w4,w5,w6,w7];simp[iA,sH,dn,ca]
def eN(c:Code):List Nat:=if (ae c).contains 21 then [21] else if (ae c).contains 28 then [28,8] else [11,8]
theorem Zc{B i x:Nat}{o b:List Nat}(y:i+b.length≤o.length):o.take i++SG B x (o.drop i) b 0=
  (o.take i++(nr B x (o.drop i) b 0).1).take (i+b.length)++jx B ((o.take i++(nr B x (o.drop i) b 0).1).drop (i+b.length)) (nr B x (o.drop i) b 0).2:=by
 have Z:(o.take i).length=i:=by simp;omega
 have X:b.length≤(o.drop i).length:=by rw[List.length_drop];omega
 generalize o.take i=P at*;generalize o.drop i=Q at*;have V:(P++(nr B x Q b 0).1).take (i+b.length)=P++(nr B x Q b 0).1.take b.length:=by rw[List.take_append,List.take_of_length_le (by omega),Z,Nat.add_sub_cancel_left]
 have U:(P++(nr B x Q b 0).1).drop (i+b.length)=(nr B x Q b 0).1.drop b.length:=by rw[List.drop_append,List.drop_of_length_le (by omega),Z,Nat.add_sub_cancel_left,List.nil_append]
 rw[V,U,U0 B x _ _ _ X,List.append_assoc]
theorem AH(A B:List Nat)(n:Nat)(hA:lok 1000000000 A=true)(H:lok 1000000000 B=true)(hl:n≤1000000000)(hn:n=A.length+B.length+1)(hK:n<K){b b2 b3:Code}(y:ah f141=[b,b2,b3]∧eN b=[21]∧eN b2=[28,8]∧eN b3=[11,8]):
  ∃F:Env→Bool→Env,∀Z d,(ad Z 5=.slice 2 0 n none∧ad Z 1=.slice 1 0 B.length none∧ad Z 19=.slice 0 0 A.length none∧ad Z 20=.int .i64 A.length∧ad Z 21=.int .i64 0)→
   aW (bh prog) eN O K 79 2 true (.loop b) ⟨Z,nh A B (List.replicate n 0),d⟩=some (.exit 0,⟨F Z d,nh A B (th 1000000000 A B (List.replicate n 0)),d⟩)∧
    (ad (F Z d) 5=ad Z 5):=by
 refine bj y.2.1 (fun Z=>ad Z 5=.slice 2 0 n none∧ad Z 1=.slice 1 0 B.length none∧ad Z 19=.slice 0 0 A.length none∧ad Z 20=.int .i64 A.length∧ad Z 21=.int .i64 0)
  (fun Z AC =>ad AC 5=ad Z 5) ?_
 rintro Z d ⟨h5,W,h19,h20,h21⟩;have U:=y.1;simp[ah,aE,f141] at U;obtain⟨U,J,I⟩:=U;have D:aA [21] (ae b) Z ((21,.int .i64 ((0:Nat):Int))::Z)=aA [21] (ae b) Z Z:=by simp[aA,h21]
 rw[←D];have hz:au 1000000000 (List.replicate n 0)=0:=by
  clear hn hl hK h5;induction n with
  |zero=>rfl
  |succ n ih=>rw[List.replicate_succ,au,ih]
 have C:lok 1000000000 (List.replicate n 0)=true:=by unfold lok;rw[List.all_eq_true];intro d hd;rw[List.mem_replicate] at hd;simp[hd.2]
 have adq:au 1000000000 A*au 1000000000 B<1000000000 ^ n:=by have W:=gK hA;have h2:=gK H;have h3:au 1000000000 A*au 1000000000 B<1000000000 ^ A.length*1000000000 ^ B.length:=Nat.mul_lt_mul_of_lt_of_lt W h2;rw[←Nat.pow_add] at h3;have h4:1000000000 ^ (A.length+B.length)≤1000000000 ^ n:=Nat.pow_le_pow_right (by omega) (by omega);omega
 refine bz (α:=Nat×List Nat) (fun a=>⟨aA [21] (ae b) Z ((21,.int .i64 (a.1:Int))::Z),nh A B a.2,d⟩) (fun a=>A.length-a.1)
  (fun a=>a.1≤A.length∧a.2.length=n∧lok 1000000000 a.2=true∧au 1000000000 (a.2.drop a.1)+au 1000000000 (A.drop a.1)*au 1000000000 B<1000000000 ^ (n-a.1)∧
   a.2.take a.1++th 1000000000 (A.drop a.1) B (a.2.drop a.1)=th 1000000000 A B (List.replicate n 0)) (.exit 0) _ d _ (by simp) ?_ K (0,List.replicate n 0) ⟨Nat.zero_le _,by simp,C,by simp only[List.drop_zero,Nat.sub_zero];rw[hz];omega,by simp⟩ (by simp;omega)
 rintro ⟨i,o⟩ ⟨hi,hol,hok,hf,J'⟩;simp only at hi hol hok hf J';clear D adq hz C;by_cases hiA:i=A.length
 ·right
  subst hiA;rw[List.drop_length,th,List.take_append_drop] at J';rw[←J'];subst U;simp[h20]
 ·left
  have FS:i<A.length:=by omega
  obtain⟨x,hx,Z7⟩:=cO FS;have u:=eh hA hx;have eA:A.drop i=x::A.drop (i+1):=by rw[List.drop_eq_getElem_cons FS,Z7]
  rw[eA,th] at J';rw[eA,au,Nat.add_mul,Nat.mul_assoc] at hf;have Q:(o.drop i).length=n-i:=by rw[List.length_drop,hol]
  have m:=jB hok i;obtain⟨r1,r2⟩:=Dj (B:=1000000000) (by omega) x (o.drop i) B 0 m (by rw[Q];omega) (by omega);have j:=vW 1000000000 x (o.drop i) B 0;obtain⟨k1,k2,k3⟩:=MM (B:=1000000000) (by omega) u (o.drop i) B 0 m H (by omega) (by omega);have k4:=DM 1000000000 x (o.drop i) B 0;have G:=Zc (B:=1000000000) (x:=x) (o:=o) (b:=B) (i:=i) (by omega);obtain⟨L,S⟩:=xE (o.take i++(nr 1000000000 x (o.drop i) B 0).1);obtain⟨c2,N⟩:=xE ((nr 1000000000 x (o.drop i) B 0).2);have aes:L.length=n:=by rw[S,List.length_append,k4,Q,List.length_take,hol];omega
  have aet:lok 1000000000 L=true:=by rw[S,oS,jC hok,k1];rfl
  have Y:au 1000000000 (L.drop (i+B.length))+c2<1000000000 ^ (L.length-(i+B.length)):=by
   have e1:L.drop (i+B.length)=(nr 1000000000 x (o.drop i) B 0).1.drop B.length:=by rw[S,List.drop_append,List.length_take,hol,List.drop_of_length_le (by simp[hol];omega),List.nil_append];congr 1;omega
   have e2:au 1000000000 (nr 1000000000 x (o.drop i) B 0).1=au 1000000000 ((nr 1000000000 x (o.drop i) B 0).1.take B.length)+1000000000 ^ B.length*au 1000000000 ((nr 1000000000 x (o.drop i) B 0).1.drop B.length):=by
    conv=>lhs;rw[←List.take_append_drop B.length (nr 1000000000 x (o.drop i) B 0).1]
    rw[ib,List.length_take,k4,Q,Nat.min_eq_left (by omega)]
   have e3:n-i=B.length+(L.length-(i+B.length)):=by omega
   rw[e3,Nat.pow_add] at hf;rw[e1,N];have:1000000000 ^ B.length*(au 1000000000 ((nr 1000000000 x (o.drop i) B 0).1.drop B.length)+(nr 1000000000 x (o.drop i) B 0).2)<1000000000 ^ B.length*1000000000 ^ (L.length-(i+B.length)):=by rw[Nat.mul_add];omega
   exact Nat.lt_of_mul_lt_mul_left this
  obtain⟨F2,M⟩:=AI (O:=O) (K:=K) (lv:=eN) A B o i x u H hok (by omega) (by omega) (by omega) y.1 y.2.2.1;obtain⟨F3,X⟩:=AJ (O:=O) (K:=K) (lv:=eN) A B L (i+B.length) c2 aet (by rw[N];exact k2) (by omega) (by omega) Y (by omega) y.1 y.2.2.2;rw[←S,←N] at M G;rw[←G] at X;obtain⟨R,V⟩:=xE (o.take i++SG 1000000000 x (o.drop i) B 0);rw[←V] at X;have aeu:R.length=n:=by rw[V,List.length_append,j,Q,List.length_take,hol];omega
  have aev:lok 1000000000 R=true:=by rw[V,oS,jC hok,r2];rfl
  cases hrl:SG 1000000000 x (o.drop i) B 0 with
  |nil=>rw[hrl] at j;simp at j;omega
  |cons dd rr=>
   rw[hrl] at J' r1 j;simp only at J';have e4:R.take (i+1)=o.take i++[dd]:=by
    rw[V,hrl,List.take_append,List.length_take,hol,List.take_of_length_le (by simp;omega)];have:i+1-min i n=1:=by omega
    rw[this];rfl
   have e5:R.drop (i+1)=rr:=by
    rw[V,hrl,List.drop_append,List.length_take,hol,List.drop_of_length_le (by simp;omega)];have:i+1-min i n=1:=by omega
    rw[this];rfl
   obtain⟨p,hp⟩:=xE (α:=Nat) (i+B.length);have w1:IntKind.i64.wrap ((i:Int)+(B.length:Int))=(p:Int):=by rw[af];omega
   have w2:IntKind.i64.wrap ((i:Int)+1)=(i:Int)+1:=af;have hI:(i:Int)<(A.length:Int):=by omega
   rw[←hp] at X;refine⟨(i+1,R),?_⟩;refine br (r:=_∧_) (show(i+1≤A.length∧R.length=n∧lok 1000000000 R=true∧au 1000000000 (R.drop (i+1))+au 1000000000 (A.drop (i+1))*au 1000000000 B<1000000000 ^ (n-(i+1))∧
     R.take (i+1)++th 1000000000 (A.drop (i+1)) B (R.drop (i+1))=th 1000000000 A B (List.replicate n 0))∧A.length-(i+1)<A.length-i by
    rw[e4,e5];refine⟨⟨by omega,aeu,aev,?_,by rw[←J'];simp⟩,by omega⟩;rw[au] at r1;have e:n-i=(n-(i+1))+1:=by omega
    rw[e,Nat.pow_succ] at hf;generalize 1000000000 ^ (n-(i+1))=q at*;omega) ?_
   rw[hol] at M;rw[aes] at X;clear J' hf Y r1 r2 j k1 k2 k3 k4 G e4 e5 hrl V S N;subst U;subst J;subst I;simp only[nh] at M X;simp[nh,h5,W,h19,h20,Z7,hI,FS,w1,w2,M,X]
theorem EH(A B:List Nat)(y:lok 1000000000 A=true)(H:lok 1000000000 B=true)(J:A.length≤100000000)(I:B.length≤100000000):
  ∃Z,aU Z=dig 1000000000 (au 1000000000 A*au 1000000000 B)∧aa (bh prog) eN (aS prog) bH (A.length+B.length+2) 141 [.slice 0 0 A.length none,.slice 1 0 B.length none] [.cells false 1 (iN .u64 A),.cells false 1 (iN .u64 B)]=
   some ⟨.slice 2 0 (aU Z).length none,none,[.cells true 1 (iN .u64 Z)]⟩:=by
 have L:aS prog 141=some f141:=by kernel_rfl
 obtain⟨b,U,S,N⟩:∃b U S,ah f141=[b,U,S]∧eN b=[21]∧eN U=[28,8]∧eN S=[11,8]:=⟨_,_,_,rfl,by decide,by decide,by decide⟩
 obtain⟨n,R⟩:=xE (A.length+B.length+1);obtain⟨F,Q⟩:=AH (O:=bH) (K:=A.length+B.length+2) A B n y H (by omega) R (by omega) N;obtain⟨t1,t2,t3⟩:=Sx (B:=1000000000) (by omega) y H;rw[←R] at t1 t2 t3;obtain⟨Z,V⟩:=xE (th 1000000000 A B (List.replicate n 0));rw[←V] at t1 t2 t3 Q;refine⟨Z,by rw[←dJ (by omega) t2,t1],?_⟩;obtain⟨X,_⟩:=N;simp[ah,aE,f141] at X;obtain⟨X,_,_⟩:=X;subst X;obtain⟨M,hs1⟩:=xE (α:=Nat) (A.length+B.length);have w1:IntKind.i64.wrap ((A.length:Int)+(B.length:Int))=(M:Int):=by rw[af];omega
 have w2:IntKind.i64.wrap ((M:Int)+1)=(n:Int):=by rw[af];omega
 have o:0≤(n:Int):=by omega
 have G:8*(n:Int)≤281474976710656:=by omega
 have D:(n:Int)≤281474976710656:=by omega
 have C:aZ .u64 [.cells false 1 (iN .u64 A),.cells false 1 (iN .u64 B),.cells true 1 (iN .u64 Z)] (.slice 2 0 n none)=some Z:=
  aP rfl (by simp[t3]) (List.take_of_length_le (by simp[t3]))
 have u:Z.length≤1000000000:=by omega
 clear R hs1 V;simp only[nh] at Q;simp[aa,L,f141,w1,w2,G,D,Q,bH,C,u,sI]
theorem IK{M:Mem}{x y:AV}{A B:List Nat}(I:lok 1000000000 A=true)(J:lok 1000000000 B=true)(W:A.length≤100000000)(H:B.length≤100000000)(Y:af0 .u64 M x A)(hy:af0 .u64 M y B):
  kO prog 141 [x,y] M (.slice M.length 0 (dig 1000000000 (au 1000000000 A*au 1000000000 B)).length none) (M++[.cells true 1 (iN .u64 (dig 1000000000 (au 1000000000 A*au 1000000000 B)))]):=by
 obtain⟨Z,X,h⟩:=EH A B I J W H;have:=(ar aj (aK _) jh (aR _) h).1;simp only[y9.mem,Option.getD_none,List.cons_append,List.nil_append] at this;have V:=kO.ahE (m:=[.cells false 1 (iN .u64 A),.cells false 1 (iN .u64 B)]) this (C8 (dp _));obtain⟨b,c,rfl,rfl,h3⟩:=kO.agM (new:=[.cells true 1 (iN .u64 (aU Z))]) rfl V Y hy;rw[X] at h3;simpa [AV.ren,fj] using h3
theorem Gv{A:List Nat}(Y:A.length=n)(hn:0<n)(hl:n≤1000000000)(I W y m0 eb:Nat)(ob oA:Bool)(M:Nat→Mem)(H:∀j,j≤n→(M j).length=m0)(hs:∀j,j≤n→(M j)[I]? =some (.cells ob eb [.slice W 0 n none]))(hr:∀j,j≤n→(M j)[W]? =some (.cells oA 1 (iN .u64 A)))(J:∀s∈M 0,s.refs m0=[])(hy:∀j,j<n→gk prog y [.int .i64 (j:Int),.int .u64 ((A.getD j 0:Nat):Int)] (M (j+1)) (.bool true) (M j)):
  kO prog 245 [.yield y,.ptr I 0] (M n) (.tuple []) (M 0):=by
 have B:aS prog 245=some f245:=by kernel_rfl
 obtain⟨O,u,R⟩:=jJ (P:=prog) (fun j:Nat=>j<n) (fun _=>.yld y) (fun j=>[.int .i64 (j:Int),.int .u64 ((A.getD j 0:Nat):Int)]) (fun j=>M (j+1)) (fun j=>⟨.bool true,some (M j),[]⟩)
  (fun j o=>⟨by simpa [y9.mem] using hy j o,fun q m=>by cases m;rw[H j (by omega),H (j+1) (by omega)]⟩)
  (fun i j _ _ _ h _=>by
   simp only[List.cons.injEq,AV.int.injEq] at h;have:i=j:=by omega
   rw[this])
 obtain⟨b,S⟩:∃b,ah f245=[b]:=⟨_,rfl⟩
 have loop:∃F:Env→Env,∀Z,(ad Z 0=.yield y∧ad Z 1=.ptr I 0∧ad Z 3=.int .i64 ((n:Int)-1))→
   aW (bh prog) (fun _=>[3]) O (n+1) 19 m0 true (.loop b) ⟨Z,M n,false⟩=some (.exit 0,⟨F Z,M 0,true⟩)∧True:=by
  refine v7 rfl false true (fun Z=>ad Z 0=.yield y∧ad Z 1=.ptr I 0∧ad Z 3=.int .i64 ((n:Int)-1)) (fun _ _=>True) ?_;rintro Z ⟨h0,h1,h3⟩;simp[ah,aE,f245] at S;have X:aA [3] (ae b) Z ((3,.int .i64 ((n:Int)-1))::Z)=aA [3] (ae b) Z Z:=by simp[aA,h3]
  rw[←X];have L:(⟨aA [3] (ae b) Z ((3,.int .i64 ((n:Int)-1))::Z),M n,false⟩:XS)=⟨aA [3] (ae b) Z ((3,.int .i64 ((n:Int)-1))::Z),M n,decide (n<n)⟩:=by simp
  rw[L];refine bz (α:=Nat) (fun k=>⟨aA [3] (ae b) Z ((3,.int .i64 ((k:Int)-1))::Z),M k,decide (k<n)⟩) id (fun k=>k≤n) (.exit 0) (M 0) true (fun _=>True) (by simp) ?_ (n+1) n (Nat.le_refl _) (by simp);intro k hk;clear X L;subst S;cases k with
  |zero=>
   right;simp[hn]
  |succ k=>
   left;have V:k<n:=by omega
   have e1:(((k+1:Nat):Int)-1)=(k:Int):=by omega
   have w1:IntKind.i64.wrap ((k:Int)-1)=(k:Int)-1:=af;have l1:=H k (by omega);have U:=H n (by omega);have Q:=hs (k+1) (by omega);have r1:=hr (k+1) (by omega);have D:=R k V;obtain⟨x,hx,Z7⟩:=cO (l:=A) (i:=k) (by omega);have hg:A.getD k 0=x:=by simp[List.getD,hx]
   rw[hg] at D;rw[e1];refine⟨k,?_⟩;have aew :(k:Int)<(n:Int):=by omega
   simp[h0,h1,w1,l1,U,Q,r1,Z7,Y,V,D];omega
 obtain⟨F,hF⟩:=loop;simp[ah,aE,f245] at S;subst S;have w1:IntKind.i64.wrap ((n:Int)-1)=(n:Int)-1:=af;have U:=H n (by omega);have Q:=hs n (by omega);have N:∃C,aW (bh prog) (fun _=>[3]) O (n+1) f245.ntmps (M n).length true (f245.body.getD .skip) ⟨dC 0 [.yield y,.ptr I 0],M n,false⟩=some (.normal,⟨C,M 0,true⟩):=by simp[f245,Q,w1,U,hF]
 obtain⟨C,N⟩:=N;have:=LP (T:=bh prog) (G:=aS prog) (v:=.tuple []) B rfl (by simp[f245]) (.inl rfl) N rfl (by rw[H 0 (by omega),U]) rfl (by rw[U];exact J);have h2:=(ar aj (aK _) u (aR _) this).1;simpa [y9.mem] using h2
def l9(A:List Nat)(d:Nat)(H:Array Tmp)(I y:Code)(J:Env)(j:Nat):Mem:=
 [.cells false 1 (iN .u64 A),.cells false 1 [.int .u64 (d:Int)],.cells true 0 [.slice 1 0 1 none],.cells true 0 [.slice 4 0 A.length none],
  .cells true 1 (iN .u64 (List.replicate j 0++(fZ 1000000000 d (A.drop j)).1)),.cells true 0 [.int .u64 (((fZ 1000000000 d (A.drop j)).2:Nat):Int)],.cells true 0 [.slice 0 0 A.length none],
  .loop ⟨.ready,none,J,146,H,I,y⟩]
variable{Z8 body:Code}{ps:Array Tmp}
section
variable (A:List Nat)(d:Nat)(hd0:0<d)(hd:d<1000000000)(hA:lok 1000000000 A=true)(hl:A.length≤1000000000)
include A d hd0 hd hA hl
theorem Er(H:ej f157=[(ps,Z8,body)])(y:Env)(h3:ad y 3=.ptr 2 0)(h4:ad y 4=.ptr 3 0)(h6:ad y 6=.ptr 5 0)(I:y.flatMap (fun e=>e.2.refs 8)=[])(j:Nat)(J:j<A.length):
  gk prog 7 [.int .i64 (j:Int),.int .u64 ((A.getD j 0:Nat):Int)] (l9 A d ps Z8 body y (j+1)) (.bool true) (l9 A d ps Z8 body y j):=by
 obtain⟨x,o,Z7⟩:=cO J;have hxb:=eh hA o;have hg:A.getD j 0=x:=by simp[List.getD,o]
 have eA:A.drop j=x::A.drop (j+1):=by rw[List.drop_eq_getElem_cons J,Z7]
 rw[hg];have Z6:cM Z8=true∧cM body=true∧ps= #[27,28]:=by simp[ej,fW,f157] at H;obtain⟨rfl,rfl,rfl⟩:=H;exact⟨by decide,by decide,rfl⟩
 obtain⟨V,U,rfl⟩:=Z6;have M:∀m,tf (rho 8 m) y=y:=fun m=>Pq I
 have Z:(fZ 1000000000 d (A.drop j))=(((fZ 1000000000 d (A.drop (j+1))).2*1000000000+x) / d::(fZ 1000000000 d (A.drop (j+1))).1,((fZ 1000000000 d (A.drop (j+1))).2*1000000000+x)%d):=by rw[eA];rfl
 obtain⟨i1,i2,i3,Y⟩:=CT hd0 hd (A.drop (j+1)) (jB hA _);obtain⟨r,L⟩:=xE ((fZ 1000000000 d (A.drop (j+1))).2);obtain⟨q,G⟩:=xE ((fZ 1000000000 d (A.drop (j+1))).1);rw[←L,←G] at Z;rw[←L] at i1;rw[←G] at Y;have S:l9 A d #[27,28] Z8 body y (j+1)=[.cells false 1 (iN .u64 A),.cells false 1 [.int .u64 (d:Int)],.cells true 0 [.slice 1 0 1 none],.cells true 0 [.slice 4 0 A.length none],
  .cells true 1 (iN .u64 (List.replicate (j+1) 0++q)),.cells true 0 [.int .u64 (r:Int)],.cells true 0 [.slice 0 0 A.length none],.loop ⟨.ready,none,y,146,#[27,28],Z8,body⟩]:=by rw[L,G];rfl
 obtain⟨s,hs⟩:=xE (α:=Nat) (r*1000000000+x);rw[←hs] at Z;have R:l9 A d #[27,28] Z8 body y j=[.cells false 1 (iN .u64 A),.cells false 1 [.int .u64 (d:Int)],.cells true 0 [.slice 1 0 1 none],.cells true 0 [.slice 4 0 A.length none],
  .cells true 1 (iN .u64 (List.replicate j 0++s / d::q)),.cells true 0 [.int .u64 ((s%d:Nat):Int)],.cells true 0 [.slice 0 0 A.length none],.loop ⟨.ready,none,y,146,#[27,28],Z8,body⟩]:=by unfold l9;rw[Z]
 rw[S,R];have hql:q.length=A.length-(j+1):=by rw[Y,List.length_drop]
 have hsd:s / d≤s:=Nat.div_le_self _ _;have hsm:s%d<d:=Nat.mod_lt _ hd0;obtain⟨Q,X⟩:=xE (s / d);obtain⟨W,N⟩:=xE (s%d);have w1:IntKind.u64.wrap ((r:Int)*1000000000)=(r:Int)*1000000000:=cG (by omega) (by omega);have w2:IntKind.u64.wrap ((r:Int)*1000000000+(x:Int))=(s:Int):=by rw[cG (by omega) (by omega)];omega
 have w3:IntKind.u64.wrap ((s:Int).tdiv (d:Int))=(Q:Int):=by rw[xN,←X];exact cG (by omega) (by omega)
 have F :IntKind.u64.wrap ((s:Int) / (d:Int))=(Q:Int):=by rw[←Int.natCast_ediv,←X];exact cG (by omega) (by omega)
 have w4:(s:Int).tmod (d:Int)=(W:Int):=by rw[xO,←N]
 have D:¬d=0:=by omega
 have C:(j:Int)<(A.length:Int):=by omega
 have B:(iN .u64 (List.replicate (j+1) 0++q)).take j++.int .u64 (Q:Int)::(iN .u64 (List.replicate (j+1) 0++q)).drop (j+1)=iN .u64 (List.replicate j 0++Q::q):=by rw[Uk _ _ _ _ (by simp;omega)];congr 1;rw[List.take_append_of_le_length (by simp),List.take_replicate,List.drop_append,List.drop_of_length_le (by simp)];simp
 have u:(List.replicate (j+1) 0++q).take j=List.replicate j 0:=by rw[List.take_append_of_le_length (by simp),List.take_replicate];congr 1;omega
 have hjq:j+1≤(List.replicate (j+1) 0++q).length:=by simp
 rw[←X,←N];have hc:yL (bh prog) (fun _=>[]) cF 1 7 [.int .i64 (j:Int),.int .u64 (x:Int)] [.cells false 1 (iN .u64 A),.cells false 1 [.int .u64 (d:Int)],.cells true 0 [.slice 1 0 1 none],.cells true 0 [.slice 4 0 A.length none],
  .cells true 1 (iN .u64 (List.replicate (j+1) 0++q)),.cells true 0 [.int .u64 (r:Int)],.cells true 0 [.slice 0 0 A.length none],.loop ⟨.ready,none,y,146,#[27,28],Z8,body⟩]=some ⟨.bool true,some [.cells false 1 (iN .u64 A),.cells false 1 [.int .u64 (d:Int)],.cells true 0 [.slice 1 0 1 none],.cells true 0 [.slice 4 0 A.length none],
  .cells true 1 (iN .u64 (List.replicate j 0++Q::q)),.cells true 0 [.int .u64 (W:Int)],.cells true 0 [.slice 0 0 A.length none],.loop ⟨.ready,none,y,146,#[27,28],Z8,body⟩],[]⟩:=by
  clear S R B;simp[yL,V,U];simp[ej,fW,f157] at H;obtain⟨rfl,rfl⟩:=H;clear V U;simp[h3,h4,h6,w1,w2,F,w4,D,C,I,M,sN,nY,iA,sH,Nat.testBit];rw[u,dn,ca]
 have:=(qm aj (aK _) (aw _) hc).1;simpa [y9.mem] using this
theorem Ep(y:0<A.length)(H:ej f157=[(ps,Z8,body)]):
  ∃O:afF,qS prog O∧∀Z,(ad Z 3=.ptr 2 0∧ad Z 4=.ptr 3 0∧ad Z 6=.ptr 5 0∧Z.flatMap (fun e=>e.2.refs 8)=[])→
   O (.fn 245) [.yield 7,.ptr 6 0] (l9 A d ps Z8 body Z A.length)=some ⟨.tuple [],some (l9 A d ps Z8 body Z 0),[]⟩:=by
 refine jJ (ι:=Env) (fun Z=>ad Z 3=.ptr 2 0∧ad Z 4=.ptr 3 0∧ad Z 6=.ptr 5 0∧Z.flatMap (fun e=>e.2.refs 8)=[]) (fun _=>.fn 245) (fun _=>[.yield 7,.ptr 6 0]) (fun Z=>l9 A d ps Z8 body Z A.length) (fun Z=>⟨.tuple [],some (l9 A d ps Z8 body Z 0),[]⟩) ?_ ?_
 ·rintro Z ⟨h3,h4,h6,he⟩
  refine⟨?_,fun q V=>by cases V;rfl⟩;have:=Gv (n:=A.length) (A:=A) rfl y hl 6 0 7 8 0 true false (l9 A d ps Z8 body Z) (fun _ _=>rfl) (fun _ _=>rfl) (fun _ _=>rfl) (fun s X=>by simp only[l9,lM] at X;rcases X with rfl | rfl | rfl | rfl | rfl | rfl | rfl | rfl;all_goals first | exact xH he | simp) (fun j U=>Er A d hd0 hd hA hl H Z h3 h4 h6 he j U)
  simpa [y9.mem] using this
 ·intro i j _ _ _ _ h
  simp only[l9,List.cons.injEq,afU.loop.injEq,agY.mk.injEq,and_true,true_and] at h;rw[h]
end
theorem vT(T:TypeId→Option TyI)(lv:Code→List Nat)(O:afF)(K N m0:Nat)(g:Operand)(ps:Array Tmp)(Z8 body:Code)(s:XS):aW T lv O K N m0 true (.rangeFunc g ps Z8 body) s=match get s.env g with
   |.func f caps=>match O (.fn f) (.yield s.mem.length::caps) (s.mem++[.loop ⟨.ready,none,s.env,N,ps,Z8,body⟩]) with
    |some r=>match (r.mem (s.mem++[.loop ⟨.ready,none,s.env,N,ps,Z8,body⟩]))[s.mem.length]? with
     |some (.loop r2)=>if r2.st== .busy then none else match zH r2.agX with
      |some e=>some (e,⟨s.env,(r.mem (s.mem++[.loop ⟨.ready,none,s.env,N,ps,Z8,body⟩])).set s.mem.length (.loop { r2 with st:=.exhausted }),s.agf||r.pre.isSome⟩)
      |none=>none
     |_=>none
    |none=>none
   |_=>none:=rfl
theorem BD(b n:Nat)(m:Mem)(y:b<m.length):aa (bh prog) (fun _=>[]) (aS prog) cF 1 208 [.slice b 0 n none] m=some ⟨.func 245 [.ptr m.length 0],none,[.cells true 0 [.slice b 0 n none]]⟩:=by
 have Z:aS prog 208=some f208:=by kernel_rfl
 simp[aa,Z,f208,y,List.idxOf?]
end Go.Proofs
