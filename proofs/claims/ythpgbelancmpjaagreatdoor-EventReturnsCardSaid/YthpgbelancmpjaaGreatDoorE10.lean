/- See E54. -/
import Derived.Test.YthpgbelancmpjaaGreatDoorE09
set_option linter.all false
namespace Go.Eng
def mg(B x:Nat):List Nat→List Nat→Nat→List Nat×Nat
 |o,[],c=>(o,c)
 | [],_::_,c=>([],c)
 |o::l,y::b,c=>((c+(o+x*y))%B::(mg B x l b ((c+(o+x*y)) / B)).1,(mg B x l b ((c+(o+x*y)) / B)).2)
theorem Ad(B x:Nat)(o:List Nat)(c:Nat):mg B x o [] c=(o,c):=by cases o<;>rfl
theorem Cf(B x:Nat):∀(o b:List Nat) (c:Nat),(mg B x o b c).1.length=o.length
 |o,[],c=>by rw[Ad]
 | [],_::_,_=>rfl
 |o::l,y::b,c=>by simp[mg,Cf B x l b]
theorem SF(B x:Nat):∀(o b:List Nat) (c:Nat),b.length≤o.length→Qi B x o b c=(mg B x o b c).1.take b.length++iJ B ((mg B x o b c).1.drop b.length) (mg B x o b c).2
 |o,[],c,_=>by rw[Ad];cases o<;>rfl
 | [],_::_,_,h=>by simp at h
 |o::l,y::b,c,h=>by rw[Qi,mg,SF B x l b _ (by simpa using h)];simp
theorem KN{B:Nat}(H:2≤B){x:Nat}(I:x<B):∀(o b:List Nat) (c:Nat),lok B o=true→lok B b=true→c<B→b.length≤o.length→
  lok B (mg B x o b c).1=true∧(mg B x o b c).2<B∧aF B (mg B x o b c).1+B ^ b.length*(mg B x o b c).2=aF B o+x*aF B b+c
 |o,[],c,ho,_,hc,_=>by rw[Ad];simp only[aF,List.length_nil,Nat.pow_zero,Nat.mul_zero,Nat.one_mul];exact⟨ho,hc,by omega⟩
 | [],_::_,_,_,_,_,h=>by simp at h
 |o::l,y::b,c,ho,hb,hc,h=>by
  rw[cU,Bool.and_eq_true,decide_eq_true_eq] at ho hb;have Z:x*y≤(B-1)*(B-1):=Nat.mul_le_mul (by omega) (by omega);have X:(c+(o+x*y)) / B<B:=by
   rw[Nat.div_lt_iff_lt_mul (by omega)];obtain⟨q,rfl⟩:∃q,B=q+1:=⟨B-1,by omega⟩
   have N:(q+1)*(q+1)=q*q+q+q+1:=by rw[Nat.add_mul,Nat.mul_add];omega
   simp only[Nat.add_sub_cancel] at Z;omega
  obtain⟨V,U,S⟩:=KN H I l b _ ho.2 hb.2 X (by simpa using h);have R:=Nat.mod_add_div (c+(o+x*y)) B;have e:x*(y+B*aF B b)=x*y+B*(x*aF B b):=by rw[Nat.mul_add,←Nat.mul_assoc,←Nat.mul_assoc,Nat.mul_comm x B]
  have O:B ^ (b.length+1)*(mg B x l b ((c+(o+x*y)) / B)).2=B*(B ^ b.length*(mg B x l b ((c+(o+x*y)) / B)).2):=by rw[Nat.pow_succ,Nat.mul_comm (B ^ b.length) B,Nat.mul_assoc]
  simp only[mg];refine⟨?_,U,?_⟩
  ·rw[cU,V];simp[Nat.mod_lt (c+(o+x*y)) (show 0<B by omega)]
  ·rw[aF,aF,aF,e,List.length_cons,O]
   have:=congrArg (B*·) S;simp only[Nat.mul_add] at this;omega
theorem MP(B:Nat)(l:List Nat):iJ B l 0=l:=by cases l<;>simp[iJ]
theorem sz(B:Nat){l:List Nat}{n:Nat}(H:n≤l.length):aF B l=aF B (l.take n)+B ^ n*aF B (l.drop n):=by
 conv=>lhs;rw[←List.take_append_drop n l]
 rw[ix,List.length_take,Nat.min_eq_left H]
variable{B b m r:Nat}
theorem Ut{D top:Nat}(H:2≤B)(Y:(dig B b).length=m)(Yp:1≤m)(I:(dig B b)[m-1]? =some top)(hr:r<B*b)(J:b≤r)(W:((dig B r).length=m∧(dig B r)[m-1]? =some D)∨((dig B r).length=m+1∧∃h l,(dig B r)[m]? =some h∧(dig B r)[m-1]? =some l∧D=h*B+l)):
  0<top∧r / b≤D / top∧r / b≤B-1:=by
 have C:=ct H b;have A:=cR H b;have Z:=ct H r;have K:=cR H r;have G:m-1<(dig B b).length:=by omega
 have F:(dig B b)[m-1]=top:=(List.getElem?_eq_some_iff.1 I).2;have Yv:b=aF B ((dig B b).take (m-1))+B ^ (m-1)*top:=by have:=sz B (l:=dig B b) (n:=m-1) (by omega);rw[C,List.drop_eq_getElem_cons G,F,List.drop_of_length_le (by omega)] at this;simpa [aF] using this
 have X:0<top:=by
  rcases Nat.eq_zero_or_pos top with h | h
  ·have U:=dv H b
   have V:bD (dig B b)=bD ((dig B b).take (m-1)):=by
    conv=>lhs;rw[←List.take_append_drop (m-1) (dig B b),List.drop_eq_getElem_cons G,F,List.drop_of_length_le (by omega),h]
    exact iO _
   have h3:=dw ((dig B b).take (m-1));rw[←V,U,List.length_take] at h3;omega
  ·exact h
 have S:0<b:=by
  rcases Nat.eq_zero_or_pos b with h | h
  ·subst h;simp at hr
  ·exact h
 have u:r / b*b≤r:=Nat.div_mul_le_self r b;have R:top*B ^ (m-1)≤b:=by rw[Nat.mul_comm];omega
 have O:r<(D+1)*B ^ (m-1):=by
  rcases W with⟨U,V⟩ | ⟨U,h,l,V,h3,rfl⟩
  ·have N:m-1<(dig B r).length:=by omega
   have e:=sz B (l:=dig B r) (n:=m-1) (by omega);rw[Z,List.drop_eq_getElem_cons N,(List.getElem?_eq_some_iff.1 V).2,List.drop_of_length_le (by omega)] at e;have M:=iy (jv K (m-1));rw[List.length_take,Nat.min_eq_left (by omega)] at M;simp[aF] at e;rw[Nat.add_mul,Nat.one_mul,Nat.mul_comm D];omega
  ·have N:m-1<(dig B r).length:=by omega
   have o:m-1+1<(dig B r).length:=by omega
   have L :m-1+1=m:=by omega
   have e:=sz B (l:=dig B r) (n:=m-1) (by omega);rw[Z,List.drop_eq_getElem_cons N,(List.getElem?_eq_some_iff.1 h3).2,List.drop_eq_getElem_cons o,List.drop_of_length_le (by omega)] at e;have j:(dig B r)[m-1+1]=h:=by have:=(List.getElem?_eq_some_iff.1 V).2;simp only[L];exact this
   rw[j] at e;have M:=iy (jv K (m-1));rw[List.length_take,Nat.min_eq_left (by omega)] at M;simp only[aF,Nat.mul_zero,Nat.add_zero] at e;rw[Nat.mul_add] at e;have e6:(h*B+l+1)*B ^ (m-1)=B ^ (m-1)*l+B ^ (m-1)*(B*h)+B ^ (m-1):=by rw[Nat.add_mul,Nat.add_mul,Nat.one_mul,Nat.mul_comm (h*B),Nat.mul_comm l,Nat.mul_comm h B];omega
   omega
 refine⟨X,Ur O R u X,?_⟩;have:r / b<B:=by rw[Nat.div_lt_iff_lt_mul S];exact hr
 omega
theorem xw(H:2≤B)(I:(dig B b).length=m)(hr:r<B*b)(J:b≤r):(dig B r).length=m∨(dig B r).length=m+1:=by
 have X:m≤(dig B r).length:=by
  rcases Nat.lt_or_ge (dig B r).length m with h | h
  ·have:=ez H (m:=r) (n:=b) (by omega);omega
  ·exact h
 have Z:r<B ^ (m+1):=by have:=xx H b;rw[I] at this;rw[Nat.pow_succ,Nat.mul_comm];exact Nat.lt_of_lt_of_le hr (Nat.mul_le_mul_left _ (by omega))
 have:=fL H Z;omega
theorem NN{a:Nat}(H:2≤B)(I:a<B):bD (a::dig B r)=dig B (a+B*r):=by rw[←fM H (show lok B (a::dig B r)=true by rw[cU,cR H];simp[I]),aF,ct H]
end Go.Eng
namespace Go.Proofs
open Go.Eng
open Tryz
def lR(A B o:List Nat):Mem:=[.cells false 1 (iN .u64 A),.cells false 1 (iN .u64 B),.cells true 1 (iN .u64 o)]
theorem Vh(k:IntKind)(l:List Nat)(i n:Nat)(h:i<l.length):(iN k l).take i++.int k (n:Int)::(iN k l).drop (i+1)=iN k (l.take i++n::l.drop (i+1)):=by simp[iu,ra,dU,cB]
variable{i n:Nat}{l:List Nat}
theorem Oq(h:i<l.length):(l.take i++n::l.drop (i+1)).take (i+1)=l.take i++[n]:=by
 have:(l.take i).length=i:=by simp;omega
 rw[List.take_append,this];have e:i+1-i=1:=by omega
 rw[e,List.take_of_length_le (by omega)];rfl
theorem NS(h:i<l.length):(l.take i++n::l.drop (i+1)).drop (i+1)=l.drop (i+1):=by
 have:(l.take i).length=i:=by simp;omega
 rw[List.drop_append,this];have e:i+1-i=1:=by omega
 rw[e,List.drop_of_length_le (by omega)];rfl
theorem DM(h:i<l.length):(l.take i++n::l.drop (i+1)).length=l.length:=by simp;omega
variable{K:Nat}{O:y9}{lv:Code→List Nat}
theorem zq(A B H:List Nat)(i x:Nat)(hx:x<1000000000)(W:lok 1000000000 B=true)(Y:lok 1000000000 H=true)(hl:H.length≤1000000000)(hn:i+B.length<H.length)(hK:B.length<K){b1 b b3:Code}(I:ah f211=[b1,b,b3])(J:lv b=[28,8]):
  ∃F:Env→Bool→Env,∀Z d,(ad Z 5=.slice 2 0 H.length none∧ad Z 6=.int .i64 i∧ad Z 7=.int .u64 x∧ad Z 26=.slice 1 0 B.length none∧ad Z 27=.int .i64 B.length∧ad Z 28=.int .i64 0∧ad Z 8=.int .u64 0)→
   aS (aV prog) lv O K 79 2 true (.loop b) ⟨Z,lR A B H,d⟩=some (.exit 2,⟨F Z d,lR A B (H.take i++(mg 1000000000 x (H.drop i) B 0).1),d⟩)∧
    (ad (F Z d) 8=.int .u64 (((mg 1000000000 x (H.drop i) B 0).2:Nat):Int)∧ad (F Z d) 5=ad Z 5∧ad (F Z d) 6=ad Z 6∧ad (F Z d) 1=ad Z 1∧ad (F Z d) 21=ad Z 21):=by
 refine bw J (fun Z=>ad Z 5=.slice 2 0 H.length none∧ad Z 6=.int .i64 i∧ad Z 7=.int .u64 x∧ad Z 26=.slice 1 0 B.length none∧ad Z 27=.int .i64 B.length∧ad Z 28=.int .i64 0∧ad Z 8=.int .u64 0)
  (fun Z U =>ad U 8=.int .u64 (((mg 1000000000 x (H.drop i) B 0).2:Nat):Int)∧ad U 5=ad Z 5∧ad U 6=ad Z 6∧ad U 1=ad Z 1∧ad U 21=ad Z 21) ?_
 clear J;rintro Z d ⟨h5,h6,h7,h26,h27,YD,h8⟩;simp[ah,aG,f211] at I;obtain⟨_,I,_⟩:=I;have D:aw [28,8] (ae b) Z ((28,.int .i64 ((0:Nat):Int))::(8,.int .u64 ((0:Nat):Int))::Z)=aw [28,8] (ae b) Z Z:=by simp[aw,YD,h8]
 rw[←D];refine bO (α:=Nat×List Nat×Nat) (fun a=>⟨aw [28,8] (ae b) Z ((28,.int .i64 (a.1:Int))::(8,.int .u64 (a.2.2:Int))::Z),lR A B a.2.1,d⟩) (fun a=>B.length-a.1)
  (fun a=>a.1≤B.length∧a.2.1.length=H.length∧lok 1000000000 a.2.1=true∧a.2.2<1000000000∧
   a.2.1.take (i+a.1)++(mg 1000000000 x (a.2.1.drop (i+a.1)) (B.drop a.1) a.2.2).1=H.take i++(mg 1000000000 x (H.drop i) B 0).1∧
   (mg 1000000000 x (a.2.1.drop (i+a.1)) (B.drop a.1) a.2.2).2=(mg 1000000000 x (H.drop i) B 0).2) (.exit 2) _ d _ (by simp) ?_ K (0,H,0) ⟨Nat.zero_le _,rfl,Y,by show(0:Nat)<1000000000;omega,rfl,rfl⟩ (by simpa using hK)
 rintro ⟨k,o,c⟩ ⟨hk,hol,XT,hc,J',Zo⟩;simp only at hk hol XT hc J' Zo;clear D;subst I;by_cases N:k=B.length
 ·right
  subst N;rw[List.drop_length,Ad] at J' Zo;simp only[List.take_append_drop] at J';rw[←J',←Zo];simp[h27]
 ·left
  have M:k<B.length:=by omega
  obtain⟨y,m,C⟩:=dW M;have j:=ga W m;have eB:B.drop k=y::B.drop (k+1):=by rw[List.drop_eq_getElem_cons M,C]
  obtain⟨p,hp⟩:=xE (α:=Nat) (i+k);have X:p<o.length:=by omega
  obtain⟨z,hz,S⟩:=dW X;have hzb:=ga XT hz;have eo:o.drop p=z::o.drop (p+1):=by rw[List.drop_eq_getElem_cons X,S]
  rw[←hp,eB,eo,mg] at J' Zo;have ZV:x*y≤999999999*999999999:=Nat.mul_le_mul (by omega) (by omega);obtain⟨s,u⟩:=xE (α:=Nat) (c+(z+x*y));rw[←u] at J' Zo;obtain⟨V,R⟩:=xE (α:=Nat) (x*y);rw[←R] at ZV u;have L:(x:Int)*(y:Int)=(V:Int):=by rw[R];exact(Int.natCast_mul x y).symm
  have w1:IntKind.i64.wrap ((i:Int)+(k:Int))=(p:Int):=by rw[af];omega
  have w2:IntKind.u64.wrap (V:Int)=(V:Int):=cf (by omega) (by omega);have w3:IntKind.u64.wrap ((z:Int)+(V:Int))=(z:Int)+(V:Int):=cf (by omega) (by omega);have w4:IntKind.u64.wrap ((c:Int)+((z:Int)+(V:Int)))=(s:Int):=by rw[cf (by omega) (by omega)];omega
  have w5:(s:Int).tmod 1000000000=(s:Int)%1000000000:=Af s 1000000000;have w6:IntKind.u64.wrap ((s:Int) / 1000000000)=(s:Int) / 1000000000:=cf (by omega) (by omega);have w7:IntKind.i64.wrap ((k:Int)+1)=(k:Int)+1:=af;have hI:(p:Int)<(H.length:Int):=by omega
  have G:p+1≤o.length:=X;have hu:=Vh .u64 o p (s%1000000000) X;refine⟨(k+1,o.take p++s%1000000000::o.drop (p+1),s / 1000000000),?_⟩;refine bH (r:=_∧_) (show(k+1≤B.length∧(o.take p++s%1000000000::o.drop (p+1)).length=H.length∧lok 1000000000 (o.take p++s%1000000000::o.drop (p+1))=true∧s / 1000000000<1000000000∧
    (o.take p++s%1000000000::o.drop (p+1)).take (i+(k+1))++(mg 1000000000 x ((o.take p++s%1000000000::o.drop (p+1)).drop (i+(k+1))) (B.drop (k+1)) (s / 1000000000)).1=H.take i++(mg 1000000000 x (H.drop i) B 0).1∧
    (mg 1000000000 x ((o.take p++s%1000000000::o.drop (p+1)).drop (i+(k+1))) (B.drop (k+1)) (s / 1000000000)).2=(mg 1000000000 x (H.drop i) B 0).2)∧B.length-(k+1)<B.length-k by
   have hq:i+(k+1)=p+1:=by omega
   rw[hq,Oq X,NS X];refine⟨⟨by omega,by rw[DM X,hol],?_,by omega,?_,Zo⟩,by omega⟩
   ·rw[ss,cU,jv XT,kc XT]
    simp;omega
   ·rw[←J'];simp) ?_
  clear J' Zo;simp[lR,h5,h6,h7,h26,h27,C,S,hI,M,X,G,L,w1,w2,w3,w4,w5,w6,w7];simp[iu,ra,dU,cB]
theorem zr(A B H:List Nat)(j0 I:Nat)(ho:lok 1000000000 H=true)(W:I<1000000000)(hl:H.length≤1000000000)(Y:j0≤H.length)(YA:aF 1000000000 (H.drop j0)+I<1000000000 ^ (H.length-j0))(hK:H.length<K){b1 b2 b:Code}(J:ah f211=[b1,b2,b])(X':lv b=[11,8]):
  ∃F:Env→Bool→Env,∀Z d,(ad Z 5=.slice 2 0 H.length none∧ad Z 11=.int .i64 j0∧ad Z 8=.int .u64 I)→
   aS (aV prog) lv O K 79 2 true (.loop b) ⟨Z,lR A B H,d⟩=some (.exit 4,⟨F Z d,lR A B (H.take j0++iJ 1000000000 (H.drop j0) I),d⟩)∧
    (ad (F Z d) 5=ad Z 5∧ad (F Z d) 1=ad Z 1∧ad (F Z d) 21=ad Z 21):=by
 refine bw X' (fun Z=>ad Z 5=.slice 2 0 H.length none∧ad Z 11=.int .i64 j0∧ad Z 8=.int .u64 I)
  (fun Z S =>ad S 5=ad Z 5∧ad S 1=ad Z 1∧ad S 21=ad Z 21) ?_
 clear X';rintro Z d ⟨h5,h11,h8⟩;simp[ah,aG,f211] at J;obtain⟨_,_,J⟩:=J;have M:aw [11,8] (ae b) Z ((11,.int .i64 (j0:Int))::(8,.int .u64 (I:Int))::Z)=aw [11,8] (ae b) Z Z:=by simp[aw,h11,h8]
 rw[←M];refine bO (α:=Nat×List Nat×Nat) (fun a=>⟨aw [11,8] (ae b) Z ((11,.int .i64 (a.1:Int))::(8,.int .u64 (a.2.2:Int))::Z),lR A B a.2.1,d⟩) (fun a=>H.length-a.1)
  (fun a=>a.1≤H.length∧a.2.1.length=H.length∧lok 1000000000 a.2.1=true∧a.2.2<1000000000∧aF 1000000000 (a.2.1.drop a.1)+a.2.2<1000000000 ^ (H.length-a.1)∧
   a.2.1.take a.1++iJ 1000000000 (a.2.1.drop a.1) a.2.2=H.take j0++iJ 1000000000 (H.drop j0) I) (.exit 4) _ d _ (by simp) ?_ K (j0,H,I) ⟨Y,rfl,ho,W,YA,rfl⟩ (by simp;omega)
 rintro ⟨j,o,c⟩ ⟨hj,hol,XT,hc,hf,J'⟩;simp only at hj hol XT hc hf J';clear M;subst J;by_cases X:c=0
 ·right
  subst X;rw[MP,List.take_append_drop] at J';rw[←J'];simp
 ·left
  have V:j<o.length:=by
   rcases Nat.lt_or_ge j H.length with h | h
   ·omega
   ·have:H.length-j=0:=by omega
    rw[this,Nat.pow_zero] at hf;omega
  obtain⟨z,G,U⟩:=dW V;have D:=ga XT G;have L:o.drop j=z::o.drop (j+1):=by rw[List.drop_eq_getElem_cons V,U]
  rw[L,iJ,if_neg X] at J';rw[L,aF] at hf;obtain⟨s,C⟩:=xE (α:=Nat) (c+z);rw[←C] at J';have w4:IntKind.u64.wrap ((c:Int)+(z:Int))=(s:Int):=by rw[cf (by omega) (by omega)];omega
  have w5:(s:Int).tmod 1000000000=(s:Int)%1000000000:=Af s 1000000000;have w6:IntKind.u64.wrap ((s:Int) / 1000000000)=(s:Int) / 1000000000:=cf (by omega) (by omega);have w7:IntKind.i64.wrap ((j:Int)+1)=(j:Int)+1:=af;have u:(j:Int)<(H.length:Int):=by omega
  have m:j<H.length:=by omega
  have R:j+1≤o.length:=V;have N:0<c:=by omega
  refine⟨(j+1,o.take j++s%1000000000::o.drop (j+1),s / 1000000000),?_⟩;refine bH (r:=_∧_) (show(j+1≤H.length∧(o.take j++s%1000000000::o.drop (j+1)).length=H.length∧lok 1000000000 (o.take j++s%1000000000::o.drop (j+1))=true∧s / 1000000000<1000000000∧
    aF 1000000000 ((o.take j++s%1000000000::o.drop (j+1)).drop (j+1))+s / 1000000000<1000000000 ^ (H.length-(j+1))∧
    (o.take j++s%1000000000::o.drop (j+1)).take (j+1)++iJ 1000000000 ((o.take j++s%1000000000::o.drop (j+1)).drop (j+1)) (s / 1000000000)=H.take j0++iJ 1000000000 (H.drop j0) I)∧H.length-(j+1)<H.length-j by
   rw[Oq V,NS V];refine⟨⟨by omega,by rw[DM V,hol],?_,by omega,?_,?_⟩,by omega⟩
   ·rw[ss,cU,jv XT,kc XT]
    simp;omega
   ·have e:H.length-j=(H.length-(j+1))+1:=by omega
    rw[e,Nat.pow_succ] at hf;generalize 1000000000 ^ (H.length-(j+1))=p at*;omega
   ·rw[←J'];simp) ?_
  clear J' hf YA;simp[lR,h5,U,u,V,R,N,w4,w5,w6,w7];simp[iu,ra,dU,cB]
def eO(c:Code):List Nat:=if (ae c).contains 21 then [21] else if (ae c).contains 28 then [28,8] else [11,8]
theorem WV{B i x:Nat}{o b:List Nat}(H:i+b.length≤o.length):o.take i++Qi B x (o.drop i) b 0=
  (o.take i++(mg B x (o.drop i) b 0).1).take (i+b.length)++iJ B ((o.take i++(mg B x (o.drop i) b 0).1).drop (i+b.length)) (mg B x (o.drop i) b 0).2:=by
 have Z:(o.take i).length=i:=by simp;omega
 have X:b.length≤(o.drop i).length:=by rw[List.length_drop];omega
 generalize o.take i=P at*;generalize o.drop i=Q at*;have V:(P++(mg B x Q b 0).1).take (i+b.length)=P++(mg B x Q b 0).1.take b.length:=by rw[List.take_append,List.take_of_length_le (by omega),Z,Nat.add_sub_cancel_left]
 have U:(P++(mg B x Q b 0).1).drop (i+b.length)=(mg B x Q b 0).1.drop b.length:=by rw[List.drop_append,List.drop_of_length_le (by omega),Z,Nat.add_sub_cancel_left,List.nil_append]
 rw[V,U,SF B x _ _ _ X,List.append_assoc]
theorem zp(A B:List Nat)(n:Nat)(hA:lok 1000000000 A=true)(I:lok 1000000000 B=true)(hl:n≤1000000000)(hn:n=A.length+B.length+1)(hK:n<K){b b2 b3:Code}(H:ah f211=[b,b2,b3]∧eO b=[21]∧eO b2=[28,8]∧eO b3=[11,8]):
  ∃F:Env→Bool→Env,∀Z d,(ad Z 5=.slice 2 0 n none∧ad Z 1=.slice 1 0 B.length none∧ad Z 19=.slice 0 0 A.length none∧ad Z 20=.int .i64 A.length∧ad Z 21=.int .i64 0)→
   aS (aV prog) eO O K 79 2 true (.loop b) ⟨Z,lR A B (List.replicate n 0),d⟩=some (.exit 0,⟨F Z d,lR A B (rM 1000000000 A B (List.replicate n 0)),d⟩)∧
    (ad (F Z d) 5=ad Z 5):=by
 refine bw H.2.1 (fun Z=>ad Z 5=.slice 2 0 n none∧ad Z 1=.slice 1 0 B.length none∧ad Z 19=.slice 0 0 A.length none∧ad Z 20=.int .i64 A.length∧ad Z 21=.int .i64 0)
  (fun Z AC =>ad AC 5=ad Z 5) ?_
 rintro Z d ⟨h5,j,h19,Zm,Z5⟩;have U:=H.1;simp[ah,aG,f211] at U;obtain⟨U,Yv,Y⟩:=U;have XW:aw [21] (ae b) Z ((21,.int .i64 ((0:Nat):Int))::Z)=aw [21] (ae b) Z Z:=by simp[aw,Z5]
 rw[←XW];have hz:aF 1000000000 (List.replicate n 0)=0:=by
  clear hn hl hK h5;induction n with
  |zero=>rfl
  |succ n ih=>rw[List.replicate_succ,aF,ih]
 have L:lok 1000000000 (List.replicate n 0)=true:=by unfold lok;rw[List.all_eq_true];intro d hd;rw[List.mem_replicate] at hd;simp[hd.2]
 have W:aF 1000000000 A*aF 1000000000 B<1000000000 ^ n:=by have j:=iy hA;have h2:=iy I;have h3:aF 1000000000 A*aF 1000000000 B<1000000000 ^ A.length*1000000000 ^ B.length:=Nat.mul_lt_mul_of_lt_of_lt j h2;rw[←Nat.pow_add] at h3;have h4:1000000000 ^ (A.length+B.length)≤1000000000 ^ n:=Nat.pow_le_pow_right (by omega) (by omega);omega
 refine bO (α:=Nat×List Nat) (fun a=>⟨aw [21] (ae b) Z ((21,.int .i64 (a.1:Int))::Z),lR A B a.2,d⟩) (fun a=>A.length-a.1)
  (fun a=>a.1≤A.length∧a.2.length=n∧lok 1000000000 a.2=true∧aF 1000000000 (a.2.drop a.1)+aF 1000000000 (A.drop a.1)*aF 1000000000 B<1000000000 ^ (n-a.1)∧
   a.2.take a.1++rM 1000000000 (A.drop a.1) B (a.2.drop a.1)=rM 1000000000 A B (List.replicate n 0)) (.exit 0) _ d _ (by simp) ?_ K (0,List.replicate n 0) ⟨Nat.zero_le _,by simp,L,by simp only[List.drop_zero,Nat.sub_zero];rw[hz];omega,by simp⟩ (by simp;omega)
 rintro ⟨i,o⟩ ⟨hi,hol,XT,hf,J'⟩;simp only at hi hol XT hf J';clear XW W hz L;by_cases J:i=A.length
 ·right
  subst J;rw[List.drop_length,rM,List.take_append_drop] at J';rw[←J'];subst U;simp[Zm]
 ·left
  have FS:i<A.length:=by omega
  obtain⟨x,hx,XX⟩:=dW FS;have Yg:=ga hA hx;have eA:A.drop i=x::A.drop (i+1):=by rw[List.drop_eq_getElem_cons FS,XX]
  rw[eA,rM] at J';rw[eA,aF,Nat.add_mul,Nat.mul_assoc] at hf;have N:(o.drop i).length=n-i:=by rw[List.length_drop,hol]
  have G:=kc XT i;obtain⟨r1,r2⟩:=BH (B:=1000000000) (by omega) x (o.drop i) B 0 G (by rw[N];omega) (by omega);have D:=ux 1000000000 x (o.drop i) B 0;obtain⟨k1,k2,k3⟩:=KN (B:=1000000000) (by omega) Yg (o.drop i) B 0 G I (by omega) (by omega);have k4:=Cf 1000000000 x (o.drop i) B 0;have Y0:=WV (B:=1000000000) (x:=x) (o:=o) (b:=B) (i:=i) (by omega);obtain⟨M,S⟩:=xE (o.take i++(mg 1000000000 x (o.drop i) B 0).1);obtain⟨c2,u⟩:=xE ((mg 1000000000 x (o.drop i) B 0).2);have adi:M.length=n:=by rw[S,List.length_append,k4,N,List.length_take,hol];omega
  have adj:lok 1000000000 M=true:=by rw[S,ss,jv XT,k1];rfl
  have C:aF 1000000000 (M.drop (i+B.length))+c2<1000000000 ^ (M.length-(i+B.length)):=by
   have e1:M.drop (i+B.length)=(mg 1000000000 x (o.drop i) B 0).1.drop B.length:=by rw[S,List.drop_append,List.length_take,hol,List.drop_of_length_le (by simp[hol];omega),List.nil_append];congr 1;omega
   have e2:aF 1000000000 (mg 1000000000 x (o.drop i) B 0).1=aF 1000000000 ((mg 1000000000 x (o.drop i) B 0).1.take B.length)+1000000000 ^ B.length*aF 1000000000 ((mg 1000000000 x (o.drop i) B 0).1.drop B.length):=by
    conv=>lhs;rw[←List.take_append_drop B.length (mg 1000000000 x (o.drop i) B 0).1]
    rw[ix,List.length_take,k4,N,Nat.min_eq_left (by omega)]
   have e3:n-i=B.length+(M.length-(i+B.length)):=by omega
   rw[e3,Nat.pow_add] at hf;rw[e1,u];have:1000000000 ^ B.length*(aF 1000000000 ((mg 1000000000 x (o.drop i) B 0).1.drop B.length)+(mg 1000000000 x (o.drop i) B 0).2)<1000000000 ^ B.length*1000000000 ^ (M.length-(i+B.length)):=by rw[Nat.mul_add];omega
   exact Nat.lt_of_mul_lt_mul_left this
  obtain⟨F2,m⟩:=zq (O:=O) (K:=K) (lv:=eO) A B o i x Yg I XT (by omega) (by omega) (by omega) H.1 H.2.2.1;obtain⟨F3,X⟩:=zr (O:=O) (K:=K) (lv:=eO) A B M (i+B.length) c2 adj (by rw[u];exact k2) (by omega) (by omega) C (by omega) H.1 H.2.2.2;rw[←S,←u] at m Y0;rw[←Y0] at X;obtain⟨R,V⟩:=xE (o.take i++Qi 1000000000 x (o.drop i) B 0);rw[←V] at X;have adk:R.length=n:=by rw[V,List.length_append,D,N,List.length_take,hol];omega
  have adl:lok 1000000000 R=true:=by rw[V,ss,jv XT,r2];rfl
  cases hrl:Qi 1000000000 x (o.drop i) B 0 with
  |nil=>rw[hrl] at D;simp at D;omega
  |cons dd rr=>
   rw[hrl] at J' r1 D;simp only at J';have e4:R.take (i+1)=o.take i++[dd]:=by
    rw[V,hrl,List.take_append,List.length_take,hol,List.take_of_length_le (by simp;omega)];have:i+1-min i n=1:=by omega
    rw[this];rfl
   have e5:R.drop (i+1)=rr:=by
    rw[V,hrl,List.drop_append,List.length_take,hol,List.drop_of_length_le (by simp;omega)];have:i+1-min i n=1:=by omega
    rw[this];rfl
   obtain⟨p,hp⟩:=xE (α:=Nat) (i+B.length);have w1:IntKind.i64.wrap ((i:Int)+(B.length:Int))=(p:Int):=by rw[af];omega
   have w2:IntKind.i64.wrap ((i:Int)+1)=(i:Int)+1:=af;have hI:(i:Int)<(A.length:Int):=by omega
   rw[←hp] at X;refine⟨(i+1,R),?_⟩;refine bH (r:=_∧_) (show(i+1≤A.length∧R.length=n∧lok 1000000000 R=true∧aF 1000000000 (R.drop (i+1))+aF 1000000000 (A.drop (i+1))*aF 1000000000 B<1000000000 ^ (n-(i+1))∧
     R.take (i+1)++rM 1000000000 (A.drop (i+1)) B (R.drop (i+1))=rM 1000000000 A B (List.replicate n 0))∧A.length-(i+1)<A.length-i by
    rw[e4,e5];refine⟨⟨by omega,adk,adl,?_,by rw[←J'];simp⟩,by omega⟩;rw[aF] at r1;have e:n-i=(n-(i+1))+1:=by omega
    rw[e,Nat.pow_succ] at hf;generalize 1000000000 ^ (n-(i+1))=q at*;omega) ?_
   rw[hol] at m;rw[adi] at X;clear J' hf C r1 r2 D k1 k2 k3 k4 Y0 e4 e5 hrl V S u;subst U;subst Yv;subst Y;simp only[lR] at m X;simp[lR,h5,j,h19,Zm,XX,hI,FS,w1,w2,m,X]
theorem CX(A B:List Nat)(H:lok 1000000000 A=true)(I:lok 1000000000 B=true)(J:A.length≤100000000)(W:B.length≤100000000):
  ∃X,bD X=dig 1000000000 (aF 1000000000 A*aF 1000000000 B)∧aa (aV prog) eO (aT prog) bB (A.length+B.length+2) 211 [.slice 0 0 A.length none,.slice 1 0 B.length none] [.cells false 1 (iN .u64 A),.cells false 1 (iN .u64 B)]=
   some ⟨.slice 2 0 (bD X).length none,none,[.cells true 1 (iN .u64 X)]⟩:=by
 have G:aT prog 211=some f211:=by kernel_rfl
 obtain⟨b,V,U,N⟩:∃b V U,ah f211=[b,V,U]∧eO b=[21]∧eO V=[28,8]∧eO U=[11,8]:=⟨_,_,_,rfl,by decide,by decide,by decide⟩
 obtain⟨n,S⟩:=xE (A.length+B.length+1);obtain⟨F,R⟩:=zp (O:=bB) (K:=A.length+B.length+2) A B n H I (by omega) S (by omega) N;obtain⟨t1,t2,t3⟩:=P8 (B:=1000000000) (by omega) H I;rw[←S] at t1 t2 t3;obtain⟨X,M⟩:=xE (rM 1000000000 A B (List.replicate n 0));rw[←M] at t1 t2 t3 R;refine⟨X,by rw[←fM (by omega) t2,t1],?_⟩;obtain⟨Z,_⟩:=N;simp[ah,aG,f211] at Z;obtain⟨Z,_,_⟩:=Z;subst Z;obtain⟨L,hs1⟩:=xE (α:=Nat) (A.length+B.length);have w1:IntKind.i64.wrap ((A.length:Int)+(B.length:Int))=(L:Int):=by rw[af];omega
 have w2:IntKind.i64.wrap ((L:Int)+1)=(n:Int):=by rw[af];omega
 have m:0≤(n:Int):=by omega
 have D:8*(n:Int)≤281474976710656:=by omega
 have C:(n:Int)≤281474976710656:=by omega
 have u:bP .u64 [.cells false 1 (iN .u64 A),.cells false 1 (iN .u64 B),.cells true 1 (iN .u64 X)] (.slice 2 0 n none)=some X:=
  bz rfl (by simp[t3]) (List.take_of_length_le (by simp[t3]))
 have o:X.length≤1000000000:=by omega
 clear S hs1 M;simp only[lR] at R;simp[aa,G,f211,w1,w2,D,C,R,bB,u,o,vJ]
theorem G1{M:Mem}{x y:AV}{A B:List Nat}(H:lok 1000000000 A=true)(I:lok 1000000000 B=true)(J:A.length≤100000000)(W:B.length≤100000000)(Y:aev .u64 M x A)(hy:aev .u64 M y B):
  kO prog 211 [x,y] M (.slice M.length 0 (dig 1000000000 (aF 1000000000 A*aF 1000000000 B)).length none) (M++[.cells true 1 (iN .u64 (dig 1000000000 (aF 1000000000 A*aF 1000000000 B)))]):=by
 obtain⟨Z,X,h⟩:=CX A B H I J W;have:=(aq ai (aO _) iA (aR _) h).1;simp only[aee.mem,Option.getD_none,List.cons_append,List.nil_append] at this;have V:=kO.af5 (m:=[.cells false 1 (iN .u64 A),.cells false 1 (iN .u64 B)]) this (Bt (eU _));obtain⟨b,c,rfl,rfl,h3⟩:=kO.afn (new:=[.cells true 1 (iN .u64 (bD Z))]) rfl V Y hy;rw[X] at h3;simpa [AV.ren,fq] using h3
theorem EG{A:List Nat}(hA:A.length=n)(hn:0<n)(hl:n≤1000000000)(J Y H m0 eb:Nat)(ob oA:Bool)(M:Nat→Mem)(I:∀j,j≤n→(M j).length=m0)(hs:∀j,j≤n→(M j)[J]? =some (.cells ob eb [.slice Y 0 n none]))(hr:∀j,j≤n→(M j)[Y]? =some (.cells oA 1 (iN .u64 A)))(W:∀s∈M 0,s.refs m0=[])(hy:∀j,j<n→fO prog H [.int .i64 (j:Int),.int .u64 ((A.getD j 0:Nat):Int)] (M (j+1)) (.bool true) (M j)):
  kO prog 279 [.yield H,.ptr J 0] (M n) (.tuple []) (M 0):=by
 have u:aT prog 279=some f279:=by kernel_rfl
 obtain⟨O,o,S⟩:=iV (P:=prog) (fun j:Nat=>j<n) (fun _=>.yld H) (fun j=>[.int .i64 (j:Int),.int .u64 ((A.getD j 0:Nat):Int)]) (fun j=>M (j+1)) (fun j=>⟨.bool true,some (M j),[]⟩)
  (fun j m=>⟨by simpa [aee.mem] using hy j m,fun q hq=>by cases hq;rw[I j (by omega),I (j+1) (by omega)]⟩)
  (fun i j _ _ _ h _=>by
   simp only[List.cons.injEq,AV.int.injEq] at h;have:i=j:=by omega
   rw[this])
 obtain⟨b,U⟩:∃b,ah f279=[b]:=⟨_,rfl⟩
 have loop:∃F:Env→Env,∀Z,(ad Z 0=.yield H∧ad Z 1=.ptr J 0∧ad Z 3=.int .i64 ((n:Int)-1))→
   aS (aV prog) (fun _=>[3]) O (n+1) 19 m0 true (.loop b) ⟨Z,M n,false⟩=some (.exit 0,⟨F Z,M 0,true⟩)∧True:=by
  refine uy rfl false true (fun Z=>ad Z 0=.yield H∧ad Z 1=.ptr J 0∧ad Z 3=.int .i64 ((n:Int)-1)) (fun _ _=>True) ?_;rintro Z ⟨h0,h1,h3⟩;simp[ah,aG,f279] at U;have L:aw [3] (ae b) Z ((3,.int .i64 ((n:Int)-1))::Z)=aw [3] (ae b) Z Z:=by simp[aw,h3]
  rw[←L];have D:(⟨aw [3] (ae b) Z ((3,.int .i64 ((n:Int)-1))::Z),M n,false⟩:XS)=⟨aw [3] (ae b) Z ((3,.int .i64 ((n:Int)-1))::Z),M n,decide (n<n)⟩:=by simp
  rw[D];refine bO (α:=Nat) (fun k=>⟨aw [3] (ae b) Z ((3,.int .i64 ((k:Int)-1))::Z),M k,decide (k<n)⟩) id (fun k=>k≤n) (.exit 0) (M 0) true (fun _=>True) (by simp) ?_ (n+1) n (Nat.le_refl _) (by simp);intro k hk;clear L D;subst U;cases k with
  |zero=>
   right;simp[hn]
  |succ k=>
   left;have X:k<n:=by omega
   have e1:(((k+1:Nat):Int)-1)=(k:Int):=by omega
   have w1:IntKind.i64.wrap ((k:Int)-1)=(k:Int)-1:=af;have l1:=I k (by omega);have V:=I n (by omega);have R:=hs (k+1) (by omega);have r1:=hr (k+1) (by omega);have C:=S k X;obtain⟨x,hx,XX⟩:=dW (l:=A) (i:=k) (by omega);have hg:A.getD k 0=x:=by simp[List.getD,hx]
   rw[hg] at C;rw[e1];refine⟨k,?_⟩;have adm :(k:Int)<(n:Int):=by omega
   simp[h0,h1,w1,l1,V,R,r1,XX,hA,X,C];omega
 obtain⟨F,hF⟩:=loop;simp[ah,aG,f279] at U;subst U;have w1:IntKind.i64.wrap ((n:Int)-1)=(n:Int)-1:=af;have V:=I n (by omega);have R:=hs n (by omega);have N:∃B,aS (aV prog) (fun _=>[3]) O (n+1) f279.ntmps (M n).length true (f279.body.getD .skip) ⟨dh 0 [.yield H,.ptr J 0],M n,false⟩=some (.normal,⟨B,M 0,true⟩):=by simp[f279,R,w1,V,hF]
 obtain⟨B,N⟩:=N;have:=JV (T:=aV prog) (G:=aT prog) (v:=.tuple []) u rfl (by simp[f279]) (.inl rfl) N rfl (by rw[I 0 (by omega),V]) rfl (by rw[V];exact W);have h2:=(aq ai (aO _) o (aR _) this).1;simpa [aee.mem] using h2
def kL(A:List Nat)(d:Nat)(I:Array Tmp)(J H:Code)(W:Env)(j:Nat):Mem:=
 [.cells false 1 (iN .u64 A),.cells false 1 [.int .u64 (d:Int)],.cells true 0 [.slice 1 0 1 none],.cells true 0 [.slice 4 0 A.length none],
  .cells true 1 (iN .u64 (List.replicate j 0++(gR 1000000000 d (A.drop j)).1)),.cells true 0 [.int .u64 (((gR 1000000000 d (A.drop j)).2:Nat):Int)],.cells true 0 [.slice 0 0 A.length none],
  .loop ⟨.ready,none,W,146,I,J,H⟩]
variable{XO body:Code}{ps:Array Tmp}
section
variable (A:List Nat)(d:Nat)(Zf:0<d)(hd:d<1000000000)(hA:lok 1000000000 A=true)(hl:A.length≤1000000000)
include A d Zf hd hA hl
theorem CN(I:dZ f223=[(ps,XO,body)])(H:Env)(h3:ad H 3=.ptr 2 0)(h4:ad H 4=.ptr 3 0)(h6:ad H 6=.ptr 5 0)(J:H.flatMap (fun e=>e.2.refs 8)=[])(j:Nat)(W:j<A.length):
  fO prog 7 [.int .i64 (j:Int),.int .u64 ((A.getD j 0:Nat):Int)] (kL A d ps XO body H (j+1)) (.bool true) (kL A d ps XO body H j):=by
 obtain⟨x,u,XX⟩:=dW W;have Yg:=ga hA u;have hg:A.getD j 0=x:=by simp[List.getD,u]
 have eA:A.drop j=x::A.drop (j+1):=by rw[List.drop_eq_getElem_cons W,XX]
 rw[hg];have XL:cC XO=true∧cC body=true∧ps= #[27,28]:=by simp[dZ,fH,f223] at I;obtain⟨rfl,rfl,rfl⟩:=I;exact⟨by decide,by decide,rfl⟩
 obtain⟨o,m,rfl⟩:=XL;have N:∀Y,rK (rho 8 Y) H=H:=fun Y=>Ni J
 have Z:(gR 1000000000 d (A.drop j))=(((gR 1000000000 d (A.drop (j+1))).2*1000000000+x) / d::(gR 1000000000 d (A.drop (j+1))).1,((gR 1000000000 d (A.drop (j+1))).2*1000000000+x)%d):=by rw[eA];rfl
 obtain⟨i1,i2,i3,i4⟩:=Bp Zf hd (A.drop (j+1)) (kc hA _);obtain⟨r,M⟩:=xE ((gR 1000000000 d (A.drop (j+1))).2);obtain⟨q,L⟩:=xE ((gR 1000000000 d (A.drop (j+1))).1);rw[←M,←L] at Z;rw[←M] at i1;rw[←L] at i4;have V:kL A d #[27,28] XO body H (j+1)=[.cells false 1 (iN .u64 A),.cells false 1 [.int .u64 (d:Int)],.cells true 0 [.slice 1 0 1 none],.cells true 0 [.slice 4 0 A.length none],
  .cells true 1 (iN .u64 (List.replicate (j+1) 0++q)),.cells true 0 [.int .u64 (r:Int)],.cells true 0 [.slice 0 0 A.length none],.loop ⟨.ready,none,H,146,#[27,28],XO,body⟩]:=by rw[M,L];rfl
 obtain⟨s,hs⟩:=xE (α:=Nat) (r*1000000000+x);rw[←hs] at Z;have U:kL A d #[27,28] XO body H j=[.cells false 1 (iN .u64 A),.cells false 1 [.int .u64 (d:Int)],.cells true 0 [.slice 1 0 1 none],.cells true 0 [.slice 4 0 A.length none],
  .cells true 1 (iN .u64 (List.replicate j 0++s / d::q)),.cells true 0 [.int .u64 ((s%d:Nat):Int)],.cells true 0 [.slice 0 0 A.length none],.loop ⟨.ready,none,H,146,#[27,28],XO,body⟩]:=by unfold kL;rw[Z]
 rw[V,U];have hql:q.length=A.length-(j+1):=by rw[i4,List.length_drop]
 have hsd:s / d≤s:=Nat.div_le_self _ _;have hsm:s%d<d:=Nat.mod_lt _ Zf;obtain⟨S,X⟩:=xE (s / d);obtain⟨sr,R⟩:=xE (s%d);have w1:IntKind.u64.wrap ((r:Int)*1000000000)=(r:Int)*1000000000:=cf (by omega) (by omega);have w2:IntKind.u64.wrap ((r:Int)*1000000000+(x:Int))=(s:Int):=by rw[cf (by omega) (by omega)];omega
 have w3:IntKind.u64.wrap ((s:Int).tdiv (d:Int))=(S:Int):=by rw[pe,←X];exact cf (by omega) (by omega)
 have G :IntKind.u64.wrap ((s:Int) / (d:Int))=(S:Int):=by rw[←Int.natCast_ediv,←X];exact cf (by omega) (by omega)
 have w4:(s:Int).tmod (d:Int)=(sr:Int):=by rw[pf,←R]
 have F:¬d=0:=by omega
 have D:(j:Int)<(A.length:Int):=by omega
 have C:(iN .u64 (List.replicate (j+1) 0++q)).take j++.int .u64 (S:Int)::(iN .u64 (List.replicate (j+1) 0++q)).drop (j+1)=iN .u64 (List.replicate j 0++S::q):=by rw[Vh _ _ _ _ (by simp;omega)];congr 1;rw[List.take_append_of_le_length (by simp),List.take_replicate,List.drop_append,List.drop_of_length_le (by simp)];simp
 have B:(List.replicate (j+1) 0++q).take j=List.replicate j 0:=by rw[List.take_append_of_le_length (by simp),List.take_replicate];congr 1;omega
 have hjq:j+1≤(List.replicate (j+1) 0++q).length:=by simp
 rw[←X,←R];have hc:xq (aV prog) (fun _=>[]) cu 1 7 [.int .i64 (j:Int),.int .u64 (x:Int)] [.cells false 1 (iN .u64 A),.cells false 1 [.int .u64 (d:Int)],.cells true 0 [.slice 1 0 1 none],.cells true 0 [.slice 4 0 A.length none],
  .cells true 1 (iN .u64 (List.replicate (j+1) 0++q)),.cells true 0 [.int .u64 (r:Int)],.cells true 0 [.slice 0 0 A.length none],.loop ⟨.ready,none,H,146,#[27,28],XO,body⟩]=some ⟨.bool true,some [.cells false 1 (iN .u64 A),.cells false 1 [.int .u64 (d:Int)],.cells true 0 [.slice 1 0 1 none],.cells true 0 [.slice 4 0 A.length none],
  .cells true 1 (iN .u64 (List.replicate j 0++S::q)),.cells true 0 [.int .u64 (sr:Int)],.cells true 0 [.slice 0 0 A.length none],.loop ⟨.ready,none,H,146,#[27,28],XO,body⟩],[]⟩:=by
  clear V U C;simp[xq,o,m];simp[dZ,fH,f223] at I;obtain⟨rfl,rfl⟩:=I;clear o m;simp[h3,h4,h6,w1,w2,G,w4,F,D,J,N,rl,mA,iu,ra,Nat.testBit];rw[B,dU,cB]
 have:=(oL ai (aO _) (az _) hc).1;simpa [aee.mem] using this
theorem CM(H:0<A.length)(I:dZ f223=[(ps,XO,body)]):
  ∃O:y9,qS prog O∧∀Z,(ad Z 3=.ptr 2 0∧ad Z 4=.ptr 3 0∧ad Z 6=.ptr 5 0∧Z.flatMap (fun e=>e.2.refs 8)=[])→
   O (.fn 279) [.yield 7,.ptr 6 0] (kL A d ps XO body Z A.length)=some ⟨.tuple [],some (kL A d ps XO body Z 0),[]⟩:=by
 refine iV (ι:=Env) (fun Z=>ad Z 3=.ptr 2 0∧ad Z 4=.ptr 3 0∧ad Z 6=.ptr 5 0∧Z.flatMap (fun e=>e.2.refs 8)=[]) (fun _=>.fn 279) (fun _=>[.yield 7,.ptr 6 0]) (fun Z=>kL A d ps XO body Z A.length) (fun Z=>⟨.tuple [],some (kL A d ps XO body Z 0),[]⟩) ?_ ?_
 ·rintro Z ⟨h3,h4,h6,he⟩
  refine⟨?_,fun q V=>by cases V;rfl⟩;have:=EG (n:=A.length) (A:=A) rfl H hl 6 0 7 8 0 true false (kL A d ps XO body Z) (fun _ _=>rfl) (fun _ _=>rfl) (fun _ _=>rfl) (fun s X=>by simp only[kL,lM] at X;rcases X with rfl | rfl | rfl | rfl | rfl | rfl | rfl | rfl;all_goals first | exact wh he | simp) (fun j U=>CN A d Zf hd hA hl I Z h3 h4 h6 he j U)
  simpa [aee.mem] using this
 ·intro i j _ _ _ _ h
  simp only[kL,List.cons.injEq,aek.loop.injEq,afk.mk.injEq,and_true,true_and] at h;rw[h]
end
theorem uv(T:TypeId→Option TyI)(lv:Code→List Nat)(O:y9)(K N m0:Nat)(g:Operand)(ps:Array Tmp)(XO body:Code)(s:XS):aS T lv O K N m0 true (.rangeFunc g ps XO body) s=match get s.env g with
   |.func f caps=>match O (.fn f) (.yield s.mem.length::caps) (s.mem++[.loop ⟨.ready,none,s.env,N,ps,XO,body⟩]) with
    |some r=>match (r.mem (s.mem++[.loop ⟨.ready,none,s.env,N,ps,XO,body⟩]))[s.mem.length]? with
     |some (.loop r2)=>if r2.st== .busy then none else match yD r2.afj with
      |some e=>some (e,⟨s.env,(r.mem (s.mem++[.loop ⟨.ready,none,s.env,N,ps,XO,body⟩])).set s.mem.length (.loop { r2 with st:=.exhausted }),s.aeC||r.pre.isSome⟩)
      |none=>none
     |_=>none
    |none=>none
   |_=>none:=rfl
theorem Aj(b n:Nat)(m:Mem)(H:b<m.length):aa (aV prog) (fun _=>[]) (aT prog) cu 1 255 [.slice b 0 n none] m=some ⟨.func 279 [.ptr m.length 0],none,[.cells true 0 [.slice b 0 n none]]⟩:=by
 have Z:aT prog 255=some f255:=by kernel_rfl
 simp[aa,Z,f255,H,List.idxOf?]
end Go.Proofs
