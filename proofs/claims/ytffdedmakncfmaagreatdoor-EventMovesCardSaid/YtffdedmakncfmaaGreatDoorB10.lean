/- See B54. -/
import Derived.Test.YtffdedmakncfmaaGreatDoorB09
set_option linter.all false
namespace Go.Eng
def mA(B x:Nat):List Nat→List Nat→Nat→List Nat×Nat
 |o,[],c=>(o,c)
 | [],_::_,c=>([],c)
 |o::l,y::b,c=>((c+(o+x*y))%B::(mA B x l b ((c+(o+x*y)) / B)).1,(mA B x l b ((c+(o+x*y)) / B)).2)
theorem AK(B x:Nat)(o:List Nat)(c:Nat):mA B x o [] c=(o,c):=by cases o<;>rfl
theorem CS(B x:Nat):∀(o b:List Nat) (c:Nat),(mA B x o b c).1.length=o.length
 |o,[],c=>by rw[AK]
 | [],_::_,_=>rfl
 |o::l,y::b,c=>by simp[mA,CS B x l b]
theorem TB(B x:Nat):∀(o b:List Nat) (c:Nat),b.length≤o.length→Q8 B x o b c=(mA B x o b c).1.take b.length++iS B ((mA B x o b c).1.drop b.length) (mA B x o b c).2
 |o,[],c,_=>by rw[AK];cases o<;>rfl
 | [],_::_,_,h=>by simp at h
 |o::l,y::b,c,h=>by rw[Q8,mA,TB B x l b _ (by simpa using h)];simp
theorem LN{B:Nat}(H:2≤B){x:Nat}(I:x<B):∀(o b:List Nat) (c:Nat),lok B o=true→lok B b=true→c<B→b.length≤o.length→
  lok B (mA B x o b c).1=true∧(mA B x o b c).2<B∧au B (mA B x o b c).1+B ^ b.length*(mA B x o b c).2=au B o+x*au B b+c
 |o,[],c,ho,_,hc,_=>by rw[AK];simp only[au,List.length_nil,Nat.pow_zero,Nat.mul_zero,Nat.one_mul];exact⟨ho,hc,by omega⟩
 | [],_::_,_,_,_,_,h=>by simp at h
 |o::l,y::b,c,ho,hb,hc,h=>by
  rw[cI,Bool.and_eq_true,decide_eq_true_eq] at ho hb;have Z:x*y≤(B-1)*(B-1):=Nat.mul_le_mul (by omega) (by omega);have X:(c+(o+x*y)) / B<B:=by
   rw[Nat.div_lt_iff_lt_mul (by omega)];obtain⟨q,rfl⟩:∃q,B=q+1:=⟨B-1,by omega⟩
   have O:(q+1)*(q+1)=q*q+q+q+1:=by rw[Nat.add_mul,Nat.mul_add];omega
   simp only[Nat.add_sub_cancel] at Z;omega
  obtain⟨V,U,S⟩:=LN H I l b _ ho.2 hb.2 X (by simpa using h);have R:=Nat.mod_add_div (c+(o+x*y)) B;have e:x*(y+B*au B b)=x*y+B*(x*au B b):=by rw[Nat.mul_add,←Nat.mul_assoc,←Nat.mul_assoc,Nat.mul_comm x B]
  have Q:B ^ (b.length+1)*(mA B x l b ((c+(o+x*y)) / B)).2=B*(B ^ b.length*(mA B x l b ((c+(o+x*y)) / B)).2):=by rw[Nat.pow_succ,Nat.mul_comm (B ^ b.length) B,Nat.mul_assoc]
  simp only[mA];refine⟨?_,U,?_⟩
  ·rw[cI,V];simp[Nat.mod_lt (c+(o+x*y)) (show 0<B by omega)]
  ·rw[au,au,au,e,List.length_cons,Q]
   have:=congrArg (B*·) S;simp only[Nat.mul_add] at this;omega
theorem NK(B:Nat)(l:List Nat):iS B l 0=l:=by cases l<;>simp[iS]
theorem sK(B:Nat){l:List Nat}{n:Nat}(y:n≤l.length):au B l=au B (l.take n)+B ^ n*au B (l.drop n):=by
 conv=>lhs;rw[←List.take_append_drop n l]
 rw[gC,List.length_take,Nat.min_eq_left y]
variable{B b m r:Nat}
theorem U4{D top:Nat}(y:2≤B)(W:(dig B b).length=m)(Y:1≤m)(H:(dig B b)[m-1]? =some top)(hr:r<B*b)(I:b≤r)(J:((dig B r).length=m∧(dig B r)[m-1]? =some D)∨((dig B r).length=m+1∧∃h l,(dig B r)[m]? =some h∧(dig B r)[m-1]? =some l∧D=h*B+l)):
  0<top∧r / b≤D / top∧r / b≤B-1:=by
 have F:=bC y b;have C:=bO y b;have Z:=bC y r;have L:=bO y r;have K:m-1<(dig B b).length:=by omega
 have G:(dig B b)[m-1]=top:=(List.getElem?_eq_some_iff.1 H).2;have YL:b=au B ((dig B b).take (m-1))+B ^ (m-1)*top:=by have:=sK B (l:=dig B b) (n:=m-1) (by omega);rw[F,List.drop_eq_getElem_cons K,G,List.drop_of_length_le (by omega)] at this;simpa [au] using this
 have X:0<top:=by
  rcases Nat.eq_zero_or_pos top with h | h
  ·have U:=bX y b
   have V:aU (dig B b)=aU ((dig B b).take (m-1)):=by
    conv=>lhs;rw[←List.take_append_drop (m-1) (dig B b),List.drop_eq_getElem_cons K,G,List.drop_of_length_le (by omega),h]
    exact iW _
   have h3:=cR ((dig B b).take (m-1));rw[←V,U,List.length_take] at h3;omega
  ·exact h
 have S:0<b:=by
  rcases Nat.eq_zero_or_pos b with h | h
  ·subst h;simp at hr
  ·exact h
 have u:r / b*b≤r:=Nat.div_mul_le_self r b;have R:top*B ^ (m-1)≤b:=by rw[Nat.mul_comm];omega
 have Q:r<(D+1)*B ^ (m-1):=by
  rcases J with⟨U,V⟩ | ⟨U,h,l,V,h3,rfl⟩
  ·have O:m-1<(dig B r).length:=by omega
   have e:=sK B (l:=dig B r) (n:=m-1) (by omega);rw[Z,List.drop_eq_getElem_cons O,(List.getElem?_eq_some_iff.1 V).2,List.drop_of_length_le (by omega)] at e;have N:=gd (iV L (m-1));rw[List.length_take,Nat.min_eq_left (by omega)] at N;simp[au] at e;rw[Nat.add_mul,Nat.one_mul,Nat.mul_comm D];omega
  ·have O:m-1<(dig B r).length:=by omega
   have o:m-1+1<(dig B r).length:=by omega
   have M :m-1+1=m:=by omega
   have e:=sK B (l:=dig B r) (n:=m-1) (by omega);rw[Z,List.drop_eq_getElem_cons O,(List.getElem?_eq_some_iff.1 h3).2,List.drop_eq_getElem_cons o,List.drop_of_length_le (by omega)] at e;have j:(dig B r)[m-1+1]=h:=by have:=(List.getElem?_eq_some_iff.1 V).2;simp only[M];exact this
   rw[j] at e;have N:=gd (iV L (m-1));rw[List.length_take,Nat.min_eq_left (by omega)] at N;simp only[au,Nat.mul_zero,Nat.add_zero] at e;rw[Nat.mul_add] at e;have e6:(h*B+l+1)*B ^ (m-1)=B ^ (m-1)*l+B ^ (m-1)*(B*h)+B ^ (m-1):=by rw[Nat.add_mul,Nat.add_mul,Nat.one_mul,Nat.mul_comm (h*B),Nat.mul_comm l,Nat.mul_comm h B];omega
   omega
 refine⟨X,U3 Q R u X,?_⟩;have:r / b<B:=by rw[Nat.div_lt_iff_lt_mul S];exact hr
 omega
theorem xT(y:2≤B)(H:(dig B b).length=m)(hr:r<B*b)(I:b≤r):(dig B r).length=m∨(dig B r).length=m+1:=by
 have X:m≤(dig B r).length:=by
  rcases Nat.lt_or_ge (dig B r).length m with h | h
  ·have:=dz y (m:=r) (n:=b) (by omega);omega
  ·exact h
 have Z:r<B ^ (m+1):=by have:=sB y b;rw[H] at this;rw[Nat.pow_succ,Nat.mul_comm];exact Nat.lt_of_lt_of_le hr (Nat.mul_le_mul_left _ (by omega))
 have:=eN y Z;omega
theorem GC{a:Nat}(y:2≤B)(H:a<B):aU (a::dig B r)=dig B (a+B*r):=by rw[←dC y (show lok B (a::dig B r)=true by rw[cI,bO y];simp[H]),au,bC y]
end Go.Eng
namespace Go.Proofs
open Go.Eng
open Tryz
def mr(A B o:List Nat):Mem:=[.cells false 1 (iN .u64 A),.cells false 1 (iN .u64 B),.cells true 1 (iN .u64 o)]
theorem SG(k:IntKind)(l:List Nat)(i n:Nat)(h:i<l.length):(iN k l).take i++.int k (n:Int)::(iN k l).drop (i+1)=iN k (l.take i++n::l.drop (i+1)):=by simp[gW,ru,dh,ca]
variable{i n:Nat}{l:List Nat}
theorem Pc(h:i<l.length):(l.take i++n::l.drop (i+1)).take (i+1)=l.take i++[n]:=by
 have:(l.take i).length=i:=by simp;omega
 rw[List.take_append,this];have e:i+1-i=1:=by omega
 rw[e,List.take_of_length_le (by omega)];rfl
theorem OK(h:i<l.length):(l.take i++n::l.drop (i+1)).drop (i+1)=l.drop (i+1):=by
 have:(l.take i).length=i:=by simp;omega
 rw[List.drop_append,this];have e:i+1-i=1:=by omega
 rw[e,List.drop_of_length_le (by omega)];rfl
theorem EK(h:i<l.length):(l.take i++n::l.drop (i+1)).length=l.length:=by simp;omega
variable{K:Nat}{O:ae3}{lv:Code→List Nat}
theorem zT(A B H:List Nat)(i x:Nat)(hx:x<1000000000)(W:lok 1000000000 B=true)(Y:lok 1000000000 H=true)(hl:H.length≤1000000000)(hn:i+B.length<H.length)(hK:B.length<K){b1 b b3:Code}(I:ah f141=[b1,b,b3])(J:lv b=[28,8]):
  ∃F:Env→Bool→Env,∀Z d,(ab Z 5=.slice 2 0 H.length none∧ab Z 6=.int .i64 i∧ab Z 7=.int .u64 x∧ab Z 26=.slice 1 0 B.length none∧ab Z 27=.int .i64 B.length∧ab Z 28=.int .i64 0∧ab Z 8=.int .u64 0)→
   bh (ba prog) lv O K 79 2 true (.loop b) ⟨Z,mr A B H,d⟩=some (.exit 2,⟨F Z d,mr A B (H.take i++(mA 1000000000 x (H.drop i) B 0).1),d⟩)∧
    (ab (F Z d) 8=.int .u64 (((mA 1000000000 x (H.drop i) B 0).2:Nat):Int)∧ab (F Z d) 5=ab Z 5∧ab (F Z d) 6=ab Z 6∧ab (F Z d) 1=ab Z 1∧ab (F Z d) 21=ab Z 21):=by
 refine bj J (fun Z=>ab Z 5=.slice 2 0 H.length none∧ab Z 6=.int .i64 i∧ab Z 7=.int .u64 x∧ab Z 26=.slice 1 0 B.length none∧ab Z 27=.int .i64 B.length∧ab Z 28=.int .i64 0∧ab Z 8=.int .u64 0)
  (fun Z U =>ab U 8=.int .u64 (((mA 1000000000 x (H.drop i) B 0).2:Nat):Int)∧ab U 5=ab Z 5∧ab U 6=ab Z 6∧ab U 1=ab Z 1∧ab U 21=ab Z 21) ?_
 clear J;rintro Z d ⟨h5,h6,h7,h26,h27,YU,h8⟩;simp[ah,aE,f141] at I;obtain⟨_,I,_⟩:=I;have G:ay [28,8] (ad b) Z ((28,.int .i64 ((0:Nat):Int))::(8,.int .u64 ((0:Nat):Int))::Z)=ay [28,8] (ad b) Z Z:=by simp[ay,YU,h8]
 rw[←G];refine bx (α:=Nat×List Nat×Nat) (fun a=>⟨ay [28,8] (ad b) Z ((28,.int .i64 (a.1:Int))::(8,.int .u64 (a.2.2:Int))::Z),mr A B a.2.1,d⟩) (fun a=>B.length-a.1)
  (fun a=>a.1≤B.length∧a.2.1.length=H.length∧lok 1000000000 a.2.1=true∧a.2.2<1000000000∧
   a.2.1.take (i+a.1)++(mA 1000000000 x (a.2.1.drop (i+a.1)) (B.drop a.1) a.2.2).1=H.take i++(mA 1000000000 x (H.drop i) B 0).1∧
   (mA 1000000000 x (a.2.1.drop (i+a.1)) (B.drop a.1) a.2.2).2=(mA 1000000000 x (H.drop i) B 0).2) (.exit 2) _ d _ (by simp) ?_ K (0,H,0) ⟨Nat.zero_le _,rfl,Y,by show(0:Nat)<1000000000;omega,rfl,rfl⟩ (by simpa using hK)
 rintro ⟨k,o,c⟩ ⟨hk,hol,Yf,hc,H1,ZH⟩;simp only at hk hol Yf hc H1 ZH;clear G;subst I;by_cases Q:k=B.length
 ·right
  subst Q;rw[List.drop_length,AK] at H1 ZH;simp only[List.take_append_drop] at H1;rw[←H1,←ZH];simp[h27]
 ·left
  have N:k<B.length:=by omega
  obtain⟨y,u,D⟩:=cM N;have m:=ed W u;have j:B.drop k=y::B.drop (k+1):=by rw[List.drop_eq_getElem_cons N,D]
  obtain⟨p,hp⟩:=xE (α:=Nat) (i+k);have X:p<o.length:=by omega
  obtain⟨z,hz,S⟩:=cM X;have hzb:=ed Yf hz;have eo:o.drop p=z::o.drop (p+1):=by rw[List.drop_eq_getElem_cons X,S]
  rw[←hp,j,eo,mA] at H1 ZH;have ZC:x*y≤999999999*999999999:=Nat.mul_le_mul (by omega) (by omega);obtain⟨s,C⟩:=xE (α:=Nat) (c+(z+x*y));rw[←C] at H1 ZH;obtain⟨V,R⟩:=xE (α:=Nat) (x*y);rw[←R] at ZC C;have M:(x:Int)*(y:Int)=(V:Int):=by rw[R];exact(Int.natCast_mul x y).symm
  have w1:IntKind.i64.wrap ((i:Int)+(k:Int))=(p:Int):=by rw[ae];omega
  have w2:IntKind.u64.wrap (V:Int)=(V:Int):=cC (by omega) (by omega);have w3:IntKind.u64.wrap ((z:Int)+(V:Int))=(z:Int)+(V:Int):=cC (by omega) (by omega);have w4:IntKind.u64.wrap ((c:Int)+((z:Int)+(V:Int)))=(s:Int):=by rw[cC (by omega) (by omega)];omega
  have w5:(s:Int).tmod 1000000000=(s:Int)%1000000000:=AM s 1000000000;have w6:IntKind.u64.wrap ((s:Int) / 1000000000)=(s:Int) / 1000000000:=cC (by omega) (by omega);have w7:IntKind.i64.wrap ((k:Int)+1)=(k:Int)+1:=ae;have hI:(p:Int)<(H.length:Int):=by omega
  have L:p+1≤o.length:=X;have hu:=SG .u64 o p (s%1000000000) X;refine⟨(k+1,o.take p++s%1000000000::o.drop (p+1),s / 1000000000),?_⟩;refine bt (r:=_∧_) (show(k+1≤B.length∧(o.take p++s%1000000000::o.drop (p+1)).length=H.length∧lok 1000000000 (o.take p++s%1000000000::o.drop (p+1))=true∧s / 1000000000<1000000000∧
    (o.take p++s%1000000000::o.drop (p+1)).take (i+(k+1))++(mA 1000000000 x ((o.take p++s%1000000000::o.drop (p+1)).drop (i+(k+1))) (B.drop (k+1)) (s / 1000000000)).1=H.take i++(mA 1000000000 x (H.drop i) B 0).1∧
    (mA 1000000000 x ((o.take p++s%1000000000::o.drop (p+1)).drop (i+(k+1))) (B.drop (k+1)) (s / 1000000000)).2=(mA 1000000000 x (H.drop i) B 0).2)∧B.length-(k+1)<B.length-k by
   have hq:i+(k+1)=p+1:=by omega
   rw[hq,Pc X,OK X];refine⟨⟨by omega,by rw[EK X,hol],?_,by omega,?_,ZH⟩,by omega⟩
   ·rw[nt,cI,iV Yf,iU Yf]
    simp;omega
   ·rw[←H1];simp) ?_
  clear H1 ZH;simp[mr,h5,h6,h7,h26,h27,D,S,hI,N,X,L,M,w1,w2,w3,w4,w5,w6,w7];simp[gW,ru,dh,ca]
theorem zU(A B y:List Nat)(j0 H:Nat)(ho:lok 1000000000 y=true)(J:H<1000000000)(hl:y.length≤1000000000)(W:j0≤y.length)(Y:au 1000000000 (y.drop j0)+H<1000000000 ^ (y.length-j0))(hK:y.length<K){b1 b2 b:Code}(I:ah f141=[b1,b2,b])(Yg:lv b=[11,8]):
  ∃F:Env→Bool→Env,∀Z d,(ab Z 5=.slice 2 0 y.length none∧ab Z 11=.int .i64 j0∧ab Z 8=.int .u64 H)→
   bh (ba prog) lv O K 79 2 true (.loop b) ⟨Z,mr A B y,d⟩=some (.exit 4,⟨F Z d,mr A B (y.take j0++iS 1000000000 (y.drop j0) H),d⟩)∧
    (ab (F Z d) 5=ab Z 5∧ab (F Z d) 1=ab Z 1∧ab (F Z d) 21=ab Z 21):=by
 refine bj Yg (fun Z=>ab Z 5=.slice 2 0 y.length none∧ab Z 11=.int .i64 j0∧ab Z 8=.int .u64 H)
  (fun Z S =>ab S 5=ab Z 5∧ab S 1=ab Z 1∧ab S 21=ab Z 21) ?_
 clear Yg;rintro Z d ⟨h5,h11,h8⟩;simp[ah,aE,f141] at I;obtain⟨_,_,I⟩:=I;have N:ay [11,8] (ad b) Z ((11,.int .i64 (j0:Int))::(8,.int .u64 (H:Int))::Z)=ay [11,8] (ad b) Z Z:=by simp[ay,h11,h8]
 rw[←N];refine bx (α:=Nat×List Nat×Nat) (fun a=>⟨ay [11,8] (ad b) Z ((11,.int .i64 (a.1:Int))::(8,.int .u64 (a.2.2:Int))::Z),mr A B a.2.1,d⟩) (fun a=>y.length-a.1)
  (fun a=>a.1≤y.length∧a.2.1.length=y.length∧lok 1000000000 a.2.1=true∧a.2.2<1000000000∧au 1000000000 (a.2.1.drop a.1)+a.2.2<1000000000 ^ (y.length-a.1)∧
   a.2.1.take a.1++iS 1000000000 (a.2.1.drop a.1) a.2.2=y.take j0++iS 1000000000 (y.drop j0) H) (.exit 4) _ d _ (by simp) ?_ K (j0,y,H) ⟨W,rfl,ho,J,Y,rfl⟩ (by simp;omega)
 rintro ⟨j,o,c⟩ ⟨hj,hol,Yf,hc,hf,H1⟩;simp only at hj hol Yf hc hf H1;clear N;subst I;by_cases X:c=0
 ·right
  subst X;rw[NK,List.take_append_drop] at H1;rw[←H1];simp
 ·left
  have V:j<o.length:=by
   rcases Nat.lt_or_ge j y.length with h | h
   ·omega
   ·have:y.length-j=0:=by omega
    rw[this,Nat.pow_zero] at hf;omega
  obtain⟨z,L,U⟩:=cM V;have G:=ed Yf L;have M:o.drop j=z::o.drop (j+1):=by rw[List.drop_eq_getElem_cons V,U]
  rw[M,iS,if_neg X] at H1;rw[M,au] at hf;obtain⟨s,D⟩:=xE (α:=Nat) (c+z);rw[←D] at H1;have w4:IntKind.u64.wrap ((c:Int)+(z:Int))=(s:Int):=by rw[cC (by omega) (by omega)];omega
  have w5:(s:Int).tmod 1000000000=(s:Int)%1000000000:=AM s 1000000000;have w6:IntKind.u64.wrap ((s:Int) / 1000000000)=(s:Int) / 1000000000:=cC (by omega) (by omega);have w7:IntKind.i64.wrap ((j:Int)+1)=(j:Int)+1:=ae;have C:(j:Int)<(y.length:Int):=by omega
  have u:j<y.length:=by omega
  have R:j+1≤o.length:=V;have Q:0<c:=by omega
  refine⟨(j+1,o.take j++s%1000000000::o.drop (j+1),s / 1000000000),?_⟩;refine bt (r:=_∧_) (show(j+1≤y.length∧(o.take j++s%1000000000::o.drop (j+1)).length=y.length∧lok 1000000000 (o.take j++s%1000000000::o.drop (j+1))=true∧s / 1000000000<1000000000∧
    au 1000000000 ((o.take j++s%1000000000::o.drop (j+1)).drop (j+1))+s / 1000000000<1000000000 ^ (y.length-(j+1))∧
    (o.take j++s%1000000000::o.drop (j+1)).take (j+1)++iS 1000000000 ((o.take j++s%1000000000::o.drop (j+1)).drop (j+1)) (s / 1000000000)=y.take j0++iS 1000000000 (y.drop j0) H)∧y.length-(j+1)<y.length-j by
   rw[Pc V,OK V];refine⟨⟨by omega,by rw[EK V,hol],?_,by omega,?_,?_⟩,by omega⟩
   ·rw[nt,cI,iV Yf,iU Yf]
    simp;omega
   ·have e:y.length-j=(y.length-(j+1))+1:=by omega
    rw[e,Nat.pow_succ] at hf;generalize 1000000000 ^ (y.length-(j+1))=p at*;omega
   ·rw[←H1];simp) ?_
  clear H1 hf Y;simp[mr,h5,U,C,V,R,Q,w4,w5,w6,w7];simp[gW,ru,dh,ca]
def eF(c:Code):List Nat:=if (ad c).contains 21 then [21] else if (ad c).contains 28 then [28,8] else [11,8]
theorem Xc{B i x:Nat}{o b:List Nat}(y:i+b.length≤o.length):o.take i++Q8 B x (o.drop i) b 0=
  (o.take i++(mA B x (o.drop i) b 0).1).take (i+b.length)++iS B ((o.take i++(mA B x (o.drop i) b 0).1).drop (i+b.length)) (mA B x (o.drop i) b 0).2:=by
 have Z:(o.take i).length=i:=by simp;omega
 have X:b.length≤(o.drop i).length:=by rw[List.length_drop];omega
 generalize o.take i=P at*;generalize o.drop i=Q at*;have V:(P++(mA B x Q b 0).1).take (i+b.length)=P++(mA B x Q b 0).1.take b.length:=by rw[List.take_append,List.take_of_length_le (by omega),Z,Nat.add_sub_cancel_left]
 have U:(P++(mA B x Q b 0).1).drop (i+b.length)=(mA B x Q b 0).1.drop b.length:=by rw[List.drop_append,List.drop_of_length_le (by omega),Z,Nat.add_sub_cancel_left,List.nil_append]
 rw[V,U,TB B x _ _ _ X,List.append_assoc]
theorem zR(A B:List Nat)(n:Nat)(hA:lok 1000000000 A=true)(H:lok 1000000000 B=true)(hl:n≤1000000000)(hn:n=A.length+B.length+1)(hK:n<K){b b2 b3:Code}(y:ah f141=[b,b2,b3]∧eF b=[21]∧eF b2=[28,8]∧eF b3=[11,8]):
  ∃F:Env→Bool→Env,∀Z d,(ab Z 5=.slice 2 0 n none∧ab Z 1=.slice 1 0 B.length none∧ab Z 19=.slice 0 0 A.length none∧ab Z 20=.int .i64 A.length∧ab Z 21=.int .i64 0)→
   bh (ba prog) eF O K 79 2 true (.loop b) ⟨Z,mr A B (List.replicate n 0),d⟩=some (.exit 0,⟨F Z d,mr A B (rY 1000000000 A B (List.replicate n 0)),d⟩)∧
    (ab (F Z d) 5=ab Z 5):=by
 refine bj y.2.1 (fun Z=>ab Z 5=.slice 2 0 n none∧ab Z 1=.slice 1 0 B.length none∧ab Z 19=.slice 0 0 A.length none∧ab Z 20=.int .i64 A.length∧ab Z 21=.int .i64 0)
  (fun Z AC =>ab AC 5=ab Z 5) ?_
 rintro Z d ⟨h5,j,h19,h20,h21⟩;have U:=y.1;simp[ah,aE,f141] at U;obtain⟨U,YL,Y⟩:=U;have Yi:ay [21] (ad b) Z ((21,.int .i64 ((0:Nat):Int))::Z)=ay [21] (ad b) Z Z:=by simp[ay,h21]
 rw[←Yi];have hz:au 1000000000 (List.replicate n 0)=0:=by
  clear hn hl hK h5;induction n with
  |zero=>rfl
  |succ n ih=>rw[List.replicate_succ,au,ih]
 have M:lok 1000000000 (List.replicate n 0)=true:=by unfold lok;rw[List.all_eq_true];intro d hd;rw[List.mem_replicate] at hd;simp[hd.2]
 have W:au 1000000000 A*au 1000000000 B<1000000000 ^ n:=by have j:=gd hA;have h2:=gd H;have h3:au 1000000000 A*au 1000000000 B<1000000000 ^ A.length*1000000000 ^ B.length:=Nat.mul_lt_mul_of_lt_of_lt j h2;rw[←Nat.pow_add] at h3;have h4:1000000000 ^ (A.length+B.length)≤1000000000 ^ n:=Nat.pow_le_pow_right (by omega) (by omega);omega
 refine bx (α:=Nat×List Nat) (fun a=>⟨ay [21] (ad b) Z ((21,.int .i64 (a.1:Int))::Z),mr A B a.2,d⟩) (fun a=>A.length-a.1)
  (fun a=>a.1≤A.length∧a.2.length=n∧lok 1000000000 a.2=true∧au 1000000000 (a.2.drop a.1)+au 1000000000 (A.drop a.1)*au 1000000000 B<1000000000 ^ (n-a.1)∧
   a.2.take a.1++rY 1000000000 (A.drop a.1) B (a.2.drop a.1)=rY 1000000000 A B (List.replicate n 0)) (.exit 0) _ d _ (by simp) ?_ K (0,List.replicate n 0) ⟨Nat.zero_le _,by simp,M,by simp only[List.drop_zero,Nat.sub_zero];rw[hz];omega,by simp⟩ (by simp;omega)
 rintro ⟨i,o⟩ ⟨hi,hol,Yf,hf,H1⟩;simp only at hi hol Yf hf H1;clear Yi W hz M;by_cases J:i=A.length
 ·right
  subst J;rw[List.drop_length,rY,List.take_append_drop] at H1;rw[←H1];subst U;simp[h20]
 ·left
  have I:i<A.length:=by omega
  obtain⟨x,hx,X9⟩:=cM I;have Ym:=ed hA hx;have eA:A.drop i=x::A.drop (i+1):=by rw[List.drop_eq_getElem_cons I,X9]
  rw[eA,rY] at H1;rw[eA,au,Nat.add_mul,Nat.mul_assoc] at hf;have C:(o.drop i).length=n-i:=by rw[List.length_drop,hol]
  have L:=iU Yf i;obtain⟨r1,r2⟩:=Co (B:=1000000000) (by omega) x (o.drop i) B 0 L (by rw[C];omega) (by omega);have G:=uH 1000000000 x (o.drop i) B 0;obtain⟨k1,k2,k3⟩:=LN (B:=1000000000) (by omega) Ym (o.drop i) B 0 L H (by omega) (by omega);have k4:=CS 1000000000 x (o.drop i) B 0;have N:=Xc (B:=1000000000) (x:=x) (o:=o) (b:=B) (i:=i) (by omega);obtain⟨Q,S⟩:=xE (o.take i++(mA 1000000000 x (o.drop i) B 0).1);obtain⟨c2,u⟩:=xE ((mA 1000000000 x (o.drop i) B 0).2);have adI:Q.length=n:=by rw[S,List.length_append,k4,C,List.length_take,hol];omega
  have adJ:lok 1000000000 Q=true:=by rw[S,nt,iV Yf,k1];rfl
  have D:au 1000000000 (Q.drop (i+B.length))+c2<1000000000 ^ (Q.length-(i+B.length)):=by
   have e1:Q.drop (i+B.length)=(mA 1000000000 x (o.drop i) B 0).1.drop B.length:=by rw[S,List.drop_append,List.length_take,hol,List.drop_of_length_le (by simp[hol];omega),List.nil_append];congr 1;omega
   have e2:au 1000000000 (mA 1000000000 x (o.drop i) B 0).1=au 1000000000 ((mA 1000000000 x (o.drop i) B 0).1.take B.length)+1000000000 ^ B.length*au 1000000000 ((mA 1000000000 x (o.drop i) B 0).1.drop B.length):=by
    conv=>lhs;rw[←List.take_append_drop B.length (mA 1000000000 x (o.drop i) B 0).1]
    rw[gC,List.length_take,k4,C,Nat.min_eq_left (by omega)]
   have e3:n-i=B.length+(Q.length-(i+B.length)):=by omega
   rw[e3,Nat.pow_add] at hf;rw[e1,u];have:1000000000 ^ B.length*(au 1000000000 ((mA 1000000000 x (o.drop i) B 0).1.drop B.length)+(mA 1000000000 x (o.drop i) B 0).2)<1000000000 ^ B.length*1000000000 ^ (Q.length-(i+B.length)):=by rw[Nat.mul_add];omega
   exact Nat.lt_of_mul_lt_mul_left this
  obtain⟨F2,m⟩:=zT (O:=O) (K:=K) (lv:=eF) A B o i x Ym H Yf (by omega) (by omega) (by omega) y.1 y.2.2.1;obtain⟨F3,X⟩:=zU (O:=O) (K:=K) (lv:=eF) A B Q (i+B.length) c2 adJ (by rw[u];exact k2) (by omega) (by omega) D (by omega) y.1 y.2.2.2;rw[←S,←u] at m N;rw[←N] at X;obtain⟨R,V⟩:=xE (o.take i++Q8 1000000000 x (o.drop i) B 0);rw[←V] at X;have adK:R.length=n:=by rw[V,List.length_append,G,C,List.length_take,hol];omega
  have adL:lok 1000000000 R=true:=by rw[V,nt,iV Yf,r2];rfl
  cases hrl:Q8 1000000000 x (o.drop i) B 0 with
  |nil=>rw[hrl] at G;simp at G;omega
  |cons dd rr=>
   rw[hrl] at H1 r1 G;simp only at H1;have e4:R.take (i+1)=o.take i++[dd]:=by
    rw[V,hrl,List.take_append,List.length_take,hol,List.take_of_length_le (by simp;omega)];have:i+1-min i n=1:=by omega
    rw[this];rfl
   have e5:R.drop (i+1)=rr:=by
    rw[V,hrl,List.drop_append,List.length_take,hol,List.drop_of_length_le (by simp;omega)];have:i+1-min i n=1:=by omega
    rw[this];rfl
   obtain⟨p,hp⟩:=xE (α:=Nat) (i+B.length);have w1:IntKind.i64.wrap ((i:Int)+(B.length:Int))=(p:Int):=by rw[ae];omega
   have w2:IntKind.i64.wrap ((i:Int)+1)=(i:Int)+1:=ae;have hI:(i:Int)<(A.length:Int):=by omega
   rw[←hp] at X;refine⟨(i+1,R),?_⟩;refine bt (r:=_∧_) (show(i+1≤A.length∧R.length=n∧lok 1000000000 R=true∧au 1000000000 (R.drop (i+1))+au 1000000000 (A.drop (i+1))*au 1000000000 B<1000000000 ^ (n-(i+1))∧
     R.take (i+1)++rY 1000000000 (A.drop (i+1)) B (R.drop (i+1))=rY 1000000000 A B (List.replicate n 0))∧A.length-(i+1)<A.length-i by
    rw[e4,e5];refine⟨⟨by omega,adK,adL,?_,by rw[←H1];simp⟩,by omega⟩;rw[au] at r1;have e:n-i=(n-(i+1))+1:=by omega
    rw[e,Nat.pow_succ] at hf;generalize 1000000000 ^ (n-(i+1))=q at*;omega) ?_
   rw[hol] at m;rw[adI] at X;clear H1 hf D r1 r2 G k1 k2 k3 k4 N e4 e5 hrl V S u;subst U;subst YL;subst Y;simp only[mr] at m X;simp[mr,h5,j,h19,h20,X9,hI,I,w1,w2,m,X]
theorem DS(A B:List Nat)(y:lok 1000000000 A=true)(H:lok 1000000000 B=true)(I:A.length≤100000000)(J:B.length≤100000000):
  ∃X,aU X=dig 1000000000 (au 1000000000 A*au 1000000000 B)∧aa (ba prog) eF (aT prog) bE (A.length+B.length+2) 141 [.slice 0 0 A.length none,.slice 1 0 B.length none] [.cells false 1 (iN .u64 A),.cells false 1 (iN .u64 B)]=
   some ⟨.slice 2 0 (aU X).length none,none,[.cells true 1 (iN .u64 X)]⟩:=by
 have L:aT prog 141=some f141:=by kernel_rfl
 obtain⟨b,V,U,Q⟩:∃b V U,ah f141=[b,V,U]∧eF b=[21]∧eF V=[28,8]∧eF U=[11,8]:=⟨_,_,_,rfl,by decide,by decide,by decide⟩
 obtain⟨n,S⟩:=xE (A.length+B.length+1);obtain⟨F,R⟩:=zR (O:=bE) (K:=A.length+B.length+2) A B n y H (by omega) S (by omega) Q;obtain⟨t1,t2,t3⟩:=QZ (B:=1000000000) (by omega) y H;rw[←S] at t1 t2 t3;obtain⟨X,N⟩:=xE (rY 1000000000 A B (List.replicate n 0));rw[←N] at t1 t2 t3 R;refine⟨X,by rw[←dC (by omega) t2,t1],?_⟩;obtain⟨Z,_⟩:=Q;simp[ah,aE,f141] at Z;obtain⟨Z,_,_⟩:=Z;subst Z;obtain⟨M,hs1⟩:=xE (α:=Nat) (A.length+B.length);have w1:IntKind.i64.wrap ((A.length:Int)+(B.length:Int))=(M:Int):=by rw[ae];omega
 have w2:IntKind.i64.wrap ((M:Int)+1)=(n:Int):=by rw[ae];omega
 have o:0≤(n:Int):=by omega
 have G:8*(n:Int)≤281474976710656:=by omega
 have D:(n:Int)≤281474976710656:=by omega
 have C:aW .u64 [.cells false 1 (iN .u64 A),.cells false 1 (iN .u64 B),.cells true 1 (iN .u64 X)] (.slice 2 0 n none)=some X:=
  aR rfl (by simp[t3]) (List.take_of_length_le (by simp[t3]))
 have u:X.length≤1000000000:=by omega
 clear S hs1 N;simp only[mr] at R;simp[aa,L,f141,w1,w2,G,D,R,bE,C,u,rz]
theorem HP{M:Mem}{x y:AV}{A B:List Nat}(H:lok 1000000000 A=true)(I:lok 1000000000 B=true)(J:A.length≤100000000)(W:B.length≤100000000)(Y:afi .u64 M x A)(hy:afi .u64 M y B):
  kO prog 141 [x,y] M (.slice M.length 0 (dig 1000000000 (au 1000000000 A*au 1000000000 B)).length none) (M++[.cells true 1 (iN .u64 (dig 1000000000 (au 1000000000 A*au 1000000000 B)))]):=by
 obtain⟨Z,X,h⟩:=DS A B H I J W;have:=(ar aj (aI _) iA (aP _) h).1;simp only[y9.mem,Option.getD_none,List.cons_append,List.nil_append] at this;have V:=kO.agY (m:=[.cells false 1 (iN .u64 A),.cells false 1 (iN .u64 B)]) this (Cb (di _));obtain⟨b,c,rfl,rfl,h3⟩:=kO.af1 (new:=[.cells true 1 (iN .u64 (aU Z))]) rfl V Y hy;rw[X] at h3;simpa [AV.ren,eL] using h3
theorem FF{A:List Nat}(Y:A.length=n)(hn:0<n)(hl:n≤1000000000)(I W y m0 eb:Nat)(ob oA:Bool)(M:Nat→Mem)(H:∀j,j≤n→(M j).length=m0)(hs:∀j,j≤n→(M j)[I]? =some (.cells ob eb [.slice W 0 n none]))(hr:∀j,j≤n→(M j)[W]? =some (.cells oA 1 (iN .u64 A)))(J:∀s∈M 0,s.refs m0=[])(hy:∀j,j<n→fN prog y [.int .i64 (j:Int),.int .u64 ((A.getD j 0:Nat):Int)] (M (j+1)) (.bool true) (M j)):
  kO prog 245 [.yield y,.ptr I 0] (M n) (.tuple []) (M 0):=by
 have B:aT prog 245=some f245:=by kernel_rfl
 obtain⟨O,u,S⟩:=jf (P:=prog) (fun j:Nat=>j<n) (fun _=>.yld y) (fun j=>[.int .i64 (j:Int),.int .u64 ((A.getD j 0:Nat):Int)]) (fun j=>M (j+1)) (fun j=>⟨.bool true,some (M j),[]⟩)
  (fun j o=>⟨by simpa [y9.mem] using hy j o,fun q m=>by cases m;rw[H j (by omega),H (j+1) (by omega)]⟩)
  (fun i j _ _ _ h _=>by
   simp only[List.cons.injEq,AV.int.injEq] at h;have:i=j:=by omega
   rw[this])
 obtain⟨b,U⟩:∃b,ah f245=[b]:=⟨_,rfl⟩
 have loop:∃F:Env→Env,∀Z,(ab Z 0=.yield y∧ab Z 1=.ptr I 0∧ab Z 3=.int .i64 ((n:Int)-1))→
   bh (ba prog) (fun _=>[3]) O (n+1) 19 m0 true (.loop b) ⟨Z,M n,false⟩=some (.exit 0,⟨F Z,M 0,true⟩)∧True:=by
  refine uI rfl false true (fun Z=>ab Z 0=.yield y∧ab Z 1=.ptr I 0∧ab Z 3=.int .i64 ((n:Int)-1)) (fun _ _=>True) ?_;rintro Z ⟨h0,h1,h3⟩;simp[ah,aE,f245] at U;have N:ay [3] (ad b) Z ((3,.int .i64 ((n:Int)-1))::Z)=ay [3] (ad b) Z Z:=by simp[ay,h3]
  rw[←N];have L:(⟨ay [3] (ad b) Z ((3,.int .i64 ((n:Int)-1))::Z),M n,false⟩:XS)=⟨ay [3] (ad b) Z ((3,.int .i64 ((n:Int)-1))::Z),M n,decide (n<n)⟩:=by simp
  rw[L];refine bx (α:=Nat) (fun k=>⟨ay [3] (ad b) Z ((3,.int .i64 ((k:Int)-1))::Z),M k,decide (k<n)⟩) id (fun k=>k≤n) (.exit 0) (M 0) true (fun _=>True) (by simp) ?_ (n+1) n (Nat.le_refl _) (by simp);intro k hk;clear N L;subst U;cases k with
  |zero=>
   right;simp[hn]
  |succ k=>
   left;have X:k<n:=by omega
   have e1:(((k+1:Nat):Int)-1)=(k:Int):=by omega
   have w1:IntKind.i64.wrap ((k:Int)-1)=(k:Int)-1:=ae;have l1:=H k (by omega);have V:=H n (by omega);have R:=hs (k+1) (by omega);have r1:=hr (k+1) (by omega);have D:=S k X;obtain⟨x,hx,X9⟩:=cM (l:=A) (i:=k) (by omega);have hg:A.getD k 0=x:=by simp[List.getD,hx]
   rw[hg] at D;rw[e1];refine⟨k,?_⟩;have adN :(k:Int)<(n:Int):=by omega
   simp[h0,h1,w1,l1,V,R,r1,X9,Y,X,D];omega
 obtain⟨F,hF⟩:=loop;simp[ah,aE,f245] at U;subst U;have w1:IntKind.i64.wrap ((n:Int)-1)=(n:Int)-1:=ae;have V:=H n (by omega);have R:=hs n (by omega);have Q:∃C,bh (ba prog) (fun _=>[3]) O (n+1) f245.ntmps (M n).length true (f245.body.getD .skip) ⟨dv 0 [.yield y,.ptr I 0],M n,false⟩=some (.normal,⟨C,M 0,true⟩):=by simp[f245,R,w1,V,hF]
 obtain⟨C,Q⟩:=Q;have:=KF (T:=ba prog) (G:=aT prog) (v:=.tuple []) B rfl (by simp[f245]) (.inl rfl) Q rfl (by rw[H 0 (by omega),V]) rfl (by rw[V];exact J);have h2:=(ar aj (aI _) u (aP _) this).1;simpa [y9.mem] using h2
def kY(A:List Nat)(d:Nat)(H:Array Tmp)(I y:Code)(J:Env)(j:Nat):Mem:=
 [.cells false 1 (iN .u64 A),.cells false 1 [.int .u64 (d:Int)],.cells true 0 [.slice 1 0 1 none],.cells true 0 [.slice 4 0 A.length none],
  .cells true 1 (iN .u64 (List.replicate j 0++(fE 1000000000 d (A.drop j)).1)),.cells true 0 [.int .u64 (((fE 1000000000 d (A.drop j)).2:Nat):Int)],.cells true 0 [.slice 0 0 A.length none],
  .loop ⟨.ready,none,J,146,H,I,y⟩]
variable{X' body:Code}{ps:Array Tmp}
section
variable (A:List Nat)(d:Nat)(Zx:0<d)(hd:d<1000000000)(hA:lok 1000000000 A=true)(hl:A.length≤1000000000)
include A d Zx hd hA hl
theorem DD(H:ee f157=[(ps,X',body)])(y:Env)(h3:ab y 3=.ptr 2 0)(h4:ab y 4=.ptr 3 0)(h6:ab y 6=.ptr 5 0)(I:y.flatMap (fun e=>e.2.refs 8)=[])(j:Nat)(J:j<A.length):
  fN prog 7 [.int .i64 (j:Int),.int .u64 ((A.getD j 0:Nat):Int)] (kY A d ps X' body y (j+1)) (.bool true) (kY A d ps X' body y j):=by
 obtain⟨x,C,W⟩:=cM J;have Ym:=ed hA C;have hg:A.getD j 0=x:=by simp[List.getD,C]
 have eA:A.drop j=x::A.drop (j+1):=by rw[List.drop_eq_getElem_cons J,W]
 rw[hg];have UV:cK X'=true∧cK body=true∧ps= #[27,28]:=by simp[ee,fB,f157] at H;obtain⟨rfl,rfl,rfl⟩:=H;exact⟨by decide,by decide,rfl⟩
 obtain⟨B,u,rfl⟩:=UV;have R:∀o,rW (rho 8 o) y=y:=fun o=>Ob I
 have Q:(fE 1000000000 d (A.drop j))=(((fE 1000000000 d (A.drop (j+1))).2*1000000000+x) / d::(fE 1000000000 d (A.drop (j+1))).1,((fE 1000000000 d (A.drop (j+1))).2*1000000000+x)%d):=by rw[eA];rfl
 obtain⟨i1,i2,i3,m⟩:=B6 Zx hd (A.drop (j+1)) (iU hA _);obtain⟨r,N⟩:=xE ((fE 1000000000 d (A.drop (j+1))).2);obtain⟨q,M⟩:=xE ((fE 1000000000 d (A.drop (j+1))).1);rw[←N,←M] at Q;rw[←N] at i1;rw[←M] at m;have X:kY A d #[27,28] X' body y (j+1)=[.cells false 1 (iN .u64 A),.cells false 1 [.int .u64 (d:Int)],.cells true 0 [.slice 1 0 1 none],.cells true 0 [.slice 4 0 A.length none],
  .cells true 1 (iN .u64 (List.replicate (j+1) 0++q)),.cells true 0 [.int .u64 (r:Int)],.cells true 0 [.slice 0 0 A.length none],.loop ⟨.ready,none,y,146,#[27,28],X',body⟩]:=by rw[N,M];rfl
 obtain⟨s,hs⟩:=xE (α:=Nat) (r*1000000000+x);rw[←hs] at Q;have V:kY A d #[27,28] X' body y j=[.cells false 1 (iN .u64 A),.cells false 1 [.int .u64 (d:Int)],.cells true 0 [.slice 1 0 1 none],.cells true 0 [.slice 4 0 A.length none],
  .cells true 1 (iN .u64 (List.replicate j 0++s / d::q)),.cells true 0 [.int .u64 ((s%d:Nat):Int)],.cells true 0 [.slice 0 0 A.length none],.loop ⟨.ready,none,y,146,#[27,28],X',body⟩]:=by unfold kY;rw[Q]
 rw[X,V];have hql:q.length=A.length-(j+1):=by rw[m,List.length_drop]
 have hsd:s / d≤s:=Nat.div_le_self _ _;have hsm:s%d<d:=Nat.mod_lt _ Zx;obtain⟨U,Z⟩:=xE (s / d);obtain⟨Y,S⟩:=xE (s%d);have w1:IntKind.u64.wrap ((r:Int)*1000000000)=(r:Int)*1000000000:=cC (by omega) (by omega);have w2:IntKind.u64.wrap ((r:Int)*1000000000+(x:Int))=(s:Int):=by rw[cC (by omega) (by omega)];omega
 have w3:IntKind.u64.wrap ((s:Int).tdiv (d:Int))=(U:Int):=by rw[wO,←Z];exact cC (by omega) (by omega)
 have L :IntKind.u64.wrap ((s:Int) / (d:Int))=(U:Int):=by rw[←Int.natCast_ediv,←Z];exact cC (by omega) (by omega)
 have w4:(s:Int).tmod (d:Int)=(Y:Int):=by rw[wP,←S]
 have G:¬d=0:=by omega
 have F:(j:Int)<(A.length:Int):=by omega
 have D:(iN .u64 (List.replicate (j+1) 0++q)).take j++.int .u64 (U:Int)::(iN .u64 (List.replicate (j+1) 0++q)).drop (j+1)=iN .u64 (List.replicate j 0++U::q):=by rw[SG _ _ _ _ (by simp;omega)];congr 1;rw[List.take_append_of_le_length (by simp),List.take_replicate,List.drop_append,List.drop_of_length_le (by simp)];simp
 have Zy:(List.replicate (j+1) 0++q).take j=List.replicate j 0:=by rw[List.take_append_of_le_length (by simp),List.take_replicate];congr 1;omega
 have hjq:j+1≤(List.replicate (j+1) 0++q).length:=by simp
 rw[←Z,←S];have hc:xO (ba prog) (fun _=>[]) cN 1 7 [.int .i64 (j:Int),.int .u64 (x:Int)] [.cells false 1 (iN .u64 A),.cells false 1 [.int .u64 (d:Int)],.cells true 0 [.slice 1 0 1 none],.cells true 0 [.slice 4 0 A.length none],
  .cells true 1 (iN .u64 (List.replicate (j+1) 0++q)),.cells true 0 [.int .u64 (r:Int)],.cells true 0 [.slice 0 0 A.length none],.loop ⟨.ready,none,y,146,#[27,28],X',body⟩]=some ⟨.bool true,some [.cells false 1 (iN .u64 A),.cells false 1 [.int .u64 (d:Int)],.cells true 0 [.slice 1 0 1 none],.cells true 0 [.slice 4 0 A.length none],
  .cells true 1 (iN .u64 (List.replicate j 0++U::q)),.cells true 0 [.int .u64 (Y:Int)],.cells true 0 [.slice 0 0 A.length none],.loop ⟨.ready,none,y,146,#[27,28],X',body⟩],[]⟩:=by
  clear X V D;simp[xO,B,u];simp[ee,fB,f157] at H;obtain⟨rfl,rfl⟩:=H;clear B u;simp[h3,h4,h6,w1,w2,L,w4,G,F,I,R,rF,mN,gW,ru,Nat.testBit];rw[Zy,dh,ca]
 have:=(pd aj (aI _) (ax _) hc).1;simpa [y9.mem] using this
theorem DC(y:0<A.length)(H:ee f157=[(ps,X',body)]):
  ∃O:ae3,qS prog O∧∀Z,(ab Z 3=.ptr 2 0∧ab Z 4=.ptr 3 0∧ab Z 6=.ptr 5 0∧Z.flatMap (fun e=>e.2.refs 8)=[])→
   O (.fn 245) [.yield 7,.ptr 6 0] (kY A d ps X' body Z A.length)=some ⟨.tuple [],some (kY A d ps X' body Z 0),[]⟩:=by
 refine jf (ι:=Env) (fun Z=>ab Z 3=.ptr 2 0∧ab Z 4=.ptr 3 0∧ab Z 6=.ptr 5 0∧Z.flatMap (fun e=>e.2.refs 8)=[]) (fun _=>.fn 245) (fun _=>[.yield 7,.ptr 6 0]) (fun Z=>kY A d ps X' body Z A.length) (fun Z=>⟨.tuple [],some (kY A d ps X' body Z 0),[]⟩) ?_ ?_
 ·rintro Z ⟨h3,h4,h6,he⟩
  refine⟨?_,fun q V=>by cases V;rfl⟩;have:=FF (n:=A.length) (A:=A) rfl y hl 6 0 7 8 0 true false (kY A d ps X' body Z) (fun _ _=>rfl) (fun _ _=>rfl) (fun _ _=>rfl) (fun s X=>by simp only[kY,lM] at X;rcases X with rfl | rfl | rfl | rfl | rfl | rfl | rfl | rfl;all_goals first | exact wJ he | simp) (fun j U=>DD A d Zx hd hA hl H Z h3 h4 h6 he j U)
  simpa [y9.mem] using this
 ·intro i j _ _ _ _ h
  simp only[kY,List.cons.injEq,afb.loop.injEq,agd.mk.injEq,and_true,true_and] at h;rw[h]
end
theorem uD(T:TypeId→Option TyI)(lv:Code→List Nat)(O:ae3)(K N m0:Nat)(g:Operand)(ps:Array Tmp)(X' body:Code)(s:XS):bh T lv O K N m0 true (.rangeFunc g ps X' body) s=match get s.env g with
   |.func f caps=>match O (.fn f) (.yield s.mem.length::caps) (s.mem++[.loop ⟨.ready,none,s.env,N,ps,X',body⟩]) with
    |some r=>match (r.mem (s.mem++[.loop ⟨.ready,none,s.env,N,ps,X',body⟩]))[s.mem.length]? with
     |some (.loop r2)=>if r2.st== .busy then none else match yP r2.agc with
      |some e=>some (e,⟨s.env,(r.mem (s.mem++[.loop ⟨.ready,none,s.env,N,ps,X',body⟩])).set s.mem.length (.loop { r2 with st:=.exhausted }),s.afv||r.pre.isSome⟩)
      |none=>none
     |_=>none
    |none=>none
   |_=>none:=rfl
theorem AS(b n:Nat)(m:Mem)(y:b<m.length):aa (ba prog) (fun _=>[]) (aT prog) cN 1 208 [.slice b 0 n none] m=some ⟨.func 245 [.ptr m.length 0],none,[.cells true 0 [.slice b 0 n none]]⟩:=by
 have Z:aT prog 208=some f208:=by kernel_rfl
 simp[aa,Z,f208,y,List.idxOf?]
end Go.Proofs
