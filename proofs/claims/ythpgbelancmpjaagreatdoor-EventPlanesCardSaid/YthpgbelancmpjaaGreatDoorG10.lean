/- See G38. -/
import Derived.Test.YthpgbelancmpjaaGreatDoorG09
set_option linter.all false
namespace Go.Eng
def mT(B x:Nat):List Nat->List Nat->Nat->List Nat×Nat
 |o,[],c=>(o,c)
 | [],_::_,c=>([],c)
 |o::l,y::b,c=>((c+(o+x*y))%B::(mT B x l b ((c+(o+x*y)) / B)).1,(mT B x l b ((c+(o+x*y)) / B)).2)
theorem AZ(B x:Nat)(o:List Nat)(c:Nat):mT B x o [] c=(o,c):=by cases o<;>rfl
theorem Dd(B x:Nat):∀(o b:List Nat) (c:Nat),(mT B x o b c).1.length=o.length
 |o,[],c=>by rw[AZ]
 | [],_::_,_=>rfl
 |o::l,y::b,c=>by simp[mT,Dd B x l b]
theorem Uf(B x:Nat):∀(o b:List Nat) (c:Nat),b.length<=o.length->RL B x o b c=(mT B x o b c).1.take b.length++jE B ((mT B x o b c).1.drop b.length) (mT B x o b c).2
 |o,[],c,_=>by rw[AZ];cases o<;>rfl
 | [],_::_,_,h=>by simp at h
 |o::l,y::b,c,h=>by rw[RL,mT,Uf B x l b _ (by simpa using h)];simp
theorem Mn{B:Nat}(H:2<=B){x:Nat}(I:x<B):∀(o b:List Nat) (c:Nat),lok B o=true->lok B b=true->c<B->b.length<=o.length->
  lok B (mT B x o b c).1=true/\(mT B x o b c).2<B/\ao B (mT B x o b c).1+B ^ b.length*(mT B x o b c).2=ao B o+x*ao B b+c
 |o,[],c,ho,_,hc,_=>by rw[AZ];simp only[ao,List.length_nil,Nat.pow_zero,Nat.mul_zero,Nat.one_mul];exact⟨ho,hc,by omega⟩
 | [],_::_,_,_,_,_,h=>by simp at h
 |o::l,y::b,c,ho,hb,hc,h=>by
  rw[cX,Es,GE] at ho hb;have Z:x*y<=(B-1)*(B-1):=Nat.mul_le_mul (by omega) (by omega);have X:(c+(o+x*y)) / B<B:=by
   rw[Nat.div_lt_iff_lt_mul (by omega)];obtain⟨q,rfl⟩:∃q,B=q+1:=⟨B-1,by omega⟩
   have N:(q+1)*(q+1)=q*q+q+q+1:=by rw[Nat.add_mul,Nat.mul_add];omega
   simp only[Nat.add_sub_cancel] at Z;omega
  obtain⟨V,U,S⟩:=Mn H I l b _ ho.2 hb.2 X (by simpa using h);have R:=Nat.mod_add_div (c+(o+x*y)) B;have e:x*(y+B*ao B b)=x*y+B*(x*ao B b):=by rw[Nat.mul_add,<-QXZ,<-QXZ,QQZ x B]
  have O:B ^ (b.length+1)*(mT B x l b ((c+(o+x*y)) / B)).2=B*(B ^ b.length*(mT B x l b ((c+(o+x*y)) / B)).2):=by rw[Nat.pow_succ,QQZ (B ^ b.length) B,QXZ]
  simp only[mT];refine⟨?_,U,?_⟩
  .rw[cX,V];simp[Nat.mod_lt (c+(o+x*y)) (show 0<B by omega)]
  .rw[ao,ao,ao,e,List.length_cons,O]
   have:=congrArg (B*·) S;simp only[Nat.mul_add] at this;omega
theorem Oa(B:Nat)(l:List Nat):jE B l 0=l:=by cases l<;>simp[jE]
theorem sZ(B:Nat){l:List Nat}{n:Nat}(H:n<=l.length):ao B l=ao B (l.take n)+B ^ n*ao B (l.drop n):=by
 conv=>lhs;rw[<-List.take_append_drop n l]
 rw[im,SP,Nat.min_eq_left H]
variable{B b m r:Nat}
theorem VM{D top:Nat}(H:2<=B)(hm:(dig B b).length=m)(ZA:1<=m)(I:(dig B b)[m-1]? =some top)(hr:r<B*b)(J:b<=r)(Y:((dig B r).length=m/\(dig B r)[m-1]? =some D)\/((dig B r).length=m+1/\∃h l,(dig B r)[m]? =some h/\(dig B r)[m-1]? =some l/\D=h*B+l)):
  0<top/\r / b<=D / top/\r / b<=B-1:=by
 have C:=bL H b;have u:=ca H b;have Z:=bL H r;have X:=ca H r;have G:m-1<(dig B b).length:=by omega
 have F:(dig B b)[m-1]=top:=(O2.1 I).2;have ZV:b=ao B ((dig B b).take (m-1))+B ^ (m-1)*top:=by have:=sZ B (l:=dig B b) (n:=m-1) (by omega);rw[C,N0 G,F,ZN (by omega)] at this;simpa [ao] using this
 have V:0<top:=by
  rcases QQK top with h | h
  .have S:=cm H b
   have U:aW (dig B b)=aW ((dig B b).take (m-1)):=by
    conv=>lhs;rw[<-List.take_append_drop (m-1) (dig B b),N0 G,F,ZN (by omega),h]
    exact jK _
   have h3:=dm ((dig B b).take (m-1));rw[<-U,S,SP] at h3;omega
  .exact h
 have R:0<b:=by
  rcases QQK b with h | h
  .subst h;simp at hr
  .exact h
 have o:r / b*b<=r:=Nat.div_mul_le_self r b;have O:top*B ^ (m-1)<=b:=by rw[QQZ];omega
 have N:r<(D+1)*B ^ (m-1):=by
  rcases Y with⟨S,U⟩ | ⟨S,h,l,U,h3,rfl⟩
  .have M:m-1<(dig B r).length:=by omega
   have e:=sZ B (l:=dig B r) (n:=m-1) (by omega);rw[Z,N0 M,(O2.1 U).2,ZN (by omega)] at e;have L:=gW (jJ X (m-1));rw[SP,Nat.min_eq_left (by omega)] at L;simp[ao] at e;rw[Nat.add_mul,Nat.one_mul,QQZ D];omega
  .have M:m-1<(dig B r).length:=by omega
   have j:m-1+1<(dig B r).length:=by omega
   have K :m-1+1=m:=by omega
   have e:=sZ B (l:=dig B r) (n:=m-1) (by omega);rw[Z,N0 M,(O2.1 h3).2,N0 j,ZN (by omega)] at e;have e5:(dig B r)[m-1+1]=h:=by have:=(O2.1 U).2;simp only[K];exact this
   rw[e5] at e;have L:=gW (jJ X (m-1));rw[SP,Nat.min_eq_left (by omega)] at L;simp only[ao,Nat.mul_zero,Nat.add_zero] at e;rw[Nat.mul_add] at e;have e6:(h*B+l+1)*B ^ (m-1)=B ^ (m-1)*l+B ^ (m-1)*(B*h)+B ^ (m-1):=by rw[Nat.add_mul,Nat.add_mul,Nat.one_mul,QQZ (h*B),QQZ l,QQZ h B];omega
   omega
 refine⟨V,VL N O o V,?_⟩;have:r / b<B:=by rw[Nat.div_lt_iff_lt_mul R];exact hr
 omega
theorem yg(H:2<=B)(I:(dig B b).length=m)(hr:r<B*b)(J:b<=r):(dig B r).length=m\/(dig B r).length=m+1:=by
 have X:m<=(dig B r).length:=by
  rcases Nat.lt_or_ge (dig B r).length m with h | h
  .have:=dU H (m:=r) (n:=b) (by omega);omega
  .exact h
 have Z:r<B ^ (m+1):=by have:=sU H b;rw[I] at this;rw[Nat.pow_succ,QQZ];exact QXK hr (Nat.mul_le_mul_left _ (by omega))
 have:=fH H Z;omega
theorem GY{a:Nat}(H:2<=B)(I:a<B):aW (a::dig B r)=dig B (a+B*r):=by rw[<-dV H (show lok B (a::dig B r)=true by rw[cX,ca H];simp[I]),ao,bL H]
end Go.Eng
namespace Go.Proofs
open Go.Eng
open Tryz
def mN(A B o:List Nat):Mem:=[.cells false 1 (iN .u64 A),.cells false 1 (iN .u64 B),.cells true 1 (iN .u64 o)]
theorem Tu(k:IntKind)(l:List Nat)(i n:Nat)(h:i<l.length):(iN k l).take i++.int k (n:Int)::(iN k l).drop (i+1)=iN k (l.take i++n::l.drop (i+1)):=by simp[iJ,rQ,dE,cr]
variable{i n:Nat}{l:List Nat}
theorem PJ(h:i<l.length):(l.take i++n::l.drop (i+1)).take (i+1)=l.take i++[n]:=by
 have:(l.take i).length=i:=by simp;omega
 rw[List.take_append,this];have e:i+1-i=1:=by omega
 rw[e,B5 (by omega)];rfl
theorem Pc(h:i<l.length):(l.take i++n::l.drop (i+1)).drop (i+1)=l.drop (i+1):=by
 have:(l.take i).length=i:=by simp;omega
 rw[List.drop_append,this];have e:i+1-i=1:=by omega
 rw[e,ZN (by omega)];rfl
theorem EV(h:i<l.length):(l.take i++n::l.drop (i+1)).length=l.length:=by simp;omega
variable{K:Nat}{O:y9}{lv:Code->List Nat}
theorem Ai(A B H:List Nat)(i x:Nat)(hx:x<1000000000)(Y:lok 1000000000 B=true)(ho:lok 1000000000 H=true)(hl:H.length<=1000000000)(hn:i+B.length<H.length)(hK:B.length<K){b1 b b3:Code}(I:ag f211=[b1,b,b3])(J:lv b=[28,8]):
  ∃F:Env->Bool->Env,∀Z d,(ad Z 5=.slice 2 0 H.length none/\ad Z 6=.int .i64 i/\ad Z 7=.int .u64 x/\ad Z 26=.slice 1 0 B.length none/\ad Z 27=.int .i64 B.length/\ad Z 28=.int .i64 0/\ad Z 8=.int .u64 0)->
   aL (aX prog) lv O K 79 2 true (.loop b) ⟨Z,mN A B H,d⟩=some (.exit 2,⟨F Z d,mN A B (H.take i++(mT 1000000000 x (H.drop i) B 0).1),d⟩)/\
    (ad (F Z d) 8=.int .u64 (((mT 1000000000 x (H.drop i) B 0).2:Nat):Int)/\ad (F Z d) 5=ad Z 5/\ad (F Z d) 6=ad Z 6/\ad (F Z d) 1=ad Z 1/\ad (F Z d) 21=ad Z 21):=by
 refine bj J (fun Z=>ad Z 5=.slice 2 0 H.length none/\ad Z 6=.int .i64 i/\ad Z 7=.int .u64 x/\ad Z 26=.slice 1 0 B.length none/\ad Z 27=.int .i64 B.length/\ad Z 28=.int .i64 0/\ad Z 8=.int .u64 0)
  (fun Z U =>ad U 8=.int .u64 (((mT 1000000000 x (H.drop i) B 0).2:Nat):Int)/\ad U 5=ad Z 5/\ad U 6=ad Z 6/\ad U 1=ad Z 1/\ad U 21=ad Z 21) ?_
 clear J;rintro Z d ⟨h5,h6,h7,h26,h27,h28,h8⟩;simp[ag,aE,f211] at I;obtain⟨_,I,_⟩:=I;have m:an [28,8] (aa b) Z ((28,.int .i64 ((0:Nat):Int))::(8,.int .u64 ((0:Nat):Int))::Z)=an [28,8] (aa b) Z Z:=by simp[an,h28,h8]
 rw[<-m];refine bI (α:=Nat×List Nat×Nat) (fun a=>⟨an [28,8] (aa b) Z ((28,.int .i64 (a.1:Int))::(8,.int .u64 (a.2.2:Int))::Z),mN A B a.2.1,d⟩) (fun a=>B.length-a.1)
  (fun a=>a.1<=B.length/\a.2.1.length=H.length/\lok 1000000000 a.2.1=true/\a.2.2<1000000000/\
   a.2.1.take (i+a.1)++(mT 1000000000 x (a.2.1.drop (i+a.1)) (B.drop a.1) a.2.2).1=H.take i++(mT 1000000000 x (H.drop i) B 0).1/\
   (mT 1000000000 x (a.2.1.drop (i+a.1)) (B.drop a.1) a.2.2).2=(mT 1000000000 x (H.drop i) B 0).2) (.exit 2) _ d _ (by simp) ?_ K (0,H,0) ⟨Nat.zero_le _,rfl,ho,by show(0:Nat)<1000000000;omega,rfl,rfl⟩ (by simpa using hK)
 rintro ⟨k,o,c⟩ ⟨hk,hol,ZF,hc,PP,aap⟩;simp only at hk hol ZF hc PP aap;clear m;subst I;by_cases M:k=B.length
 .right
  subst M;rw[List.drop_length,AZ] at PP aap;simp only[List.take_append_drop] at PP;rw[<-PP,<-aap];simp[h27]
 .left
  have L:k<B.length:=by omega
  obtain⟨y,hy,S⟩:=de L;have hyb:=fa Y hy;have eB:B.drop k=y::B.drop (k+1):=by rw[N0 L,S]
  obtain⟨p,hp⟩:=xE (α:=Nat) (i+k);have X:p<o.length:=by omega
  obtain⟨z,hz,R⟩:=de X;have hzb:=fa ZF hz;have eo:o.drop p=z::o.drop (p+1):=by rw[N0 X,R]
  rw[<-hp,eB,eo,mT] at PP aap;have G:x*y<=999999999*999999999:=Nat.mul_le_mul (by omega) (by omega);obtain⟨s,j⟩:=xE (α:=Nat) (c+(z+x*y));rw[<-j] at PP aap;obtain⟨V,N⟩:=xE (α:=Nat) (x*y);rw[<-N] at G j;have C:(x:Int)*(y:Int)=(V:Int):=by rw[N];exact(Int.natCast_mul x y).symm
  have w1:IntKind.i64.wrap ((i:Int)+(k:Int))=(p:Int):=by rw[af];omega
  have w2:IntKind.u64.wrap (V:Int)=(V:Int):=cS (by omega) (by omega);have w3:IntKind.u64.wrap ((z:Int)+(V:Int))=(z:Int)+(V:Int):=cS (by omega) (by omega);have w4:IntKind.u64.wrap ((c:Int)+((z:Int)+(V:Int)))=(s:Int):=by rw[cS (by omega) (by omega)];omega
  have w5:(s:Int).tmod 1000000000=(s:Int)%1000000000:=A4 s 1000000000;have w6:IntKind.u64.wrap ((s:Int) / 1000000000)=(s:Int) / 1000000000:=cS (by omega) (by omega);have w7:IntKind.i64.wrap ((k:Int)+1)=(k:Int)+1:=af;have hI:(p:Int)<(H.length:Int):=by omega
  have u:p+1<=o.length:=X;have hu:=Tu .u64 o p (s%1000000000) X;refine⟨(k+1,o.take p++s%1000000000::o.drop (p+1),s / 1000000000),?_⟩;refine bt (r:=_/\_) (show(k+1<=B.length/\(o.take p++s%1000000000::o.drop (p+1)).length=H.length/\lok 1000000000 (o.take p++s%1000000000::o.drop (p+1))=true/\s / 1000000000<1000000000/\
    (o.take p++s%1000000000::o.drop (p+1)).take (i+(k+1))++(mT 1000000000 x ((o.take p++s%1000000000::o.drop (p+1)).drop (i+(k+1))) (B.drop (k+1)) (s / 1000000000)).1=H.take i++(mT 1000000000 x (H.drop i) B 0).1/\
    (mT 1000000000 x ((o.take p++s%1000000000::o.drop (p+1)).drop (i+(k+1))) (B.drop (k+1)) (s / 1000000000)).2=(mT 1000000000 x (H.drop i) B 0).2)/\B.length-(k+1)<B.length-k by
   have hq:i+(k+1)=p+1:=by omega
   rw[hq,PJ X,Pc X];refine⟨⟨by omega,by rw[EV X,hol],?_,by omega,?_,aap⟩,by omega⟩
   .rw[nZ,cX,jJ ZF,jI ZF]
    simp;omega
   .rw[<-PP];simp) ?_
  clear PP aap;simp[mN,h5,h6,h7,h26,h27,S,R,hI,L,X,u,C,w1,w2,w3,w4,w5,w6,w7];simp[iJ,rQ,dE,cr]
theorem Aj(A B H:List Nat)(j0 I:Nat)(ho:lok 1000000000 H=true)(hc0:I<1000000000)(hl:H.length<=1000000000)(hj0:j0<=H.length)(J:ao 1000000000 (H.drop j0)+I<1000000000 ^ (H.length-j0))(hK:H.length<K){b1 b2 b:Code}(Y:ag f211=[b1,b2,b])(Zz:lv b=[11,8]):
  ∃F:Env->Bool->Env,∀Z d,(ad Z 5=.slice 2 0 H.length none/\ad Z 11=.int .i64 j0/\ad Z 8=.int .u64 I)->
   aL (aX prog) lv O K 79 2 true (.loop b) ⟨Z,mN A B H,d⟩=some (.exit 4,⟨F Z d,mN A B (H.take j0++jE 1000000000 (H.drop j0) I),d⟩)/\
    (ad (F Z d) 5=ad Z 5/\ad (F Z d) 1=ad Z 1/\ad (F Z d) 21=ad Z 21):=by
 refine bj Zz (fun Z=>ad Z 5=.slice 2 0 H.length none/\ad Z 11=.int .i64 j0/\ad Z 8=.int .u64 I)
  (fun Z S =>ad S 5=ad Z 5/\ad S 1=ad Z 1/\ad S 21=ad Z 21) ?_
 clear Zz;rintro Z d ⟨h5,h11,h8⟩;simp[ag,aE,f211] at Y;obtain⟨_,_,Y⟩:=Y;have M:an [11,8] (aa b) Z ((11,.int .i64 (j0:Int))::(8,.int .u64 (I:Int))::Z)=an [11,8] (aa b) Z Z:=by simp[an,h11,h8]
 rw[<-M];refine bI (α:=Nat×List Nat×Nat) (fun a=>⟨an [11,8] (aa b) Z ((11,.int .i64 (a.1:Int))::(8,.int .u64 (a.2.2:Int))::Z),mN A B a.2.1,d⟩) (fun a=>H.length-a.1)
  (fun a=>a.1<=H.length/\a.2.1.length=H.length/\lok 1000000000 a.2.1=true/\a.2.2<1000000000/\ao 1000000000 (a.2.1.drop a.1)+a.2.2<1000000000 ^ (H.length-a.1)/\
   a.2.1.take a.1++jE 1000000000 (a.2.1.drop a.1) a.2.2=H.take j0++jE 1000000000 (H.drop j0) I) (.exit 4) _ d _ (by simp) ?_ K (j0,H,I) ⟨hj0,rfl,ho,hc0,J,rfl⟩ (by simp;omega)
 rintro ⟨j,o,c⟩ ⟨hj,hol,ZF,hc,hf,PP⟩;simp only at hj hol ZF hc hf PP;clear M;subst Y;by_cases V:c=0
 .right
  subst V;rw[Oa,List.take_append_drop] at PP;rw[<-PP];simp
 .left
  have X:j<o.length:=by
   rcases Nat.lt_or_ge j H.length with h | h
   .omega
   .have:H.length-j=0:=by omega
    rw[this,Nat.pow_zero] at hf;omega
  obtain⟨z,G,U⟩:=de X;have C:=fa ZF G;have L:o.drop j=z::o.drop (j+1):=by rw[N0 X,U]
  rw[L,jE,if_neg V] at PP;rw[L,ao] at hf;obtain⟨s,u⟩:=xE (α:=Nat) (c+z);rw[<-u] at PP;have w4:IntKind.u64.wrap ((c:Int)+(z:Int))=(s:Int):=by rw[cS (by omega) (by omega)];omega
  have w5:(s:Int).tmod 1000000000=(s:Int)%1000000000:=A4 s 1000000000;have w6:IntKind.u64.wrap ((s:Int) / 1000000000)=(s:Int) / 1000000000:=cS (by omega) (by omega);have w7:IntKind.i64.wrap ((j:Int)+1)=(j:Int)+1:=af;have m:(j:Int)<(H.length:Int):=by omega
  have hIn:j<H.length:=by omega
  have R:j+1<=o.length:=X;have N:0<c:=by omega
  refine⟨(j+1,o.take j++s%1000000000::o.drop (j+1),s / 1000000000),?_⟩;refine bt (r:=_/\_) (show(j+1<=H.length/\(o.take j++s%1000000000::o.drop (j+1)).length=H.length/\lok 1000000000 (o.take j++s%1000000000::o.drop (j+1))=true/\s / 1000000000<1000000000/\
    ao 1000000000 ((o.take j++s%1000000000::o.drop (j+1)).drop (j+1))+s / 1000000000<1000000000 ^ (H.length-(j+1))/\
    (o.take j++s%1000000000::o.drop (j+1)).take (j+1)++jE 1000000000 ((o.take j++s%1000000000::o.drop (j+1)).drop (j+1)) (s / 1000000000)=H.take j0++jE 1000000000 (H.drop j0) I)/\H.length-(j+1)<H.length-j by
   rw[PJ X,Pc X];refine⟨⟨by omega,by rw[EV X,hol],?_,by omega,?_,?_⟩,by omega⟩
   .rw[nZ,cX,jJ ZF,jI ZF]
    simp;omega
   .have e:H.length-j=(H.length-(j+1))+1:=by omega
    rw[e,Nat.pow_succ] at hf;generalize 1000000000 ^ (H.length-(j+1))=p at*;omega
   .rw[<-PP];simp) ?_
  clear PP hf J;simp[mN,h5,U,m,X,R,N,w4,w5,w6,w7];simp[iJ,rQ,dE,cr]
def ft(c:Code):List Nat:=if (aa c).contains 21 then [21] else if (aa c).contains 28 then [28,8] else [11,8]
theorem Yu{B i x:Nat}{o b:List Nat}(H:i+b.length<=o.length):o.take i++RL B x (o.drop i) b 0=
  (o.take i++(mT B x (o.drop i) b 0).1).take (i+b.length)++jE B ((o.take i++(mT B x (o.drop i) b 0).1).drop (i+b.length)) (mT B x (o.drop i) b 0).2:=by
 have Z:(o.take i).length=i:=by simp;omega
 have X:b.length<=(o.drop i).length:=by rw[QXX];omega
 generalize o.take i=P at*;generalize o.drop i=Q at*;have V:(P++(mT B x Q b 0).1).take (i+b.length)=P++(mT B x Q b 0).1.take b.length:=by rw[List.take_append,B5 (by omega),Z,Nat.add_sub_cancel_left]
 have U:(P++(mT B x Q b 0).1).drop (i+b.length)=(mT B x Q b 0).1.drop b.length:=by rw[List.drop_append,ZN (by omega),Z,Nat.add_sub_cancel_left,List.nil_append]
 rw[V,U,Uf B x _ _ _ X,QQQ]
theorem Ah(A B:List Nat)(n:Nat)(hA:lok 1000000000 A=true)(I:lok 1000000000 B=true)(hl:n<=1000000000)(hn:n=A.length+B.length+1)(hK:n<K){b b2 b3:Code}(H:ag f211=[b,b2,b3]/\ft b=[21]/\ft b2=[28,8]/\ft b3=[11,8]):
  ∃F:Env->Bool->Env,∀Z d,(ad Z 5=.slice 2 0 n none/\ad Z 1=.slice 1 0 B.length none/\ad Z 19=.slice 0 0 A.length none/\ad Z 20=.int .i64 A.length/\ad Z 21=.int .i64 0)->
   aL (aX prog) ft O K 79 2 true (.loop b) ⟨Z,mN A B (List.replicate n 0),d⟩=some (.exit 0,⟨F Z d,mN A B (sD 1000000000 A B (List.replicate n 0)),d⟩)/\
    (ad (F Z d) 5=ad Z 5):=by
 refine bj H.2.1 (fun Z=>ad Z 5=.slice 2 0 n none/\ad Z 1=.slice 1 0 B.length none/\ad Z 19=.slice 0 0 A.length none/\ad Z 20=.int .i64 A.length/\ad Z 21=.int .i64 0)
  (fun Z D' =>ad D' 5=ad Z 5) ?_
 rintro Z d ⟨h5,J,h19,h20,h21⟩;have U:=H.1;simp[ag,aE,f211] at U;obtain⟨U,ZV,hb3⟩:=U;have ZI:an [21] (aa b) Z ((21,.int .i64 ((0:Nat):Int))::Z)=an [21] (aa b) Z Z:=by simp[an,h21]
 rw[<-ZI];have hz:ao 1000000000 (List.replicate n 0)=0:=by
  clear hn hl hK h5;induction n with
  |zero=>rfl
  |succ n ih=>rw[List.replicate_succ,ao,ih]
 have C:lok 1000000000 (List.replicate n 0)=true:=by unfold lok;rw[List.all_eq_true];intro d hd;rw[List.mem_replicate] at hd;simp[hd.2]
 have ac5:ao 1000000000 A*ao 1000000000 B<1000000000 ^ n:=by have J:=gW hA;have h2:=gW I;have h3:ao 1000000000 A*ao 1000000000 B<1000000000 ^ A.length*1000000000 ^ B.length:=Nat.mul_lt_mul_of_lt_of_lt J h2;rw[<-Nat.pow_add] at h3;have h4:1000000000 ^ (A.length+B.length)<=1000000000 ^ n:=P3 (by omega) (by omega);omega
 refine bI (α:=Nat×List Nat) (fun a=>⟨an [21] (aa b) Z ((21,.int .i64 (a.1:Int))::Z),mN A B a.2,d⟩) (fun a=>A.length-a.1)
  (fun a=>a.1<=A.length/\a.2.length=n/\lok 1000000000 a.2=true/\ao 1000000000 (a.2.drop a.1)+ao 1000000000 (A.drop a.1)*ao 1000000000 B<1000000000 ^ (n-a.1)/\
   a.2.take a.1++sD 1000000000 (A.drop a.1) B (a.2.drop a.1)=sD 1000000000 A B (List.replicate n 0)) (.exit 0) _ d _ (by simp) ?_ K (0,List.replicate n 0) ⟨Nat.zero_le _,by simp,C,by simp only[List.drop_zero,QXQ];rw[hz];omega,by simp⟩ (by simp;omega)
 rintro ⟨i,o⟩ ⟨hi,hol,ZF,hf,PP⟩;simp only at hi hol ZF hf PP;clear ZI ac5 hz C;by_cases hiA:i=A.length
 .right
  subst hiA;rw[List.drop_length,sD,List.take_append_drop] at PP;rw[<-PP];subst U;simp[h20]
 .left
  have FS:i<A.length:=by omega
  obtain⟨x,hx,Zw⟩:=de FS;have ZL:=fa hA hx;have eA:A.drop i=x::A.drop (i+1):=by rw[N0 FS,Zw]
  rw[eA,sD] at PP;rw[eA,ao,Nat.add_mul,QXZ] at hf;have N:(o.drop i).length=n-i:=by rw[QXX,hol]
  have u:=jI ZF i;obtain⟨r1,r2⟩:=CD (B:=1000000000) (by omega) x (o.drop i) B 0 u (by rw[N];omega) (by omega);have m:=vh 1000000000 x (o.drop i) B 0;obtain⟨k1,k2,k3⟩:=Mn (B:=1000000000) (by omega) ZL (o.drop i) B 0 u I (by omega) (by omega);have k4:=Dd 1000000000 x (o.drop i) B 0;have G:=Yu (B:=1000000000) (x:=x) (o:=o) (b:=B) (i:=i) (by omega);obtain⟨L,S⟩:=xE (o.take i++(mT 1000000000 x (o.drop i) B 0).1);obtain⟨c2,M⟩:=xE ((mT 1000000000 x (o.drop i) B 0).2);have ad6:L.length=n:=by rw[S,Qs,k4,N,SP,hol];omega
  have ad7:lok 1000000000 L=true:=by rw[S,nZ,jJ ZF,k1];rfl
  have j:ao 1000000000 (L.drop (i+B.length))+c2<1000000000 ^ (L.length-(i+B.length)):=by
   have e1:L.drop (i+B.length)=(mT 1000000000 x (o.drop i) B 0).1.drop B.length:=by rw[S,List.drop_append,SP,hol,ZN (by simp[hol];omega),List.nil_append];congr 1;omega
   have e2:ao 1000000000 (mT 1000000000 x (o.drop i) B 0).1=ao 1000000000 ((mT 1000000000 x (o.drop i) B 0).1.take B.length)+1000000000 ^ B.length*ao 1000000000 ((mT 1000000000 x (o.drop i) B 0).1.drop B.length):=by
    conv=>lhs;rw[<-List.take_append_drop B.length (mT 1000000000 x (o.drop i) B 0).1]
    rw[im,SP,k4,N,Nat.min_eq_left (by omega)]
   have e3:n-i=B.length+(L.length-(i+B.length)):=by omega
   rw[e3,Nat.pow_add] at hf;rw[e1,M];have:1000000000 ^ B.length*(ao 1000000000 ((mT 1000000000 x (o.drop i) B 0).1.drop B.length)+(mT 1000000000 x (o.drop i) B 0).2)<1000000000 ^ B.length*1000000000 ^ (L.length-(i+B.length)):=by rw[Nat.mul_add];omega
   exact Nat.lt_of_mul_lt_mul_left this
  obtain⟨F2,Y⟩:=Ai (O:=O) (K:=K) (lv:=ft) A B o i x ZL I ZF (by omega) (by omega) (by omega) H.1 H.2.2.1;obtain⟨F3,X⟩:=Aj (O:=O) (K:=K) (lv:=ft) A B L (i+B.length) c2 ad7 (by rw[M];exact k2) (by omega) (by omega) j (by omega) H.1 H.2.2.2;rw[<-S,<-M] at Y G;rw[<-G] at X;obtain⟨R,V⟩:=xE (o.take i++RL 1000000000 x (o.drop i) B 0);rw[<-V] at X;have ad8:R.length=n:=by rw[V,Qs,m,N,SP,hol];omega
  have ad9:lok 1000000000 R=true:=by rw[V,nZ,jJ ZF,r2];rfl
  cases hrl:RL 1000000000 x (o.drop i) B 0 with
  |nil=>rw[hrl] at m;simp at m;omega
  |cons dd rr=>
   rw[hrl] at PP r1 m;simp only at PP;have e4:R.take (i+1)=o.take i++[dd]:=by
    rw[V,hrl,List.take_append,SP,hol,B5 (by simp;omega)];have:i+1-min i n=1:=by omega
    rw[this];rfl
   have e5:R.drop (i+1)=rr:=by
    rw[V,hrl,List.drop_append,SP,hol,ZN (by simp;omega)];have:i+1-min i n=1:=by omega
    rw[this];rfl
   obtain⟨p,hp⟩:=xE (α:=Nat) (i+B.length);have w1:IntKind.i64.wrap ((i:Int)+(B.length:Int))=(p:Int):=by rw[af];omega
   have w2:IntKind.i64.wrap ((i:Int)+1)=(i:Int)+1:=af;have hI:(i:Int)<(A.length:Int):=by omega
   rw[<-hp] at X;refine⟨(i+1,R),?_⟩;refine bt (r:=_/\_) (show(i+1<=A.length/\R.length=n/\lok 1000000000 R=true/\ao 1000000000 (R.drop (i+1))+ao 1000000000 (A.drop (i+1))*ao 1000000000 B<1000000000 ^ (n-(i+1))/\
     R.take (i+1)++sD 1000000000 (A.drop (i+1)) B (R.drop (i+1))=sD 1000000000 A B (List.replicate n 0))/\A.length-(i+1)<A.length-i by
    rw[e4,e5];refine⟨⟨by omega,ad8,ad9,?_,by rw[<-PP];simp⟩,by omega⟩;rw[ao] at r1;have e:n-i=(n-(i+1))+1:=by omega
    rw[e,Nat.pow_succ] at hf;generalize 1000000000 ^ (n-(i+1))=q at*;omega) ?_
   rw[hol] at Y;rw[ad6] at X;clear PP hf j r1 r2 m k1 k2 k3 k4 G e4 e5 hrl V S M;subst U;subst ZV;subst hb3;simp only[mN] at Y X;simp[mN,h5,J,h19,h20,Zw,hI,FS,w1,w2,Y,X]
theorem D9(A B:List Nat)(H:lok 1000000000 A=true)(I:lok 1000000000 B=true)(J:A.length<=100000000)(Y:B.length<=100000000):
  ∃X,aW X=dig 1000000000 (ao 1000000000 A*ao 1000000000 B)/\ae (aX prog) ft (aZ prog) bR (A.length+B.length+2) 211 [.slice 0 0 A.length none,.slice 1 0 B.length none] [.cells false 1 (iN .u64 A),.cells false 1 (iN .u64 B)]=
   some ⟨.slice 2 0 (aW X).length none,none,[.cells true 1 (iN .u64 X)]⟩:=by
 have G:aZ prog 211=some f211:=by kernel_rfl
 obtain⟨b,U,S,M⟩:∃b U S,ag f211=[b,U,S]/\ft b=[21]/\ft U=[28,8]/\ft S=[11,8]:=⟨_,_,_,rfl,by decide,by decide,by decide⟩
 obtain⟨n,R⟩:=xE (A.length+B.length+1);obtain⟨F,N⟩:=Ah (O:=bR) (K:=A.length+B.length+2) A B n H I (by omega) R (by omega) M;obtain⟨t1,t2,t3⟩:=Rz (B:=1000000000) (by omega) H I;rw[<-R] at t1 t2 t3;obtain⟨X,V⟩:=xE (sD 1000000000 A B (List.replicate n 0));rw[<-V] at t1 t2 t3 N;refine⟨X,by rw[<-dV (by omega) t2,t1],?_⟩;obtain⟨Z,_⟩:=M;simp[ag,aE,f211] at Z;obtain⟨Z,_,_⟩:=Z;subst Z;obtain⟨L,hs1⟩:=xE (α:=Nat) (A.length+B.length);have w1:IntKind.i64.wrap ((A.length:Int)+(B.length:Int))=(L:Int):=by rw[af];omega
 have w2:IntKind.i64.wrap ((L:Int)+1)=(n:Int):=by rw[af];omega
 have j:0<=(n:Int):=by omega
 have C:8*(n:Int)<=281474976710656:=by omega
 have u:(n:Int)<=281474976710656:=by omega
 have o:bd .u64 [.cells false 1 (iN .u64 A),.cells false 1 (iN .u64 B),.cells true 1 (iN .u64 X)] (.slice 2 0 n none)=some X:=
  aU rfl (by simp[t3]) (B5 (by simp[t3]))
 have m:X.length<=1000000000:=by omega
 clear R hs1 V;simp only[mN] at N;simp[ae,G,f211,w1,w2,C,u,N,bR,o,m,rU]
theorem If{M:Mem}{x y:AV}{A B:List Nat}(H:lok 1000000000 A=true)(I:lok 1000000000 B=true)(J:A.length<=100000000)(Y:B.length<=100000000)(hx:afw .u64 M x A)(hy:afw .u64 M y B):
  kO prog 211 [x,y] M (.slice M.length 0 (dig 1000000000 (ao 1000000000 A*ao 1000000000 B)).length none) (M++[.cells true 1 (iN .u64 (dig 1000000000 (ao 1000000000 A*ao 1000000000 B)))]):=by
 obtain⟨Z,X,h⟩:=D9 A B H I J Y;have:=(aB aj (aI _) jo (aQ _) h).1;simp only[afl.mem,Option.getD_none,List.cons_append,List.nil_append] at this;have V:=kO.ahd (m:=[.cells false 1 (iN .u64 A),.cells false 1 (iN .u64 B)]) this (Cp (dG _));obtain⟨b,c,rfl,rfl,h3⟩:=kO.agi (new:=[.cells true 1 (iN .u64 (aW Z))]) rfl V hx hy;rw[X] at h3;simpa [AV.ren,fA] using h3
theorem FR{A:List Nat}(hA:A.length=n)(hn:0<n)(hl:n<=1000000000)(J bA H m0 eb:Nat)(ob oA:Bool)(M:Nat->Mem)(I:∀j,j<=n->(M j).length=m0)(hs:∀j,j<=n->(M j)[J]? =some (.cells ob eb [.slice bA 0 n none]))(hr:∀j,j<=n->(M j)[bA]? =some (.cells oA 1 (iN .u64 A)))(Y:∀s∈M 0,s.refs m0=[])(hy:∀j,j<n->gG prog H [.int .i64 (j:Int),.int .u64 ((A.getD j 0:Nat):Int)] (M (j+1)) (.bool true) (M j)):
  kO prog 279 [.yield H,.ptr J 0] (M n) (.tuple []) (M 0):=by
 have o:aZ prog 279=some f279:=by kernel_rfl
 obtain⟨O,m,S⟩:=jQ (P:=prog) (fun j:Nat=>j<n) (fun _=>.yld H) (fun j=>[.int .i64 (j:Int),.int .u64 ((A.getD j 0:Nat):Int)]) (fun j=>M (j+1)) (fun j=>⟨.bool true,some (M j),[]⟩)
  (fun j hj=>⟨by simpa [afl.mem] using hy j hj,fun q hq=>by cases hq;rw[I j (by omega),I (j+1) (by omega)]⟩)
  (fun i j _ _ _ h _=>by
   simp only[List.cons.injEq,AV.int.injEq] at h;have:i=j:=by omega
   rw[this])
 obtain⟨b,U⟩:∃b,ag f279=[b]:=⟨_,rfl⟩
 have loop:∃F:Env->Env,∀Z,(ad Z 0=.yield H/\ad Z 1=.ptr J 0/\ad Z 3=.int .i64 ((n:Int)-1))->
   aL (aX prog) (fun _=>[3]) O (n+1) 19 m0 true (.loop b) ⟨Z,M n,false⟩=some (.exit 0,⟨F Z,M 0,true⟩)/\True:=by
  refine vj rfl false true (fun Z=>ad Z 0=.yield H/\ad Z 1=.ptr J 0/\ad Z 3=.int .i64 ((n:Int)-1)) (fun _ _=>True) ?_;rintro Z ⟨h0,h1,h3⟩;simp[ag,aE,f279] at U;have L:an [3] (aa b) Z ((3,.int .i64 ((n:Int)-1))::Z)=an [3] (aa b) Z Z:=by simp[an,h3]
  rw[<-L];have C:(⟨an [3] (aa b) Z ((3,.int .i64 ((n:Int)-1))::Z),M n,false⟩:XS)=⟨an [3] (aa b) Z ((3,.int .i64 ((n:Int)-1))::Z),M n,decide (n<n)⟩:=by simp
  rw[C];refine bI (α:=Nat) (fun k=>⟨an [3] (aa b) Z ((3,.int .i64 ((k:Int)-1))::Z),M k,decide (k<n)⟩) id (fun k=>k<=n) (.exit 0) (M 0) true (fun _=>True) (by simp) ?_ (n+1) n (L9 _) (by simp);intro k hk;clear L C;subst U;cases k with
  |zero=>
   right;simp[hn]
  |succ k=>
   left;have X:k<n:=by omega
   have e1:(((k+1:Nat):Int)-1)=(k:Int):=by omega
   have w1:IntKind.i64.wrap ((k:Int)-1)=(k:Int)-1:=af;have l1:=I k (by omega);have V:=I n (by omega);have R:=hs (k+1) (by omega);have r1:=hr (k+1) (by omega);have B:=S k X;obtain⟨x,hx,Zw⟩:=de (l:=A) (i:=k) (by omega);have hg:A.getD k 0=x:=by simp[List.getD,hx]
   rw[hg] at B;rw[e1];refine⟨k,?_⟩;have ad' :(k:Int)<(n:Int):=by omega
   simp[h0,h1,w1,l1,V,R,r1,Zw,hA,X,B];omega
 obtain⟨F,hF⟩:=loop;simp[ag,aE,f279] at U;subst U;have w1:IntKind.i64.wrap ((n:Int)-1)=(n:Int)-1:=af;have V:=I n (by omega);have R:=hs n (by omega);have N:∃u,aL (aX prog) (fun _=>[3]) O (n+1) f279.ntmps (M n).length true (f279.body.getD .skip) ⟨dN 0 [.yield H,.ptr J 0],M n,false⟩=some (.normal,⟨u,M 0,true⟩):=by simp[f279,R,w1,V,hF]
 obtain⟨u,N⟩:=N;have:=Lj (T:=aX prog) (G:=aZ prog) (v:=.tuple []) o rfl (by simp[f279]) (.inl rfl) N rfl (by rw[I 0 (by omega),V]) rfl (by rw[V];exact Y);have h2:=(aB aj (aI _) m (aQ _) this).1;simpa [afl.mem] using h2
def lU(A:List Nat)(d:Nat)(I:Array Tmp)(J H:Code)(Y:Env)(j:Nat):Mem:=
 [.cells false 1 (iN .u64 A),.cells false 1 [.int .u64 (d:Int)],.cells true 0 [.slice 1 0 1 none],.cells true 0 [.slice 4 0 A.length none],
  .cells true 1 (iN .u64 (List.replicate j 0++(gx 1000000000 d (A.drop j)).1)),.cells true 0 [.int .u64 (((gx 1000000000 d (A.drop j)).2:Nat):Int)],.cells true 0 [.slice 0 0 A.length none],
  .loop ⟨.ready,none,Y,146,I,J,H⟩]
variable{Zx body:Code}{ps:Array Tmp}
section
variable (A:List Nat)(d:Nat)(hd0:0<d)(hd:d<1000000000)(hA:lok 1000000000 A=true)(hl:A.length<=1000000000)
include A d hd0 hd hA hl
theorem DL(I:fc f223=[(ps,Zx,body)])(H:Env)(h3:ad H 3=.ptr 2 0)(h4:ad H 4=.ptr 3 0)(h6:ad H 6=.ptr 5 0)(J:H.flatMap (fun e=>e.2.refs 8)=[])(j:Nat)(Y:j<A.length):
  gG prog 7 [.int .i64 (j:Int),.int .u64 ((A.getD j 0:Nat):Int)] (lU A d ps Zx body H (j+1)) (.bool true) (lU A d ps Zx body H j):=by
 obtain⟨x,m,Zw⟩:=de Y;have ZL:=fa hA m;have hg:A.getD j 0=x:=by simp[List.getD,m]
 have eA:A.drop j=x::A.drop (j+1):=by rw[N0 Y,Zw]
 rw[hg];have Zy:cY Zx=true/\cY body=true/\ps= #[27,28]:=by simp[fc,gw,f223] at I;obtain⟨rfl,rfl,rfl⟩:=I;exact⟨by decide,by decide,rfl⟩
 obtain⟨V,Z7,rfl⟩:=Zy;have M:∀ks,sB (rho 8 ks) H=H:=fun ks=>OF J
 have Z:(gx 1000000000 d (A.drop j))=(((gx 1000000000 d (A.drop (j+1))).2*1000000000+x) / d::(gx 1000000000 d (A.drop (j+1))).1,((gx 1000000000 d (A.drop (j+1))).2*1000000000+x)%d):=by rw[eA];rfl
 obtain⟨i1,i2,i3,i4⟩:=Cj hd0 hd (A.drop (j+1)) (jI hA _);obtain⟨r,L⟩:=xE ((gx 1000000000 d (A.drop (j+1))).2);obtain⟨q,G⟩:=xE ((gx 1000000000 d (A.drop (j+1))).1);rw[<-L,<-G] at Z;rw[<-L] at i1;rw[<-G] at i4;have U:lU A d #[27,28] Zx body H (j+1)=[.cells false 1 (iN .u64 A),.cells false 1 [.int .u64 (d:Int)],.cells true 0 [.slice 1 0 1 none],.cells true 0 [.slice 4 0 A.length none],
  .cells true 1 (iN .u64 (List.replicate (j+1) 0++q)),.cells true 0 [.int .u64 (r:Int)],.cells true 0 [.slice 0 0 A.length none],.loop ⟨.ready,none,H,146,#[27,28],Zx,body⟩]:=by rw[L,G];rfl
 obtain⟨s,hs⟩:=xE (α:=Nat) (r*1000000000+x);rw[<-hs] at Z;have S:lU A d #[27,28] Zx body H j=[.cells false 1 (iN .u64 A),.cells false 1 [.int .u64 (d:Int)],.cells true 0 [.slice 1 0 1 none],.cells true 0 [.slice 4 0 A.length none],
  .cells true 1 (iN .u64 (List.replicate j 0++s / d::q)),.cells true 0 [.int .u64 ((s%d:Nat):Int)],.cells true 0 [.slice 0 0 A.length none],.loop ⟨.ready,none,H,146,#[27,28],Zx,body⟩]:=by unfold lU;rw[Z]
 rw[U,S];have hql:q.length=A.length-(j+1):=by rw[i4,QXX]
 have hsd:s / d<=s:=Nat.div_le_self _ _;have hsm:s%d<d:=Nat.mod_lt _ hd0;obtain⟨R,X⟩:=xE (s / d);obtain⟨sr,N⟩:=xE (s%d);have w1:IntKind.u64.wrap ((r:Int)*1000000000)=(r:Int)*1000000000:=cS (by omega) (by omega);have w2:IntKind.u64.wrap ((r:Int)*1000000000+(x:Int))=(s:Int):=by rw[cS (by omega) (by omega)];omega
 have w3:IntKind.u64.wrap ((s:Int).tdiv (d:Int))=(R:Int):=by rw[xi,<-X];exact cS (by omega) (by omega)
 have F :IntKind.u64.wrap ((s:Int) / (d:Int))=(R:Int):=by rw[<-Int.natCast_ediv,<-X];exact cS (by omega) (by omega)
 have w4:(s:Int).tmod (d:Int)=(sr:Int):=by rw[xj,<-N]
 have C:¬d=0:=by omega
 have B:(j:Int)<(A.length:Int):=by omega
 have u:(iN .u64 (List.replicate (j+1) 0++q)).take j++.int .u64 (R:Int)::(iN .u64 (List.replicate (j+1) 0++q)).drop (j+1)=iN .u64 (List.replicate j 0++R::q):=by rw[Tu _ _ _ _ (by simp;omega)];congr 1;rw[QXd (by simp),List.take_replicate,List.drop_append,ZN (by simp)];simp
 have o:(List.replicate (j+1) 0++q).take j=List.replicate j 0:=by rw[QXd (by simp),List.take_replicate];congr 1;omega
 have hjq:j+1<=(List.replicate (j+1) 0++q).length:=by simp
 rw[<-X,<-N];have hc:xZ (aX prog) (fun _=>[]) cO 1 7 [.int .i64 (j:Int),.int .u64 (x:Int)] [.cells false 1 (iN .u64 A),.cells false 1 [.int .u64 (d:Int)],.cells true 0 [.slice 1 0 1 none],.cells true 0 [.slice 4 0 A.length none],
  .cells true 1 (iN .u64 (List.replicate (j+1) 0++q)),.cells true 0 [.int .u64 (r:Int)],.cells true 0 [.slice 0 0 A.length none],.loop ⟨.ready,none,H,146,#[27,28],Zx,body⟩]=some ⟨.bool true,some [.cells false 1 (iN .u64 A),.cells false 1 [.int .u64 (d:Int)],.cells true 0 [.slice 1 0 1 none],.cells true 0 [.slice 4 0 A.length none],
  .cells true 1 (iN .u64 (List.replicate j 0++R::q)),.cells true 0 [.int .u64 (sr:Int)],.cells true 0 [.slice 0 0 A.length none],.loop ⟨.ready,none,H,146,#[27,28],Zx,body⟩],[]⟩:=by
  clear U S u;simp[xZ,V,Z7];simp[fc,gw,f223] at I;obtain⟨rfl,rfl⟩:=I;clear V Z7;simp[h3,h4,h6,w1,w2,F,w4,C,B,J,M,rZ,np,iJ,rQ,Nat.testBit];rw[o,dE,cr]
 have:=(pD aj (aI _) (az _) hc).1;simpa [afl.mem] using this
theorem DK(H:0<A.length)(I:fc f223=[(ps,Zx,body)]):
  ∃O:y9,qS prog O/\∀Z,(ad Z 3=.ptr 2 0/\ad Z 4=.ptr 3 0/\ad Z 6=.ptr 5 0/\Z.flatMap (fun e=>e.2.refs 8)=[])->
   O (.fn 279) [.yield 7,.ptr 6 0] (lU A d ps Zx body Z A.length)=some ⟨.tuple [],some (lU A d ps Zx body Z 0),[]⟩:=by
 refine jQ (ι:=Env) (fun Z=>ad Z 3=.ptr 2 0/\ad Z 4=.ptr 3 0/\ad Z 6=.ptr 5 0/\Z.flatMap (fun e=>e.2.refs 8)=[]) (fun _=>.fn 279) (fun _=>[.yield 7,.ptr 6 0]) (fun Z=>lU A d ps Zx body Z A.length) (fun Z=>⟨.tuple [],some (lU A d ps Zx body Z 0),[]⟩) ?_ ?_
 .rintro Z ⟨h3,h4,h6,he⟩
  refine⟨?_,fun q V=>by cases V;rfl⟩;have:=FR (n:=A.length) (A:=A) rfl H hl 6 0 7 8 0 true false (lU A d ps Zx body Z) (fun _ _=>rfl) (fun _ _=>rfl) (fun _ _=>rfl) (fun s X=>by simp only[lU,lM] at X;rcases X with rfl | rfl | rfl | rfl | rfl | rfl | rfl | rfl;all_goals first | exact xd he | simp) (fun j U=>DL A d hd0 hd hA hl I Z h3 h4 h6 he j U)
  simpa [afl.mem] using this
 .intro i j _ _ _ _ h
  simp only[lU,List.cons.injEq,afq.loop.injEq,agv.mk.injEq,and_true,true_and] at h;rw[h]
end
theorem vd(T:TypeId->Option TyI)(lv:Code->List Nat)(O:y9)(K N m0:Nat)(g:Operand)(ps:Array Tmp)(Zx body:Code)(s:XS):aL T lv O K N m0 true (.rangeFunc g ps Zx body) s=match get s.env g with
   |.func f caps=>match O (.fn f) (.yield s.mem.length::caps) (s.mem++[.loop ⟨.ready,none,s.env,N,ps,Zx,body⟩]) with
    |some r=>match (r.mem (s.mem++[.loop ⟨.ready,none,s.env,N,ps,Zx,body⟩]))[s.mem.length]? with
     |some (.loop r2)=>if r2.st== .busy then none else match zm r2.agt with
      |some e=>some (e,⟨s.env,(r.mem (s.mem++[.loop ⟨.ready,none,s.env,N,ps,Zx,body⟩])).set s.mem.length (.loop { r2 with st:=.exhausted }),s.afH||r.pre.isSome⟩)
      |none=>none
     |_=>none
    |none=>none
   |_=>none:=rfl
theorem A7(b n:Nat)(m:Mem)(H:b<m.length):ae (aX prog) (fun _=>[]) (aZ prog) cO 1 255 [.slice b 0 n none] m=some ⟨.func 279 [.ptr m.length 0],none,[.cells true 0 [.slice b 0 n none]]⟩:=by
 have Z:aZ prog 255=some f255:=by kernel_rfl
 simp[ae,Z,f255,H,List.idxOf?]
end Go.Proofs
