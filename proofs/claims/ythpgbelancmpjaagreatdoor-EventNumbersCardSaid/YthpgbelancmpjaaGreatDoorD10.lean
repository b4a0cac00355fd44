/- See D38. -/
import Derived.Test.YthpgbelancmpjaaGreatDoorD09
set_option linter.all false
namespace Go.Eng
def mX(B x:Nat):List Nat->List Nat->Nat->List Nat×Nat
 |o,[],c=>(o,c)
 | [],_::_,c=>([],c)
 |o::l,y::b,c=>((c+(o+x*y))%B::(mX B x l b ((c+(o+x*y)) / B)).1,(mX B x l b ((c+(o+x*y)) / B)).2)
theorem AL(B x:Nat)(o:List Nat)(c:Nat):mX B x o [] c=(o,c):=by cases o<;>rfl
theorem CT(B x:Nat):∀(o b:List Nat) (c:Nat),(mX B x o b c).1.length=o.length
 |o,[],c=>by rw[AL]
 | [],_::_,_=>rfl
 |o::l,y::b,c=>by simp[mX,CT B x l b]
theorem T2(B x:Nat):∀(o b:List Nat) (c:Nat),b.length<=o.length->Rz B x o b c=(mX B x o b c).1.take b.length++jG B ((mX B x o b c).1.drop b.length) (mX B x o b c).2
 |o,[],c,_=>by rw[AL];cases o<;>rfl
 | [],_::_,_,h=>by simp at h
 |o::l,y::b,c,h=>by rw[Rz,mX,T2 B x l b _ (by simpa using h)];simp
theorem L8{B:Nat}(H:2<=B){x:Nat}(I:x<B):∀(o b:List Nat) (c:Nat),lok B o=true->lok B b=true->c<B->b.length<=o.length->
  lok B (mX B x o b c).1=true/\(mX B x o b c).2<B/\aq B (mX B x o b c).1+B ^ b.length*(mX B x o b c).2=aq B o+x*aq B b+c
 |o,[],c,ho,_,hc,_=>by rw[AL];simp only[aq,List.length_nil,Nat.pow_zero,Nat.mul_zero,Nat.one_mul];exact⟨ho,hc,by omega⟩
 | [],_::_,_,_,_,_,h=>by simp at h
 |o::l,y::b,c,ho,hb,hc,h=>by
  rw[cY,C0,Es] at ho hb;have Z:x*y<=(B-1)*(B-1):=Nat.mul_le_mul (by omega) (by omega);have X:(c+(o+x*y)) / B<B:=by
   rw[Nat.div_lt_iff_lt_mul (by omega)];obtain⟨q,rfl⟩:∃q,B=q+1:=⟨B-1,by omega⟩
   have N:(q+1)*(q+1)=q*q+q+q+1:=by rw[Nat.add_mul,Nat.mul_add];omega
   simp only[Nat.add_sub_cancel] at Z;omega
  obtain⟨V,U,S⟩:=L8 H I l b _ ho.2 hb.2 X (by simpa using h);have R:=Nat.mod_add_div (c+(o+x*y)) B;have e:x*(y+B*aq B b)=x*y+B*(x*aq B b):=by rw[Nat.mul_add,<-QQl,<-QQl,Zq x B]
  have O:B ^ (b.length+1)*(mX B x l b ((c+(o+x*y)) / B)).2=B*(B ^ b.length*(mX B x l b ((c+(o+x*y)) / B)).2):=by rw[Nat.pow_succ,Zq (B ^ b.length) B,QQl]
  simp only[mX];refine⟨?_,U,?_⟩
  .rw[cY,V];simp[Nat.mod_lt (c+(o+x*y)) (show 0<B by omega)]
  .rw[aq,aq,aq,e,List.length_cons,O]
   have:=congrArg (B*·) S;simp only[Nat.mul_add] at this;omega
theorem N3(B:Nat)(l:List Nat):jG B l 0=l:=by cases l<;>simp[jG]
theorem sV(B:Nat){l:List Nat}{n:Nat}(H:n<=l.length):aq B l=aq B (l.take n)+B ^ n*aq B (l.drop n):=by
 conv=>lhs;rw[<-List.take_append_drop n l]
 rw[iv,S2,Nat.min_eq_left H]
variable{B b m r:Nat}
theorem VA{D top:Nat}(H:2<=B)(hm:(dig B b).length=m)(Zg:1<=m)(I:(dig B b)[m-1]? =some top)(hr:r<B*b)(J:b<=r)(W:((dig B r).length=m/\(dig B r)[m-1]? =some D)\/((dig B r).length=m+1/\∃h l,(dig B r)[m]? =some h/\(dig B r)[m-1]? =some l/\D=h*B+l)):
  0<top/\r / b<=D / top/\r / b<=B-1:=by
 have C:=bO H b;have u:=bX H b;have Z:=bO H r;have X:=bX H r;have G:m-1<(dig B b).length:=by omega
 have F:(dig B b)[m-1]=top:=(Ns.1 I).2;have ZF:b=aq B ((dig B b).take (m-1))+B ^ (m-1)*top:=by have:=sV B (l:=dig B b) (n:=m-1) (by omega);rw[C,N0 G,F,ZN (by omega)] at this;simpa [aq] using this
 have V:0<top:=by
  rcases QQX top with h | h
  .have S:=cj H b
   have U:aW (dig B b)=aW ((dig B b).take (m-1)):=by
    conv=>lhs;rw[<-List.take_append_drop (m-1) (dig B b),N0 G,F,ZN (by omega),h]
    exact jN _
   have h3:=dp ((dig B b).take (m-1));rw[<-U,S,S2] at h3;omega
  .exact h
 have R:0<b:=by
  rcases QQX b with h | h
  .subst h;simp at hr
  .exact h
 have o:r / b*b<=r:=Nat.div_mul_le_self r b;have O:top*B ^ (m-1)<=b:=by rw[Zq];omega
 have N:r<(D+1)*B ^ (m-1):=by
  rcases W with⟨S,U⟩ | ⟨S,h,l,U,h3,rfl⟩
  .have M:m-1<(dig B r).length:=by omega
   have e:=sV B (l:=dig B r) (n:=m-1) (by omega);rw[Z,N0 M,(Ns.1 U).2,ZN (by omega)] at e;have L:=ia (jL X (m-1));rw[S2,Nat.min_eq_left (by omega)] at L;simp[aq] at e;rw[Nat.add_mul,Nat.one_mul,Zq D];omega
  .have M:m-1<(dig B r).length:=by omega
   have j:m-1+1<(dig B r).length:=by omega
   have K :m-1+1=m:=by omega
   have e:=sV B (l:=dig B r) (n:=m-1) (by omega);rw[Z,N0 M,(Ns.1 h3).2,N0 j,ZN (by omega)] at e;have Y:(dig B r)[m-1+1]=h:=by have:=(Ns.1 U).2;simp only[K];exact this
   rw[Y] at e;have L:=ia (jL X (m-1));rw[S2,Nat.min_eq_left (by omega)] at L;simp only[aq,Nat.mul_zero,Nat.add_zero] at e;rw[Nat.mul_add] at e;have e6:(h*B+l+1)*B ^ (m-1)=B ^ (m-1)*l+B ^ (m-1)*(B*h)+B ^ (m-1):=by rw[Nat.add_mul,Nat.add_mul,Nat.one_mul,Zq (h*B),Zq l,Zq h B];omega
   omega
 refine⟨V,Vz N O o V,?_⟩;have:r / b<B:=by rw[Nat.div_lt_iff_lt_mul R];exact hr
 omega
theorem xS(H:2<=B)(I:(dig B b).length=m)(hr:r<B*b)(J:b<=r):(dig B r).length=m\/(dig B r).length=m+1:=by
 have X:m<=(dig B r).length:=by
  rcases Nat.lt_or_ge (dig B r).length m with h | h
  .have:=dR H (m:=r) (n:=b) (by omega);omega
  .exact h
 have Z:r<B ^ (m+1):=by have:=sP H b;rw[I] at this;rw[Nat.pow_succ,Zq];exact QXQ hr (Nat.mul_le_mul_left _ (by omega))
 have:=fH H Z;omega
theorem GK{a:Nat}(H:2<=B)(I:a<B):aW (a::dig B r)=dig B (a+B*r):=by rw[<-dS H (show lok B (a::dig B r)=true by rw[cY,bX H];simp[I]),aq,bO H]
end Go.Eng
namespace Go.Proofs
open Go.Eng
open Tryz
def mP(A B o:List Nat):Mem:=[.cells false 1 (iN .u64 A),.cells false 1 (iN .u64 B),.cells true 1 (iN .u64 o)]
theorem Tg(k:IntKind)(l:List Nat)(i n:Nat)(h:i<l.length):(iN k l).take i++.int k (n:Int)::(iN k l).drop (i+1)=iN k (l.take i++n::l.drop (i+1)):=by simp[iM,rP,dC,cr]
variable{i n:Nat}{l:List Nat}
theorem Px(h:i<l.length):(l.take i++n::l.drop (i+1)).take (i+1)=l.take i++[n]:=by
 have:(l.take i).length=i:=by simp;omega
 rw[List.take_append,this];have e:i+1-i=1:=by omega
 rw[e,B5 (by omega)];rfl
theorem O2(h:i<l.length):(l.take i++n::l.drop (i+1)).drop (i+1)=l.drop (i+1):=by
 have:(l.take i).length=i:=by simp;omega
 rw[List.drop_append,this];have e:i+1-i=1:=by omega
 rw[e,ZN (by omega)];rfl
theorem EH(h:i<l.length):(l.take i++n::l.drop (i+1)).length=l.length:=by simp;omega
variable{K:Nat}{O:y9}{lv:Code->List Nat}
theorem zT(A B H:List Nat)(i x:Nat)(hx:x<1000000000)(W:lok 1000000000 B=true)(Y:lok 1000000000 H=true)(hl:H.length<=1000000000)(hn:i+B.length<H.length)(hK:B.length<K){b1 b b3:Code}(I:ah f211=[b1,b,b3])(J:lv b=[28,8]):
  ∃F:Env->Bool->Env,∀Z d,(ae Z 5=.slice 2 0 H.length none/\ae Z 6=.int .i64 i/\ae Z 7=.int .u64 x/\ae Z 26=.slice 1 0 B.length none/\ae Z 27=.int .i64 B.length/\ae Z 28=.int .i64 0/\ae Z 8=.int .u64 0)->
   aU (bd prog) lv O K 79 2 true (.loop b) ⟨Z,mP A B H,d⟩=some (.exit 2,⟨F Z d,mP A B (H.take i++(mX 1000000000 x (H.drop i) B 0).1),d⟩)/\
    (ae (F Z d) 8=.int .u64 (((mX 1000000000 x (H.drop i) B 0).2:Nat):Int)/\ae (F Z d) 5=ae Z 5/\ae (F Z d) 6=ae Z 6/\ae (F Z d) 1=ae Z 1/\ae (F Z d) 21=ae Z 21):=by
 refine bl J (fun Z=>ae Z 5=.slice 2 0 H.length none/\ae Z 6=.int .i64 i/\ae Z 7=.int .u64 x/\ae Z 26=.slice 1 0 B.length none/\ae Z 27=.int .i64 B.length/\ae Z 28=.int .i64 0/\ae Z 8=.int .u64 0)
  (fun Z U =>ae U 8=.int .u64 (((mX 1000000000 x (H.drop i) B 0).2:Nat):Int)/\ae U 5=ae Z 5/\ae U 6=ae Z 6/\ae U 1=ae Z 1/\ae U 21=ae Z 21) ?_
 clear J;rintro Z d ⟨h5,h6,h7,h26,h27,ZT,h8⟩;simp[ah,aE,f211] at I;obtain⟨_,I,_⟩:=I;have C:aw [28,8] (ad b) Z ((28,.int .i64 ((0:Nat):Int))::(8,.int .u64 ((0:Nat):Int))::Z)=aw [28,8] (ad b) Z Z:=by simp[aw,ZT,h8]
 rw[<-C];refine bG (α:=Nat×List Nat×Nat) (fun a=>⟨aw [28,8] (ad b) Z ((28,.int .i64 (a.1:Int))::(8,.int .u64 (a.2.2:Int))::Z),mP A B a.2.1,d⟩) (fun a=>B.length-a.1)
  (fun a=>a.1<=B.length/\a.2.1.length=H.length/\lok 1000000000 a.2.1=true/\a.2.2<1000000000/\
   a.2.1.take (i+a.1)++(mX 1000000000 x (a.2.1.drop (i+a.1)) (B.drop a.1) a.2.2).1=H.take i++(mX 1000000000 x (H.drop i) B 0).1/\
   (mX 1000000000 x (a.2.1.drop (i+a.1)) (B.drop a.1) a.2.2).2=(mX 1000000000 x (H.drop i) B 0).2) (.exit 2) _ d _ (by simp) ?_ K (0,H,0) ⟨Nat.zero_le _,rfl,Y,by show(0:Nat)<1000000000;omega,rfl,rfl⟩ (by simpa using hK)
 rintro ⟨k,o,c⟩ ⟨hk,hol,Zj,hc,J',aaj⟩;simp only at hk hol Zj hc J' aaj;clear C;subst I;by_cases N:k=B.length
 .right
  subst N;rw[List.drop_length,AL] at J' aaj;simp only[List.take_append_drop] at J';rw[<-J',<-aaj];simp[h27]
 .left
  have M:k<B.length:=by omega
  obtain⟨y,j,u⟩:=dh M;have hyb:=ff W j;have eB:B.drop k=y::B.drop (k+1):=by rw[N0 M,u]
  obtain⟨p,hp⟩:=xE (α:=Nat) (i+k);have X:p<o.length:=by omega
  obtain⟨z,hz,S⟩:=dh X;have hzb:=ff Zj hz;have eo:o.drop p=z::o.drop (p+1):=by rw[N0 X,S]
  rw[<-hp,eB,eo,mX] at J' aaj;have L:x*y<=999999999*999999999:=Nat.mul_le_mul (by omega) (by omega);obtain⟨s,m⟩:=xE (α:=Nat) (c+(z+x*y));rw[<-m] at J' aaj;obtain⟨V,R⟩:=xE (α:=Nat) (x*y);rw[<-R] at L m;have G:(x:Int)*(y:Int)=(V:Int):=by rw[R];exact(Int.natCast_mul x y).symm
  have w1:IntKind.i64.wrap ((i:Int)+(k:Int))=(p:Int):=by rw[af];omega
  have w2:IntKind.u64.wrap (V:Int)=(V:Int):=cU (by omega) (by omega);have w3:IntKind.u64.wrap ((z:Int)+(V:Int))=(z:Int)+(V:Int):=cU (by omega) (by omega);have w4:IntKind.u64.wrap ((c:Int)+((z:Int)+(V:Int)))=(s:Int):=by rw[cU (by omega) (by omega)];omega
  have w5:(s:Int).tmod 1000000000=(s:Int)%1000000000:=AM s 1000000000;have w6:IntKind.u64.wrap ((s:Int) / 1000000000)=(s:Int) / 1000000000:=cU (by omega) (by omega);have w7:IntKind.i64.wrap ((k:Int)+1)=(k:Int)+1:=af;have hI:(p:Int)<(H.length:Int):=by omega
  have D:p+1<=o.length:=X;have hu:=Tg .u64 o p (s%1000000000) X;refine⟨(k+1,o.take p++s%1000000000::o.drop (p+1),s / 1000000000),?_⟩;refine bC (r:=_/\_) (show(k+1<=B.length/\(o.take p++s%1000000000::o.drop (p+1)).length=H.length/\lok 1000000000 (o.take p++s%1000000000::o.drop (p+1))=true/\s / 1000000000<1000000000/\
    (o.take p++s%1000000000::o.drop (p+1)).take (i+(k+1))++(mX 1000000000 x ((o.take p++s%1000000000::o.drop (p+1)).drop (i+(k+1))) (B.drop (k+1)) (s / 1000000000)).1=H.take i++(mX 1000000000 x (H.drop i) B 0).1/\
    (mX 1000000000 x ((o.take p++s%1000000000::o.drop (p+1)).drop (i+(k+1))) (B.drop (k+1)) (s / 1000000000)).2=(mX 1000000000 x (H.drop i) B 0).2)/\B.length-(k+1)<B.length-k by
   have hq:i+(k+1)=p+1:=by omega
   rw[hq,Px X,O2 X];refine⟨⟨by omega,by rw[EH X,hol],?_,by omega,?_,aaj⟩,by omega⟩
   .rw[od,cY,jL Zj,jK Zj]
    simp;omega
   .rw[<-J'];simp) ?_
  clear J' aaj;simp[mP,h5,h6,h7,h26,h27,u,S,hI,M,X,D,G,w1,w2,w3,w4,w5,w6,w7];simp[iM,rP,dC,cr]
theorem zU(A B H:List Nat)(j0 I:Nat)(ho:lok 1000000000 H=true)(Y:I<1000000000)(hl:H.length<=1000000000)(hj0:j0<=H.length)(J:aq 1000000000 (H.drop j0)+I<1000000000 ^ (H.length-j0))(hK:H.length<K){b1 b2 b:Code}(W:ah f211=[b1,b2,b])(Zi:lv b=[11,8]):
  ∃F:Env->Bool->Env,∀Z d,(ae Z 5=.slice 2 0 H.length none/\ae Z 11=.int .i64 j0/\ae Z 8=.int .u64 I)->
   aU (bd prog) lv O K 79 2 true (.loop b) ⟨Z,mP A B H,d⟩=some (.exit 4,⟨F Z d,mP A B (H.take j0++jG 1000000000 (H.drop j0) I),d⟩)/\
    (ae (F Z d) 5=ae Z 5/\ae (F Z d) 1=ae Z 1/\ae (F Z d) 21=ae Z 21):=by
 refine bl Zi (fun Z=>ae Z 5=.slice 2 0 H.length none/\ae Z 11=.int .i64 j0/\ae Z 8=.int .u64 I)
  (fun Z S =>ae S 5=ae Z 5/\ae S 1=ae Z 1/\ae S 21=ae Z 21) ?_
 clear Zi;rintro Z d ⟨h5,h11,h8⟩;simp[ah,aE,f211] at W;obtain⟨_,_,W⟩:=W;have M:aw [11,8] (ad b) Z ((11,.int .i64 (j0:Int))::(8,.int .u64 (I:Int))::Z)=aw [11,8] (ad b) Z Z:=by simp[aw,h11,h8]
 rw[<-M];refine bG (α:=Nat×List Nat×Nat) (fun a=>⟨aw [11,8] (ad b) Z ((11,.int .i64 (a.1:Int))::(8,.int .u64 (a.2.2:Int))::Z),mP A B a.2.1,d⟩) (fun a=>H.length-a.1)
  (fun a=>a.1<=H.length/\a.2.1.length=H.length/\lok 1000000000 a.2.1=true/\a.2.2<1000000000/\aq 1000000000 (a.2.1.drop a.1)+a.2.2<1000000000 ^ (H.length-a.1)/\
   a.2.1.take a.1++jG 1000000000 (a.2.1.drop a.1) a.2.2=H.take j0++jG 1000000000 (H.drop j0) I) (.exit 4) _ d _ (by simp) ?_ K (j0,H,I) ⟨hj0,rfl,ho,Y,J,rfl⟩ (by simp;omega)
 rintro ⟨j,o,c⟩ ⟨hj,hol,Zj,hc,hf,J'⟩;simp only at hj hol Zj hc hf J';clear M;subst W;by_cases V:c=0
 .right
  subst V;rw[N3,List.take_append_drop] at J';rw[<-J'];simp
 .left
  have X:j<o.length:=by
   rcases Nat.lt_or_ge j H.length with h | h
   .omega
   .have:H.length-j=0:=by omega
    rw[this,Nat.pow_zero] at hf;omega
  obtain⟨z,G,U⟩:=dh X;have D:=ff Zj G;have L:o.drop j=z::o.drop (j+1):=by rw[N0 X,U]
  rw[L,jG,if_neg V] at J';rw[L,aq] at hf;obtain⟨s,C⟩:=xE (α:=Nat) (c+z);rw[<-C] at J';have w4:IntKind.u64.wrap ((c:Int)+(z:Int))=(s:Int):=by rw[cU (by omega) (by omega)];omega
  have w5:(s:Int).tmod 1000000000=(s:Int)%1000000000:=AM s 1000000000;have w6:IntKind.u64.wrap ((s:Int) / 1000000000)=(s:Int) / 1000000000:=cU (by omega) (by omega);have w7:IntKind.i64.wrap ((j:Int)+1)=(j:Int)+1:=af;have u:(j:Int)<(H.length:Int):=by omega
  have m:j<H.length:=by omega
  have R:j+1<=o.length:=X;have N:0<c:=by omega
  refine⟨(j+1,o.take j++s%1000000000::o.drop (j+1),s / 1000000000),?_⟩;refine bC (r:=_/\_) (show(j+1<=H.length/\(o.take j++s%1000000000::o.drop (j+1)).length=H.length/\lok 1000000000 (o.take j++s%1000000000::o.drop (j+1))=true/\s / 1000000000<1000000000/\
    aq 1000000000 ((o.take j++s%1000000000::o.drop (j+1)).drop (j+1))+s / 1000000000<1000000000 ^ (H.length-(j+1))/\
    (o.take j++s%1000000000::o.drop (j+1)).take (j+1)++jG 1000000000 ((o.take j++s%1000000000::o.drop (j+1)).drop (j+1)) (s / 1000000000)=H.take j0++jG 1000000000 (H.drop j0) I)/\H.length-(j+1)<H.length-j by
   rw[Px X,O2 X];refine⟨⟨by omega,by rw[EH X,hol],?_,by omega,?_,?_⟩,by omega⟩
   .rw[od,cY,jL Zj,jK Zj]
    simp;omega
   .have e:H.length-j=(H.length-(j+1))+1:=by omega
    rw[e,Nat.pow_succ] at hf;generalize 1000000000 ^ (H.length-(j+1))=p at*;omega
   .rw[<-J'];simp) ?_
  clear J' hf J;simp[mP,h5,U,u,X,R,N,w4,w5,w6,w7];simp[iM,rP,dC,cr]
def fu(c:Code):List Nat:=if (ad c).contains 21 then [21] else if (ad c).contains 28 then [28,8] else [11,8]
theorem XX{B i x:Nat}{o b:List Nat}(H:i+b.length<=o.length):o.take i++Rz B x (o.drop i) b 0=
  (o.take i++(mX B x (o.drop i) b 0).1).take (i+b.length)++jG B ((o.take i++(mX B x (o.drop i) b 0).1).drop (i+b.length)) (mX B x (o.drop i) b 0).2:=by
 have Z:(o.take i).length=i:=by simp;omega
 have X:b.length<=(o.drop i).length:=by rw[QQj];omega
 generalize o.take i=P at*;generalize o.drop i=Q at*;have V:(P++(mX B x Q b 0).1).take (i+b.length)=P++(mX B x Q b 0).1.take b.length:=by rw[List.take_append,B5 (by omega),Z,Nat.add_sub_cancel_left]
 have U:(P++(mX B x Q b 0).1).drop (i+b.length)=(mX B x Q b 0).1.drop b.length:=by rw[List.drop_append,ZN (by omega),Z,Nat.add_sub_cancel_left,List.nil_append]
 rw[V,U,T2 B x _ _ _ X,Y1]
theorem zR(A B:List Nat)(n:Nat)(hA:lok 1000000000 A=true)(I:lok 1000000000 B=true)(hl:n<=1000000000)(hn:n=A.length+B.length+1)(hK:n<K){b b2 b3:Code}(H:ah f211=[b,b2,b3]/\fu b=[21]/\fu b2=[28,8]/\fu b3=[11,8]):
  ∃F:Env->Bool->Env,∀Z d,(ae Z 5=.slice 2 0 n none/\ae Z 1=.slice 1 0 B.length none/\ae Z 19=.slice 0 0 A.length none/\ae Z 20=.int .i64 A.length/\ae Z 21=.int .i64 0)->
   aU (bd prog) fu O K 79 2 true (.loop b) ⟨Z,mP A B (List.replicate n 0),d⟩=some (.exit 0,⟨F Z d,mP A B (sw 1000000000 A B (List.replicate n 0)),d⟩)/\
    (ae (F Z d) 5=ae Z 5):=by
 refine bl H.2.1 (fun Z=>ae Z 5=.slice 2 0 n none/\ae Z 1=.slice 1 0 B.length none/\ae Z 19=.slice 0 0 A.length none/\ae Z 20=.int .i64 A.length/\ae Z 21=.int .i64 0)
  (fun Z AC =>ae AC 5=ae Z 5) ?_
 rintro Z d ⟨h5,Y,h19,h20,h21⟩;have U:=H.1;simp[ah,aE,f211] at U;obtain⟨U,ZF,W⟩:=U;have Zm:aw [21] (ad b) Z ((21,.int .i64 ((0:Nat):Int))::Z)=aw [21] (ad b) Z Z:=by simp[aw,h21]
 rw[<-Zm];have hz:aq 1000000000 (List.replicate n 0)=0:=by
  clear hn hl hK h5;induction n with
  |zero=>rfl
  |succ n ih=>rw[List.replicate_succ,aq,ih]
 have D:lok 1000000000 (List.replicate n 0)=true:=by unfold lok;rw[List.all_eq_true];intro d hd;rw[List.mem_replicate] at hd;simp[hd.2]
 have J:aq 1000000000 A*aq 1000000000 B<1000000000 ^ n:=by have Y:=ia hA;have h2:=ia I;have h3:aq 1000000000 A*aq 1000000000 B<1000000000 ^ A.length*1000000000 ^ B.length:=Nat.mul_lt_mul_of_lt_of_lt Y h2;rw[<-Nat.pow_add] at h3;have h4:1000000000 ^ (A.length+B.length)<=1000000000 ^ n:=P3 (by omega) (by omega);omega
 refine bG (α:=Nat×List Nat) (fun a=>⟨aw [21] (ad b) Z ((21,.int .i64 (a.1:Int))::Z),mP A B a.2,d⟩) (fun a=>A.length-a.1)
  (fun a=>a.1<=A.length/\a.2.length=n/\lok 1000000000 a.2=true/\aq 1000000000 (a.2.drop a.1)+aq 1000000000 (A.drop a.1)*aq 1000000000 B<1000000000 ^ (n-a.1)/\
   a.2.take a.1++sw 1000000000 (A.drop a.1) B (a.2.drop a.1)=sw 1000000000 A B (List.replicate n 0)) (.exit 0) _ d _ (by simp) ?_ K (0,List.replicate n 0) ⟨Nat.zero_le _,by simp,D,by simp only[List.drop_zero,QQi];rw[hz];omega,by simp⟩ (by simp;omega)
 rintro ⟨i,o⟩ ⟨hi,hol,Zj,hf,J'⟩;simp only at hi hol Zj hf J';clear Zm J hz D;by_cases hiA:i=A.length
 .right
  subst hiA;rw[List.drop_length,sw,List.take_append_drop] at J';rw[<-J'];subst U;simp[h20]
 .left
  have FS:i<A.length:=by omega
  obtain⟨x,hx,Y9⟩:=dh FS;have Zp:=ff hA hx;have eA:A.drop i=x::A.drop (i+1):=by rw[N0 FS,Y9]
  rw[eA,sw] at J';rw[eA,aq,Nat.add_mul,QQl] at hf;have N:(o.drop i).length=n-i:=by rw[QQj,hol]
  have C:=jK Zj i;obtain⟨r1,r2⟩:=Cp (B:=1000000000) (by omega) x (o.drop i) B 0 C (by rw[N];omega) (by omega);have u:=uW 1000000000 x (o.drop i) B 0;obtain⟨k1,k2,k3⟩:=L8 (B:=1000000000) (by omega) Zp (o.drop i) B 0 C I (by omega) (by omega);have k4:=CT 1000000000 x (o.drop i) B 0;have G:=XX (B:=1000000000) (x:=x) (o:=o) (b:=B) (i:=i) (by omega);obtain⟨L,S⟩:=xE (o.take i++(mX 1000000000 x (o.drop i) B 0).1);obtain⟨c2,M⟩:=xE ((mX 1000000000 x (o.drop i) B 0).2);have ad3:L.length=n:=by rw[S,SP,k4,N,S2,hol];omega
  have ad4:lok 1000000000 L=true:=by rw[S,od,jL Zj,k1];rfl
  have m:aq 1000000000 (L.drop (i+B.length))+c2<1000000000 ^ (L.length-(i+B.length)):=by
   have e1:L.drop (i+B.length)=(mX 1000000000 x (o.drop i) B 0).1.drop B.length:=by rw[S,List.drop_append,S2,hol,ZN (by simp[hol];omega),List.nil_append];congr 1;omega
   have e2:aq 1000000000 (mX 1000000000 x (o.drop i) B 0).1=aq 1000000000 ((mX 1000000000 x (o.drop i) B 0).1.take B.length)+1000000000 ^ B.length*aq 1000000000 ((mX 1000000000 x (o.drop i) B 0).1.drop B.length):=by
    conv=>lhs;rw[<-List.take_append_drop B.length (mX 1000000000 x (o.drop i) B 0).1]
    rw[iv,S2,k4,N,Nat.min_eq_left (by omega)]
   have e3:n-i=B.length+(L.length-(i+B.length)):=by omega
   rw[e3,Nat.pow_add] at hf;rw[e1,M];have:1000000000 ^ B.length*(aq 1000000000 ((mX 1000000000 x (o.drop i) B 0).1.drop B.length)+(mX 1000000000 x (o.drop i) B 0).2)<1000000000 ^ B.length*1000000000 ^ (L.length-(i+B.length)):=by rw[Nat.mul_add];omega
   exact Nat.lt_of_mul_lt_mul_left this
  obtain⟨F2,j⟩:=zT (O:=O) (K:=K) (lv:=fu) A B o i x Zp I Zj (by omega) (by omega) (by omega) H.1 H.2.2.1;obtain⟨F3,X⟩:=zU (O:=O) (K:=K) (lv:=fu) A B L (i+B.length) c2 ad4 (by rw[M];exact k2) (by omega) (by omega) m (by omega) H.1 H.2.2.2;rw[<-S,<-M] at j G;rw[<-G] at X;obtain⟨R,V⟩:=xE (o.take i++Rz 1000000000 x (o.drop i) B 0);rw[<-V] at X;have ad5:R.length=n:=by rw[V,SP,u,N,S2,hol];omega
  have ad6:lok 1000000000 R=true:=by rw[V,od,jL Zj,r2];rfl
  cases hrl:Rz 1000000000 x (o.drop i) B 0 with
  |nil=>rw[hrl] at u;simp at u;omega
  |cons dd rr=>
   rw[hrl] at J' r1 u;simp only at J';have e4:R.take (i+1)=o.take i++[dd]:=by
    rw[V,hrl,List.take_append,S2,hol,B5 (by simp;omega)];have:i+1-min i n=1:=by omega
    rw[this];rfl
   have e5:R.drop (i+1)=rr:=by
    rw[V,hrl,List.drop_append,S2,hol,ZN (by simp;omega)];have:i+1-min i n=1:=by omega
    rw[this];rfl
   obtain⟨p,hp⟩:=xE (α:=Nat) (i+B.length);have w1:IntKind.i64.wrap ((i:Int)+(B.length:Int))=(p:Int):=by rw[af];omega
   have w2:IntKind.i64.wrap ((i:Int)+1)=(i:Int)+1:=af;have hI:(i:Int)<(A.length:Int):=by omega
   rw[<-hp] at X;refine⟨(i+1,R),?_⟩;refine bC (r:=_/\_) (show(i+1<=A.length/\R.length=n/\lok 1000000000 R=true/\aq 1000000000 (R.drop (i+1))+aq 1000000000 (A.drop (i+1))*aq 1000000000 B<1000000000 ^ (n-(i+1))/\
     R.take (i+1)++sw 1000000000 (A.drop (i+1)) B (R.drop (i+1))=sw 1000000000 A B (List.replicate n 0))/\A.length-(i+1)<A.length-i by
    rw[e4,e5];refine⟨⟨by omega,ad5,ad6,?_,by rw[<-J'];simp⟩,by omega⟩;rw[aq] at r1;have e:n-i=(n-(i+1))+1:=by omega
    rw[e,Nat.pow_succ] at hf;generalize 1000000000 ^ (n-(i+1))=q at*;omega) ?_
   rw[hol] at j;rw[ad3] at X;clear J' hf m r1 r2 u k1 k2 k3 k4 G e4 e5 hrl V S M;subst U;subst ZF;subst W;simp only[mP] at j X;simp[mP,h5,Y,h19,h20,Y9,hI,FS,w1,w2,j,X]
theorem DN(A B:List Nat)(H:lok 1000000000 A=true)(I:lok 1000000000 B=true)(J:A.length<=100000000)(W:B.length<=100000000):
  ∃X,aW X=dig 1000000000 (aq 1000000000 A*aq 1000000000 B)/\aa (bd prog) fu (aX prog) bR (A.length+B.length+2) 211 [.slice 0 0 A.length none,.slice 1 0 B.length none] [.cells false 1 (iN .u64 A),.cells false 1 (iN .u64 B)]=
   some ⟨.slice 2 0 (aW X).length none,none,[.cells true 1 (iN .u64 X)]⟩:=by
 have G:aX prog 211=some f211:=by kernel_rfl
 obtain⟨b,U,S,M⟩:∃b U S,ah f211=[b,U,S]/\fu b=[21]/\fu U=[28,8]/\fu S=[11,8]:=⟨_,_,_,rfl,by decide,by decide,by decide⟩
 obtain⟨n,R⟩:=xE (A.length+B.length+1);obtain⟨F,N⟩:=zR (O:=bR) (K:=A.length+B.length+2) A B n H I (by omega) R (by omega) M;obtain⟨t1,t2,t3⟩:=Rp (B:=1000000000) (by omega) H I;rw[<-R] at t1 t2 t3;obtain⟨X,V⟩:=xE (sw 1000000000 A B (List.replicate n 0));rw[<-V] at t1 t2 t3 N;refine⟨X,by rw[<-dS (by omega) t2,t1],?_⟩;obtain⟨Z,_⟩:=M;simp[ah,aE,f211] at Z;obtain⟨Z,_,_⟩:=Z;subst Z;obtain⟨L,hs1⟩:=xE (α:=Nat) (A.length+B.length);have w1:IntKind.i64.wrap ((A.length:Int)+(B.length:Int))=(L:Int):=by rw[af];omega
 have w2:IntKind.i64.wrap ((L:Int)+1)=(n:Int):=by rw[af];omega
 have m:0<=(n:Int):=by omega
 have D:8*(n:Int)<=281474976710656:=by omega
 have C:(n:Int)<=281474976710656:=by omega
 have u:bh .u64 [.cells false 1 (iN .u64 A),.cells false 1 (iN .u64 B),.cells true 1 (iN .u64 X)] (.slice 2 0 n none)=some X:=
  aR rfl (by simp[t3]) (B5 (by simp[t3]))
 have o:X.length<=1000000000:=by omega
 clear R hs1 V;simp only[mP] at N;simp[aa,G,f211,w1,w2,D,C,N,bR,u,o,rQ]
theorem HX{M:Mem}{x y:AV}{A B:List Nat}(H:lok 1000000000 A=true)(I:lok 1000000000 B=true)(J:A.length<=100000000)(W:B.length<=100000000)(Y:aft .u64 M x A)(hy:aft .u64 M y B):
  kO prog 211 [x,y] M (.slice M.length 0 (dig 1000000000 (aq 1000000000 A*aq 1000000000 B)).length none) (M++[.cells true 1 (iN .u64 (dig 1000000000 (aq 1000000000 A*aq 1000000000 B)))]):=by
 obtain⟨Z,X,h⟩:=DN A B H I J W;have:=(ar aj (aJ _) jr (aM _) h).1;simp only[afh.mem,Option.getD_none,List.cons_append,List.nil_append] at this;have V:=kO.ag9 (m:=[.cells false 1 (iN .u64 A),.cells false 1 (iN .u64 B)]) this (Cd (dD _));obtain⟨b,c,rfl,rfl,h3⟩:=kO.agc (new:=[.cells true 1 (iN .u64 (aW Z))]) rfl V Y hy;rw[X] at h3;simpa [AV.ren,fa] using h3
theorem FF{A:List Nat}(hA:A.length=n)(hn:0<n)(hl:n<=1000000000)(J Y H m0 eb:Nat)(ob oA:Bool)(M:Nat->Mem)(I:∀j,j<=n->(M j).length=m0)(hs:∀j,j<=n->(M j)[J]? =some (.cells ob eb [.slice Y 0 n none]))(hr:∀j,j<=n->(M j)[Y]? =some (.cells oA 1 (iN .u64 A)))(W:∀s∈M 0,s.refs m0=[])(hy:∀j,j<n->gH prog H [.int .i64 (j:Int),.int .u64 ((A.getD j 0:Nat):Int)] (M (j+1)) (.bool true) (M j)):
  kO prog 279 [.yield H,.ptr J 0] (M n) (.tuple []) (M 0):=by
 have u:aX prog 279=some f279:=by kernel_rfl
 obtain⟨O,o,S⟩:=jR (P:=prog) (fun j:Nat=>j<n) (fun _=>.yld H) (fun j=>[.int .i64 (j:Int),.int .u64 ((A.getD j 0:Nat):Int)]) (fun j=>M (j+1)) (fun j=>⟨.bool true,some (M j),[]⟩)
  (fun j m=>⟨by simpa [afh.mem] using hy j m,fun q hq=>by cases hq;rw[I j (by omega),I (j+1) (by omega)]⟩)
  (fun i j _ _ _ h _=>by
   simp only[List.cons.injEq,AV.int.injEq] at h;have:i=j:=by omega
   rw[this])
 obtain⟨b,U⟩:∃b,ah f279=[b]:=⟨_,rfl⟩
 have loop:∃F:Env->Env,∀Z,(ae Z 0=.yield H/\ae Z 1=.ptr J 0/\ae Z 3=.int .i64 ((n:Int)-1))->
   aU (bd prog) (fun _=>[3]) O (n+1) 19 m0 true (.loop b) ⟨Z,M n,false⟩=some (.exit 0,⟨F Z,M 0,true⟩)/\True:=by
  refine uY rfl false true (fun Z=>ae Z 0=.yield H/\ae Z 1=.ptr J 0/\ae Z 3=.int .i64 ((n:Int)-1)) (fun _ _=>True) ?_;rintro Z ⟨h0,h1,h3⟩;simp[ah,aE,f279] at U;have L:aw [3] (ad b) Z ((3,.int .i64 ((n:Int)-1))::Z)=aw [3] (ad b) Z Z:=by simp[aw,h3]
  rw[<-L];have D:(⟨aw [3] (ad b) Z ((3,.int .i64 ((n:Int)-1))::Z),M n,false⟩:XS)=⟨aw [3] (ad b) Z ((3,.int .i64 ((n:Int)-1))::Z),M n,decide (n<n)⟩:=by simp
  rw[D];refine bG (α:=Nat) (fun k=>⟨aw [3] (ad b) Z ((3,.int .i64 ((k:Int)-1))::Z),M k,decide (k<n)⟩) id (fun k=>k<=n) (.exit 0) (M 0) true (fun _=>True) (by simp) ?_ (n+1) n (L9 _) (by simp);intro k hk;clear L D;subst U;cases k with
  |zero=>
   right;simp[hn]
  |succ k=>
   left;have X:k<n:=by omega
   have e1:(((k+1:Nat):Int)-1)=(k:Int):=by omega
   have w1:IntKind.i64.wrap ((k:Int)-1)=(k:Int)-1:=af;have l1:=I k (by omega);have V:=I n (by omega);have R:=hs (k+1) (by omega);have r1:=hr (k+1) (by omega);have C:=S k X;obtain⟨x,hx,Y9⟩:=dh (l:=A) (i:=k) (by omega);have hg:A.getD k 0=x:=by simp[List.getD,hx]
   rw[hg] at C;rw[e1];refine⟨k,?_⟩;have ad7 :(k:Int)<(n:Int):=by omega
   simp[h0,h1,w1,l1,V,R,r1,Y9,hA,X,C];omega
 obtain⟨F,hF⟩:=loop;simp[ah,aE,f279] at U;subst U;have w1:IntKind.i64.wrap ((n:Int)-1)=(n:Int)-1:=af;have V:=I n (by omega);have R:=hs n (by omega);have N:∃B,aU (bd prog) (fun _=>[3]) O (n+1) f279.ntmps (M n).length true (f279.body.getD .skip) ⟨dL 0 [.yield H,.ptr J 0],M n,false⟩=some (.normal,⟨B,M 0,true⟩):=by simp[f279,R,w1,V,hF]
 obtain⟨B,N⟩:=N;have:=KW (T:=bd prog) (G:=aX prog) (v:=.tuple []) u rfl (by simp[f279]) (.inl rfl) N rfl (by rw[I 0 (by omega),V]) rfl (by rw[V];exact W);have h2:=(ar aj (aJ _) o (aM _) this).1;simpa [afh.mem] using h2
def ma(A:List Nat)(d:Nat)(I:Array Tmp)(J H:Code)(W:Env)(j:Nat):Mem:=
 [.cells false 1 (iN .u64 A),.cells false 1 [.int .u64 (d:Int)],.cells true 0 [.slice 1 0 1 none],.cells true 0 [.slice 4 0 A.length none],
  .cells true 1 (iN .u64 (List.replicate j 0++(gx 1000000000 d (A.drop j)).1)),.cells true 0 [.int .u64 (((gx 1000000000 d (A.drop j)).2:Nat):Int)],.cells true 0 [.slice 0 0 A.length none],
  .loop ⟨.ready,none,W,146,I,J,H⟩]
variable{Zb body:Code}{ps:Array Tmp}
section
variable (A:List Nat)(d:Nat)(hd0:0<d)(hd:d<1000000000)(hA:lok 1000000000 A=true)(hl:A.length<=1000000000)
include A d hd0 hd hA hl
theorem Dy(I:fh f223=[(ps,Zb,body)])(H:Env)(h3:ae H 3=.ptr 2 0)(h4:ae H 4=.ptr 3 0)(h6:ae H 6=.ptr 5 0)(J:H.flatMap (fun e=>e.2.refs 8)=[])(j:Nat)(W:j<A.length):
  gH prog 7 [.int .i64 (j:Int),.int .u64 ((A.getD j 0:Nat):Int)] (ma A d ps Zb body H (j+1)) (.bool true) (ma A d ps Zb body H j):=by
 obtain⟨x,u,Y9⟩:=dh W;have Zp:=ff hA u;have hg:A.getD j 0=x:=by simp[List.getD,u]
 have eA:A.drop j=x::A.drop (j+1):=by rw[N0 W,Y9]
 rw[hg];have Za:dc Zb=true/\dc body=true/\ps= #[27,28]:=by simp[fh,gv,f223] at I;obtain⟨rfl,rfl,rfl⟩:=I;exact⟨by decide,by decide,rfl⟩
 obtain⟨o,m,rfl⟩:=Za;have N:∀Y,su (rho 8 Y) H=H:=fun Y=>Ox J
 have Z:(gx 1000000000 d (A.drop j))=(((gx 1000000000 d (A.drop (j+1))).2*1000000000+x) / d::(gx 1000000000 d (A.drop (j+1))).1,((gx 1000000000 d (A.drop (j+1))).2*1000000000+x)%d):=by rw[eA];rfl
 obtain⟨i1,i2,i3,i4⟩:=B8 hd0 hd (A.drop (j+1)) (jK hA _);obtain⟨r,M⟩:=xE ((gx 1000000000 d (A.drop (j+1))).2);obtain⟨q,L⟩:=xE ((gx 1000000000 d (A.drop (j+1))).1);rw[<-M,<-L] at Z;rw[<-M] at i1;rw[<-L] at i4;have V:ma A d #[27,28] Zb body H (j+1)=[.cells false 1 (iN .u64 A),.cells false 1 [.int .u64 (d:Int)],.cells true 0 [.slice 1 0 1 none],.cells true 0 [.slice 4 0 A.length none],
  .cells true 1 (iN .u64 (List.replicate (j+1) 0++q)),.cells true 0 [.int .u64 (r:Int)],.cells true 0 [.slice 0 0 A.length none],.loop ⟨.ready,none,H,146,#[27,28],Zb,body⟩]:=by rw[M,L];rfl
 obtain⟨s,hs⟩:=xE (α:=Nat) (r*1000000000+x);rw[<-hs] at Z;have U:ma A d #[27,28] Zb body H j=[.cells false 1 (iN .u64 A),.cells false 1 [.int .u64 (d:Int)],.cells true 0 [.slice 1 0 1 none],.cells true 0 [.slice 4 0 A.length none],
  .cells true 1 (iN .u64 (List.replicate j 0++s / d::q)),.cells true 0 [.int .u64 ((s%d:Nat):Int)],.cells true 0 [.slice 0 0 A.length none],.loop ⟨.ready,none,H,146,#[27,28],Zb,body⟩]:=by unfold ma;rw[Z]
 rw[V,U];have hql:q.length=A.length-(j+1):=by rw[i4,QQj]
 have hsd:s / d<=s:=Nat.div_le_self _ _;have hsm:s%d<d:=Nat.mod_lt _ hd0;obtain⟨S,X⟩:=xE (s / d);obtain⟨sr,R⟩:=xE (s%d);have w1:IntKind.u64.wrap ((r:Int)*1000000000)=(r:Int)*1000000000:=cU (by omega) (by omega);have w2:IntKind.u64.wrap ((r:Int)*1000000000+(x:Int))=(s:Int):=by rw[cU (by omega) (by omega)];omega
 have w3:IntKind.u64.wrap ((s:Int).tdiv (d:Int))=(S:Int):=by rw[wW,<-X];exact cU (by omega) (by omega)
 have G :IntKind.u64.wrap ((s:Int) / (d:Int))=(S:Int):=by rw[<-Int.natCast_ediv,<-X];exact cU (by omega) (by omega)
 have w4:(s:Int).tmod (d:Int)=(sr:Int):=by rw[wY,<-R]
 have F:¬d=0:=by omega
 have D:(j:Int)<(A.length:Int):=by omega
 have C:(iN .u64 (List.replicate (j+1) 0++q)).take j++.int .u64 (S:Int)::(iN .u64 (List.replicate (j+1) 0++q)).drop (j+1)=iN .u64 (List.replicate j 0++S::q):=by rw[Tg _ _ _ _ (by simp;omega)];congr 1;rw[QXK (by simp),List.take_replicate,List.drop_append,ZN (by simp)];simp
 have B:(List.replicate (j+1) 0++q).take j=List.replicate j 0:=by rw[QXK (by simp),List.take_replicate];congr 1;omega
 have hjq:j+1<=(List.replicate (j+1) 0++q).length:=by simp
 rw[<-X,<-R];have hc:xN (bd prog) (fun _=>[]) cP 1 7 [.int .i64 (j:Int),.int .u64 (x:Int)] [.cells false 1 (iN .u64 A),.cells false 1 [.int .u64 (d:Int)],.cells true 0 [.slice 1 0 1 none],.cells true 0 [.slice 4 0 A.length none],
  .cells true 1 (iN .u64 (List.replicate (j+1) 0++q)),.cells true 0 [.int .u64 (r:Int)],.cells true 0 [.slice 0 0 A.length none],.loop ⟨.ready,none,H,146,#[27,28],Zb,body⟩]=some ⟨.bool true,some [.cells false 1 (iN .u64 A),.cells false 1 [.int .u64 (d:Int)],.cells true 0 [.slice 1 0 1 none],.cells true 0 [.slice 4 0 A.length none],
  .cells true 1 (iN .u64 (List.replicate j 0++S::q)),.cells true 0 [.int .u64 (sr:Int)],.cells true 0 [.slice 0 0 A.length none],.loop ⟨.ready,none,H,146,#[27,28],Zb,body⟩],[]⟩:=by
  clear V U C;simp[xN,o,m];simp[fh,gv,f223] at I;obtain⟨rfl,rfl⟩:=I;clear o m;simp[h3,h4,h6,w1,w2,G,w4,F,D,J,N,rY,nC,iM,rP,Nat.testBit];rw[B,dC,cr]
 have:=(pE aj (aJ _) (az _) hc).1;simpa [afh.mem] using this
theorem Dx(H:0<A.length)(I:fh f223=[(ps,Zb,body)]):
  ∃O:y9,qS prog O/\∀Z,(ae Z 3=.ptr 2 0/\ae Z 4=.ptr 3 0/\ae Z 6=.ptr 5 0/\Z.flatMap (fun e=>e.2.refs 8)=[])->
   O (.fn 279) [.yield 7,.ptr 6 0] (ma A d ps Zb body Z A.length)=some ⟨.tuple [],some (ma A d ps Zb body Z 0),[]⟩:=by
 refine jR (ι:=Env) (fun Z=>ae Z 3=.ptr 2 0/\ae Z 4=.ptr 3 0/\ae Z 6=.ptr 5 0/\Z.flatMap (fun e=>e.2.refs 8)=[]) (fun _=>.fn 279) (fun _=>[.yield 7,.ptr 6 0]) (fun Z=>ma A d ps Zb body Z A.length) (fun Z=>⟨.tuple [],some (ma A d ps Zb body Z 0),[]⟩) ?_ ?_
 .rintro Z ⟨h3,h4,h6,he⟩
  refine⟨?_,fun q V=>by cases V;rfl⟩;have:=FF (n:=A.length) (A:=A) rfl H hl 6 0 7 8 0 true false (ma A d ps Zb body Z) (fun _ _=>rfl) (fun _ _=>rfl) (fun _ _=>rfl) (fun s X=>by simp only[ma,lM] at X;rcases X with rfl | rfl | rfl | rfl | rfl | rfl | rfl | rfl;all_goals first | exact wS he | simp) (fun j U=>Dy A d hd0 hd hA hl I Z h3 h4 h6 he j U)
  simpa [afh.mem] using this
 .intro i j _ _ _ _ h
  simp only[ma,List.cons.injEq,afl.loop.injEq,agq.mk.injEq,and_true,true_and] at h;rw[h]
end
theorem uT(T:TypeId->Option TyI)(lv:Code->List Nat)(O:y9)(K N m0:Nat)(g:Operand)(ps:Array Tmp)(Zb body:Code)(s:XS):aU T lv O K N m0 true (.rangeFunc g ps Zb body) s=match get s.env g with
   |.func f caps=>match O (.fn f) (.yield s.mem.length::caps) (s.mem++[.loop ⟨.ready,none,s.env,N,ps,Zb,body⟩]) with
    |some r=>match (r.mem (s.mem++[.loop ⟨.ready,none,s.env,N,ps,Zb,body⟩]))[s.mem.length]? with
     |some (.loop r2)=>if r2.st== .busy then none else match yW r2.ago with
      |some e=>some (e,⟨s.env,(r.mem (s.mem++[.loop ⟨.ready,none,s.env,N,ps,Zb,body⟩])).set s.mem.length (.loop { r2 with st:=.exhausted }),s.afD||r.pre.isSome⟩)
      |none=>none
     |_=>none
    |none=>none
   |_=>none:=rfl
theorem AP(b n:Nat)(m:Mem)(H:b<m.length):aa (bd prog) (fun _=>[]) (aX prog) cP 1 255 [.slice b 0 n none] m=some ⟨.func 279 [.ptr m.length 0],none,[.cells true 0 [.slice b 0 n none]]⟩:=by
 have Z:aX prog 255=some f255:=by kernel_rfl
 simp[aa,Z,f255,H,List.idxOf?]
end Go.Proofs
