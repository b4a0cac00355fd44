/- See H38. -/
import Derived.Test.YthpgbelancmpjaaGreatDoorH09
set_option linter.all false
namespace Go.Eng
def ni(B x:Nat):List Nat->List Nat->Nat->List Nat×Nat
 |o,[],c=>(o,c)
 | [],_::_,c=>([],c)
 |o::l,y::b,c=>((c+(o+x*y))%B::(ni B x l b ((c+(o+x*y)) / B)).1,(ni B x l b ((c+(o+x*y)) / B)).2)
theorem Bb(B x:Nat)(o:List Nat)(c:Nat):ni B x o [] c=(o,c):=by cases o<;>rfl
theorem DD(B x:Nat):∀(o b:List Nat) (c:Nat),(ni B x o b c).1.length=o.length
 |o,[],c=>by rw[Bb]
 | [],_::_,_=>rfl
 |o::l,y::b,c=>by simp[ni,DD B x l b]
theorem U4(B x:Nat):∀(o b:List Nat) (c:Nat),b.length<=o.length->RB B x o b c=(ni B x o b c).1.take b.length++ju B ((ni B x o b c).1.drop b.length) (ni B x o b c).2
 |o,[],c,_=>by rw[Bb];cases o<;>rfl
 | [],_::_,_,h=>by simp at h
 |o::l,y::b,c,h=>by rw[RB,ni,U4 B x l b _ (by simpa using h)];simp
theorem L6{B:Nat}(H:2<=B){x:Nat}(hx:x<B):∀(o b:List Nat) (c:Nat),lok B o=true->lok B b=true->c<B->b.length<=o.length->
  lok B (ni B x o b c).1=true/\(ni B x o b c).2<B/\aq B (ni B x o b c).1+B ^ b.length*(ni B x o b c).2=aq B o+x*aq B b+c
 |o,[],c,ho,_,hc,_=>by rw[Bb];simp only[aq,List.length_nil,Nat.pow_zero,Nat.mul_zero,Nat.one_mul];exact⟨ho,hc,by omega⟩
 | [],_::_,_,_,_,_,h=>by simp at h
 |o::l,y::b,c,ho,hb,hc,h=>by
  rw[di,Ar,Cs] at ho hb;have Z:x*y<=(B-1)*(B-1):=Nat.mul_le_mul (by omega) (by omega);have X:(c+(o+x*y)) / B<B:=by
   rw[Nat.div_lt_iff_lt_mul (by omega)];obtain⟨q,rfl⟩:∃q,B=q+1:=⟨B-1,by omega⟩
   have O:(q+1)*(q+1)=q*q+q+q+1:=by rw[Nat.add_mul,Nat.mul_add];omega
   simp only[Nat.add_sub_cancel] at Z;omega
  obtain⟨V,U,S⟩:=L6 H hx l b _ ho.2 hb.2 X (by simpa using h);have R:=Nat.mod_add_div (c+(o+x*y)) B;have e:x*(y+B*aq B b)=x*y+B*(x*aq B b):=by rw[Nat.mul_add,<-QQk,<-QQk,SP x B]
  have Q:B ^ (b.length+1)*(ni B x l b ((c+(o+x*y)) / B)).2=B*(B ^ b.length*(ni B x l b ((c+(o+x*y)) / B)).2):=by rw[Nat.pow_succ,SP (B ^ b.length) B,QQk]
  simp only[ni];refine⟨?_,U,?_⟩
  .rw[di,V];simp[Nat.mod_lt (c+(o+x*y)) (show 0<B by omega)]
  .rw[aq,aq,aq,e,List.length_cons,Q]
   have:=congrArg (B*·) S;simp only[Nat.mul_add] at this;omega
theorem NG(B:Nat)(l:List Nat):ju B l 0=l:=by cases l<;>simp[ju]
theorem sZ(B:Nat){l:List Nat}{n:Nat}(H:n<=l.length):aq B l=aq B (l.take n)+B ^ n*aq B (l.drop n):=by
 conv=>lhs;rw[<-List.take_append_drop n l]
 rw[gS,M0,Nat.min_eq_left H]
variable{B b m r:Nat}
theorem WB{D top:Nat}(H:2<=B)(hm:(dig B b).length=m)(J:1<=m)(I:(dig B b)[m-1]? =some top)(hr:r<B*b)(W:b<=r)(Y:((dig B r).length=m/\(dig B r)[m-1]? =some D)\/((dig B r).length=m+1/\∃h l,(dig B r)[m]? =some h/\(dig B r)[m-1]? =some l/\D=h*B+l)):
  0<top/\r / b<=D / top/\r / b<=B-1:=by
 have C:=bN H b;have y:=cc H b;have Z:=bN H r;have X:=cc H r;have G:m-1<(dig B b).length:=by omega
 have F:(dig B b)[m-1]=top:=(Hi.1 I).2;have u:b=aq B ((dig B b).take (m-1))+B ^ (m-1)*top:=by have:=sZ B (l:=dig B b) (n:=m-1) (by omega);rw[C,LU G,F,M6 (by omega)] at this;simpa [aq] using this
 have V:0<top:=by
  rcases P1 top with h | h
  .have S:=cB H b
   have U:bd (dig B b)=bd ((dig B b).take (m-1)):=by
    conv=>lhs;rw[<-List.take_append_drop (m-1) (dig B b),LU G,F,M6 (by omega),h]
    exact jy _
   have h3:=dw ((dig B b).take (m-1));rw[<-U,S,M0] at h3;omega
  .exact h
 have R:0<b:=by
  rcases P1 b with h | h
  .subst h;simp at hr
  .exact h
 have o:r / b*b<=r:=Nat.div_mul_le_self r b;have Q:top*B ^ (m-1)<=b:=by rw[SP];omega
 have O:r<(D+1)*B ^ (m-1):=by
  rcases Y with⟨S,U⟩ | ⟨S,h,l,U,h3,rfl⟩
  .have N:m-1<(dig B r).length:=by omega
   have e:=sZ B (l:=dig B r) (n:=m-1) (by omega);rw[Z,LU N,(Hi.1 U).2,M6 (by omega)] at e;have M:=gN (jx X (m-1));rw[M0,Nat.min_eq_left (by omega)] at M;simp[aq] at e;rw[Nat.add_mul,Nat.one_mul,SP D];omega
  .have N:m-1<(dig B r).length:=by omega
   have j:m-1+1<(dig B r).length:=by omega
   have K :m-1+1=m:=by omega
   have e:=sZ B (l:=dig B r) (n:=m-1) (by omega);rw[Z,LU N,(Hi.1 h3).2,LU j,M6 (by omega)] at e;have e5:(dig B r)[m-1+1]=h:=by have:=(Hi.1 U).2;simp only[K];exact this
   rw[e5] at e;have M:=gN (jx X (m-1));rw[M0,Nat.min_eq_left (by omega)] at M;simp only[aq,Nat.mul_zero,Nat.add_zero] at e;rw[Nat.mul_add] at e;have e6:(h*B+l+1)*B ^ (m-1)=B ^ (m-1)*l+B ^ (m-1)*(B*h)+B ^ (m-1):=by rw[Nat.add_mul,Nat.add_mul,Nat.one_mul,SP (h*B),SP l,SP h B];omega
   omega
 refine⟨V,WA O Q o V,?_⟩;have:r / b<B:=by rw[Nat.div_lt_iff_lt_mul R];exact hr
 omega
theorem yA(H:2<=B)(I:(dig B b).length=m)(hr:r<B*b)(J:b<=r):(dig B r).length=m\/(dig B r).length=m+1:=by
 have X:m<=(dig B r).length:=by
  rcases Nat.lt_or_ge (dig B r).length m with h | h
  .have:=dV H (m:=r) (n:=b) (by omega);omega
  .exact h
 have Z:r<B ^ (m+1):=by have:=sR H b;rw[I] at this;rw[Nat.pow_succ,SP];exact QQi hr (Nat.mul_le_mul_left _ (by omega))
 have:=fm H Z;omega
theorem Hd{a:Nat}(H:2<=B)(I:a<B):bd (a::dig B r)=dig B (a+B*r):=by rw[<-dW H (show lok B (a::dig B r)=true by rw[di,cc H];simp[I]),aq,bN H]
end Go.Eng
namespace Go.Proofs
open Go.Eng
open Tryz
def mY(A B o:List Nat):Mem:=[.cells false 1 (iN .u64 A),.cells false 1 (iN .u64 B),.cells true 1 (iN .u64 o)]
theorem Ul(k:IntKind)(l:List Nat)(i n:Nat)(h:i<l.length):(iN k l).take i++.int k (n:Int)::(iN k l).drop (i+1)=iN k (l.take i++n::l.drop (i+1)):=by simp[iA,rV,dJ,cD]
variable{i n:Nat}{l:List Nat}
theorem Pa(h:i<l.length):(l.take i++n::l.drop (i+1)).take (i+1)=l.take i++[n]:=by
 have:(l.take i).length=i:=by simp;omega
 rw[List.take_append,this];have e:i+1-i=1:=by omega
 rw[e,An (by omega)];rfl
theorem OJ(h:i<l.length):(l.take i++n::l.drop (i+1)).drop (i+1)=l.drop (i+1):=by
 have:(l.take i).length=i:=by simp;omega
 rw[List.drop_append,this];have e:i+1-i=1:=by omega
 rw[e,M6 (by omega)];rfl
theorem Ft(h:i<l.length):(l.take i++n::l.drop (i+1)).length=l.length:=by simp;omega
variable{K:Nat}{O:afu}{lv:Code->List Nat}
theorem Am(A B H:List Nat)(i x:Nat)(hx:x<1000000000)(W:lok 1000000000 B=true)(Y:lok 1000000000 H=true)(hl:H.length<=1000000000)(hn:i+B.length<H.length)(hK:B.length<K){b1 b b3:Code}(J:ah f211=[b1,b,b3])(I:lv b=[28,8]):
  ∃F:Env->Bool->Env,∀Z d,(aa Z 5=.slice 2 0 H.length none/\aa Z 6=.int .i64 i/\aa Z 7=.int .u64 x/\aa Z 26=.slice 1 0 B.length none/\aa Z 27=.int .i64 B.length/\aa Z 28=.int .i64 0/\aa Z 8=.int .u64 0)->
   aO (aL prog) lv O K 79 2 true (.loop b) ⟨Z,mY A B H,d⟩=some (.exit 2,⟨F Z d,mY A B (H.take i++(ni 1000000000 x (H.drop i) B 0).1),d⟩)/\
    (aa (F Z d) 8=.int .u64 (((ni 1000000000 x (H.drop i) B 0).2:Nat):Int)/\aa (F Z d) 5=aa Z 5/\aa (F Z d) 6=aa Z 6/\aa (F Z d) 1=aa Z 1/\aa (F Z d) 21=aa Z 21):=by
 refine bG I (fun Z=>aa Z 5=.slice 2 0 H.length none/\aa Z 6=.int .i64 i/\aa Z 7=.int .u64 x/\aa Z 26=.slice 1 0 B.length none/\aa Z 27=.int .i64 B.length/\aa Z 28=.int .i64 0/\aa Z 8=.int .u64 0)
  (fun Z U =>aa U 8=.int .u64 (((ni 1000000000 x (H.drop i) B 0).2:Nat):Int)/\aa U 5=aa Z 5/\aa U 6=aa Z 6/\aa U 1=aa Z 1/\aa U 21=aa Z 21) ?_
 clear I;rintro Z d ⟨h5,h6,h7,h26,h27,h28,h8⟩;simp[ah,aw,f211] at J;obtain⟨_,J,_⟩:=J;have S:au [28,8] (ae b) Z ((28,.int .i64 ((0:Nat):Int))::(8,.int .u64 ((0:Nat):Int))::Z)=au [28,8] (ae b) Z Z:=by simp[au,h28,h8]
 rw[<-S];refine bZ (α:=Nat×List Nat×Nat) (fun a=>⟨au [28,8] (ae b) Z ((28,.int .i64 (a.1:Int))::(8,.int .u64 (a.2.2:Int))::Z),mY A B a.2.1,d⟩) (fun a=>B.length-a.1)
  (fun a=>a.1<=B.length/\a.2.1.length=H.length/\lok 1000000000 a.2.1=true/\a.2.2<1000000000/\
   a.2.1.take (i+a.1)++(ni 1000000000 x (a.2.1.drop (i+a.1)) (B.drop a.1) a.2.2).1=H.take i++(ni 1000000000 x (H.drop i) B 0).1/\
   (ni 1000000000 x (a.2.1.drop (i+a.1)) (B.drop a.1) a.2.2).2=(ni 1000000000 x (H.drop i) B 0).2) (.exit 2) _ d _ (by simp) ?_ K (0,H,0) ⟨Nat.zero_le _,rfl,Y,by show(0:Nat)<1000000000;omega,rfl,rfl⟩ (by simpa using hK)
 rintro ⟨k,o,c⟩ ⟨hk,hol,hok,hc,H1,aaS⟩;simp only at hk hol hok hc H1 aaS;clear S;subst J;by_cases M:k=B.length
 .right
  subst M;rw[List.drop_length,Bb] at H1 aaS;simp only[List.take_append_drop] at H1;rw[<-H1,<-aaS];simp[h27]
 .left
  have G:k<B.length:=by omega
  obtain⟨y,j,R⟩:=dp G;have hyb:=eK W j;have eB:B.drop k=y::B.drop (k+1):=by rw[LU G,R]
  obtain⟨p,hp⟩:=xE (α:=Nat) (i+k);have X:p<o.length:=by omega
  obtain⟨z,hz,Q⟩:=dp X;have hzb:=eK hok hz;have eo:o.drop p=z::o.drop (p+1):=by rw[LU X,Q]
  rw[<-hp,eB,eo,ni] at H1 aaS;have D:x*y<=999999999*999999999:=Nat.mul_le_mul (by omega) (by omega);obtain⟨s,m⟩:=xE (α:=Nat) (c+(z+x*y));rw[<-m] at H1 aaS;obtain⟨V,N⟩:=xE (α:=Nat) (x*y);rw[<-N] at D m;have C:(x:Int)*(y:Int)=(V:Int):=by rw[N];exact(Int.natCast_mul x y).symm
  have w1:IntKind.i64.wrap ((i:Int)+(k:Int))=(p:Int):=by rw[af];omega
  have w2:IntKind.u64.wrap (V:Int)=(V:Int):=dc (by omega) (by omega);have w3:IntKind.u64.wrap ((z:Int)+(V:Int))=(z:Int)+(V:Int):=dc (by omega) (by omega);have w4:IntKind.u64.wrap ((c:Int)+((z:Int)+(V:Int)))=(s:Int):=by rw[dc (by omega) (by omega)];omega
  have w5:(s:Int).tmod 1000000000=(s:Int)%1000000000:=Bc s 1000000000;have w6:IntKind.u64.wrap ((s:Int) / 1000000000)=(s:Int) / 1000000000:=dc (by omega) (by omega);have w7:IntKind.i64.wrap ((k:Int)+1)=(k:Int)+1:=af;have hI:(p:Int)<(H.length:Int):=by omega
  have u:p+1<=o.length:=X;have hu:=Ul .u64 o p (s%1000000000) X;refine⟨(k+1,o.take p++s%1000000000::o.drop (p+1),s / 1000000000),?_⟩;refine bF (r:=_/\_) (show(k+1<=B.length/\(o.take p++s%1000000000::o.drop (p+1)).length=H.length/\lok 1000000000 (o.take p++s%1000000000::o.drop (p+1))=true/\s / 1000000000<1000000000/\
    (o.take p++s%1000000000::o.drop (p+1)).take (i+(k+1))++(ni 1000000000 x ((o.take p++s%1000000000::o.drop (p+1)).drop (i+(k+1))) (B.drop (k+1)) (s / 1000000000)).1=H.take i++(ni 1000000000 x (H.drop i) B 0).1/\
    (ni 1000000000 x ((o.take p++s%1000000000::o.drop (p+1)).drop (i+(k+1))) (B.drop (k+1)) (s / 1000000000)).2=(ni 1000000000 x (H.drop i) B 0).2)/\B.length-(k+1)<B.length-k by
   have hq:i+(k+1)=p+1:=by omega
   rw[hq,Pa X,OJ X];refine⟨⟨by omega,by rw[Ft X,hol],?_,by omega,?_,aaS⟩,by omega⟩
   .rw[oG,di,jx hok,jw hok]
    simp;omega
   .rw[<-H1];simp) ?_
  clear H1 aaS;simp[mY,h5,h6,h7,h26,h27,R,Q,hI,G,X,u,C,w1,w2,w3,w4,w5,w6,w7];simp[iA,rV,dJ,cD]
theorem Ao(A B H:List Nat)(j0 I:Nat)(ho:lok 1000000000 H=true)(hc0:I<1000000000)(hl:H.length<=1000000000)(hj0:j0<=H.length)(J:aq 1000000000 (H.drop j0)+I<1000000000 ^ (H.length-j0))(hK:H.length<K){b1 b2 b:Code}(Y:ah f211=[b1,b2,b])(W:lv b=[11,8]):
  ∃F:Env->Bool->Env,∀Z d,(aa Z 5=.slice 2 0 H.length none/\aa Z 11=.int .i64 j0/\aa Z 8=.int .u64 I)->
   aO (aL prog) lv O K 79 2 true (.loop b) ⟨Z,mY A B H,d⟩=some (.exit 4,⟨F Z d,mY A B (H.take j0++ju 1000000000 (H.drop j0) I),d⟩)/\
    (aa (F Z d) 5=aa Z 5/\aa (F Z d) 1=aa Z 1/\aa (F Z d) 21=aa Z 21):=by
 refine bG W (fun Z=>aa Z 5=.slice 2 0 H.length none/\aa Z 11=.int .i64 j0/\aa Z 8=.int .u64 I)
  (fun Z R =>aa R 5=aa Z 5/\aa R 1=aa Z 1/\aa R 21=aa Z 21) ?_
 clear W;rintro Z d ⟨h5,h11,h8⟩;simp[ah,aw,f211] at Y;obtain⟨_,_,Y⟩:=Y;have U:au [11,8] (ae b) Z ((11,.int .i64 (j0:Int))::(8,.int .u64 (I:Int))::Z)=au [11,8] (ae b) Z Z:=by simp[au,h11,h8]
 rw[<-U];refine bZ (α:=Nat×List Nat×Nat) (fun a=>⟨au [11,8] (ae b) Z ((11,.int .i64 (a.1:Int))::(8,.int .u64 (a.2.2:Int))::Z),mY A B a.2.1,d⟩) (fun a=>H.length-a.1)
  (fun a=>a.1<=H.length/\a.2.1.length=H.length/\lok 1000000000 a.2.1=true/\a.2.2<1000000000/\aq 1000000000 (a.2.1.drop a.1)+a.2.2<1000000000 ^ (H.length-a.1)/\
   a.2.1.take a.1++ju 1000000000 (a.2.1.drop a.1) a.2.2=H.take j0++ju 1000000000 (H.drop j0) I) (.exit 4) _ d _ (by simp) ?_ K (j0,H,I) ⟨hj0,rfl,ho,hc0,J,rfl⟩ (by simp;omega)
 rintro ⟨j,o,c⟩ ⟨hj,hol,hok,hc,hf,H1⟩;simp only at hj hol hok hc hf H1;clear U;subst Y;by_cases V:c=0
 .right
  subst V;rw[NG,List.take_append_drop] at H1;rw[<-H1];simp
 .left
  have X:j<o.length:=by
   rcases Nat.lt_or_ge j H.length with h | h
   .omega
   .have:H.length-j=0:=by omega
    rw[this,Nat.pow_zero] at hf;omega
  obtain⟨z,G,S⟩:=dp X;have D:=eK hok G;have M:o.drop j=z::o.drop (j+1):=by rw[LU X,S]
  rw[M,ju,if_neg V] at H1;rw[M,aq] at hf;obtain⟨s,C⟩:=xE (α:=Nat) (c+z);rw[<-C] at H1;have w4:IntKind.u64.wrap ((c:Int)+(z:Int))=(s:Int):=by rw[dc (by omega) (by omega)];omega
  have w5:(s:Int).tmod 1000000000=(s:Int)%1000000000:=Bc s 1000000000;have w6:IntKind.u64.wrap ((s:Int) / 1000000000)=(s:Int) / 1000000000:=dc (by omega) (by omega);have w7:IntKind.i64.wrap ((j:Int)+1)=(j:Int)+1:=af;have y:(j:Int)<(H.length:Int):=by omega
  have u:j<H.length:=by omega
  have Q:j+1<=o.length:=X;have N:0<c:=by omega
  refine⟨(j+1,o.take j++s%1000000000::o.drop (j+1),s / 1000000000),?_⟩;refine bF (r:=_/\_) (show(j+1<=H.length/\(o.take j++s%1000000000::o.drop (j+1)).length=H.length/\lok 1000000000 (o.take j++s%1000000000::o.drop (j+1))=true/\s / 1000000000<1000000000/\
    aq 1000000000 ((o.take j++s%1000000000::o.drop (j+1)).drop (j+1))+s / 1000000000<1000000000 ^ (H.length-(j+1))/\
    (o.take j++s%1000000000::o.drop (j+1)).take (j+1)++ju 1000000000 ((o.take j++s%1000000000::o.drop (j+1)).drop (j+1)) (s / 1000000000)=H.take j0++ju 1000000000 (H.drop j0) I)/\H.length-(j+1)<H.length-j by
   rw[Pa X,OJ X];refine⟨⟨by omega,by rw[Ft X,hol],?_,by omega,?_,?_⟩,by omega⟩
   .rw[oG,di,jx hok,jw hok]
    simp;omega
   .have e:H.length-j=(H.length-(j+1))+1:=by omega
    rw[e,Nat.pow_succ] at hf;generalize 1000000000 ^ (H.length-(j+1))=p at*;omega
   .rw[<-H1];simp) ?_
  clear H1 hf J;simp[mY,h5,S,y,X,Q,N,w4,w5,w6,w7];simp[iA,rV,dJ,cD]
def fe(c:Code):List Nat:=if (ae c).contains 21 then [21] else if (ae c).contains 28 then [28,8] else [11,8]
theorem Y8{B i x:Nat}{o b:List Nat}(H:i+b.length<=o.length):o.take i++RB B x (o.drop i) b 0=
  (o.take i++(ni B x (o.drop i) b 0).1).take (i+b.length)++ju B ((o.take i++(ni B x (o.drop i) b 0).1).drop (i+b.length)) (ni B x (o.drop i) b 0).2:=by
 have Z:(o.take i).length=i:=by simp;omega
 have X:b.length<=(o.drop i).length:=by rw[QQh];omega
 generalize o.take i=P at*;generalize o.drop i=Q at*;have V:(P++(ni B x Q b 0).1).take (i+b.length)=P++(ni B x Q b 0).1.take b.length:=by rw[List.take_append,An (by omega),Z,Nat.add_sub_cancel_left]
 have U:(P++(ni B x Q b 0).1).drop (i+b.length)=(ni B x Q b 0).1.drop b.length:=by rw[List.drop_append,M6 (by omega),Z,Nat.add_sub_cancel_left,List.nil_append]
 rw[V,U,U4 B x _ _ _ X,S2]
theorem Al(A B:List Nat)(n:Nat)(hA:lok 1000000000 A=true)(I:lok 1000000000 B=true)(hl:n<=1000000000)(hn:n=A.length+B.length+1)(hK:n<K){b b2 b3:Code}(H:ah f211=[b,b2,b3]/\fe b=[21]/\fe b2=[28,8]/\fe b3=[11,8]):
  ∃F:Env->Bool->Env,∀Z d,(aa Z 5=.slice 2 0 n none/\aa Z 1=.slice 1 0 B.length none/\aa Z 19=.slice 0 0 A.length none/\aa Z 20=.int .i64 A.length/\aa Z 21=.int .i64 0)->
   aO (aL prog) fe O K 79 2 true (.loop b) ⟨Z,mY A B (List.replicate n 0),d⟩=some (.exit 0,⟨F Z d,mY A B (sE 1000000000 A B (List.replicate n 0)),d⟩)/\
    (aa (F Z d) 5=aa Z 5):=by
 refine bG H.2.1 (fun Z=>aa Z 5=.slice 2 0 n none/\aa Z 1=.slice 1 0 B.length none/\aa Z 19=.slice 0 0 A.length none/\aa Z 20=.int .i64 A.length/\aa Z 21=.int .i64 0)
  (fun Z AC =>aa AC 5=aa Z 5) ?_
 rintro Z d ⟨h5,W,h19,h20,h21⟩;have U:=H.1;simp[ah,aw,f211] at U;obtain⟨U,J,hb3⟩:=U;have G:au [21] (ae b) Z ((21,.int .i64 ((0:Nat):Int))::Z)=au [21] (ae b) Z Z:=by simp[au,h21]
 rw[<-G];have hz:aq 1000000000 (List.replicate n 0)=0:=by
  clear hn hl hK h5;induction n with
  |zero=>rfl
  |succ n ih=>rw[List.replicate_succ,aq,ih]
 have D:lok 1000000000 (List.replicate n 0)=true:=by unfold lok;rw[List.all_eq_true];intro d hd;rw[List.mem_replicate] at hd;simp[hd.2]
 have adA:aq 1000000000 A*aq 1000000000 B<1000000000 ^ n:=by have W:=gN hA;have h2:=gN I;have h3:aq 1000000000 A*aq 1000000000 B<1000000000 ^ A.length*1000000000 ^ B.length:=Nat.mul_lt_mul_of_lt_of_lt W h2;rw[<-Nat.pow_add] at h3;have h4:1000000000 ^ (A.length+B.length)<=1000000000 ^ n:=L9 (by omega) (by omega);omega
 refine bZ (α:=Nat×List Nat) (fun a=>⟨au [21] (ae b) Z ((21,.int .i64 (a.1:Int))::Z),mY A B a.2,d⟩) (fun a=>A.length-a.1)
  (fun a=>a.1<=A.length/\a.2.length=n/\lok 1000000000 a.2=true/\aq 1000000000 (a.2.drop a.1)+aq 1000000000 (A.drop a.1)*aq 1000000000 B<1000000000 ^ (n-a.1)/\
   a.2.take a.1++sE 1000000000 (A.drop a.1) B (a.2.drop a.1)=sE 1000000000 A B (List.replicate n 0)) (.exit 0) _ d _ (by simp) ?_ K (0,List.replicate n 0) ⟨Nat.zero_le _,by simp,D,by simp only[List.drop_zero,QQg];rw[hz];omega,by simp⟩ (by simp;omega)
 rintro ⟨i,o⟩ ⟨hi,hol,hok,hf,H1⟩;simp only at hi hol hok hf H1;clear G adA hz D;by_cases hiA:i=A.length
 .right
  subst hiA;rw[List.drop_length,sE,List.take_append_drop] at H1;rw[<-H1];subst U;simp[h20]
 .left
  have A':i<A.length:=by omega
  obtain⟨x,hx,C⟩:=dp A';have y:=eK hA hx;have eA:A.drop i=x::A.drop (i+1):=by rw[LU A',C]
  rw[eA,sE] at H1;rw[eA,aq,Nat.add_mul,QQk] at hf;have Q:(o.drop i).length=n-i:=by rw[QQh,hol]
  have u:=jw hok i;obtain⟨r1,r2⟩:=Da (B:=1000000000) (by omega) x (o.drop i) B 0 u (by rw[Q];omega) (by omega);have m:=vm 1000000000 x (o.drop i) B 0;obtain⟨k1,k2,k3⟩:=L6 (B:=1000000000) (by omega) y (o.drop i) B 0 u I (by omega) (by omega);have k4:=DD 1000000000 x (o.drop i) B 0;have Y':=Y8 (B:=1000000000) (x:=x) (o:=o) (b:=B) (i:=i) (by omega);obtain⟨M,S⟩:=xE (o.take i++(ni 1000000000 x (o.drop i) B 0).1);obtain⟨c2,N⟩:=xE ((ni 1000000000 x (o.drop i) B 0).2);have aey:M.length=n:=by rw[S,Nm,k4,Q,M0,hol];omega
  have aez:lok 1000000000 M=true:=by rw[S,oG,jx hok,k1];rfl
  have j:aq 1000000000 (M.drop (i+B.length))+c2<1000000000 ^ (M.length-(i+B.length)):=by
   have e1:M.drop (i+B.length)=(ni 1000000000 x (o.drop i) B 0).1.drop B.length:=by rw[S,List.drop_append,M0,hol,M6 (by simp[hol];omega),List.nil_append];congr 1;omega
   have e2:aq 1000000000 (ni 1000000000 x (o.drop i) B 0).1=aq 1000000000 ((ni 1000000000 x (o.drop i) B 0).1.take B.length)+1000000000 ^ B.length*aq 1000000000 ((ni 1000000000 x (o.drop i) B 0).1.drop B.length):=by
    conv=>lhs;rw[<-List.take_append_drop B.length (ni 1000000000 x (o.drop i) B 0).1]
    rw[gS,M0,k4,Q,Nat.min_eq_left (by omega)]
   have e3:n-i=B.length+(M.length-(i+B.length)):=by omega
   rw[e3,Nat.pow_add] at hf;rw[e1,N];have:1000000000 ^ B.length*(aq 1000000000 ((ni 1000000000 x (o.drop i) B 0).1.drop B.length)+(ni 1000000000 x (o.drop i) B 0).2)<1000000000 ^ B.length*1000000000 ^ (M.length-(i+B.length)):=by rw[Nat.mul_add];omega
   exact Nat.lt_of_mul_lt_mul_left this
  obtain⟨F2,Y⟩:=Am (O:=O) (K:=K) (lv:=fe) A B o i x y I hok (by omega) (by omega) (by omega) H.1 H.2.2.1;obtain⟨F3,X⟩:=Ao (O:=O) (K:=K) (lv:=fe) A B M (i+B.length) c2 aez (by rw[N];exact k2) (by omega) (by omega) j (by omega) H.1 H.2.2.2;rw[<-S,<-N] at Y Y';rw[<-Y'] at X;obtain⟨R,V⟩:=xE (o.take i++RB 1000000000 x (o.drop i) B 0);rw[<-V] at X;have aeA:R.length=n:=by rw[V,Nm,m,Q,M0,hol];omega
  have aeB:lok 1000000000 R=true:=by rw[V,oG,jx hok,r2];rfl
  cases hrl:RB 1000000000 x (o.drop i) B 0 with
  |nil=>rw[hrl] at m;simp at m;omega
  |cons dd rr=>
   rw[hrl] at H1 r1 m;simp only at H1;have e4:R.take (i+1)=o.take i++[dd]:=by
    rw[V,hrl,List.take_append,M0,hol,An (by simp;omega)];have:i+1-min i n=1:=by omega
    rw[this];rfl
   have e5:R.drop (i+1)=rr:=by
    rw[V,hrl,List.drop_append,M0,hol,M6 (by simp;omega)];have:i+1-min i n=1:=by omega
    rw[this];rfl
   obtain⟨p,hp⟩:=xE (α:=Nat) (i+B.length);have w1:IntKind.i64.wrap ((i:Int)+(B.length:Int))=(p:Int):=by rw[af];omega
   have w2:IntKind.i64.wrap ((i:Int)+1)=(i:Int)+1:=af;have hI:(i:Int)<(A.length:Int):=by omega
   rw[<-hp] at X;refine⟨(i+1,R),?_⟩;refine bF (r:=_/\_) (show(i+1<=A.length/\R.length=n/\lok 1000000000 R=true/\aq 1000000000 (R.drop (i+1))+aq 1000000000 (A.drop (i+1))*aq 1000000000 B<1000000000 ^ (n-(i+1))/\
     R.take (i+1)++sE 1000000000 (A.drop (i+1)) B (R.drop (i+1))=sE 1000000000 A B (List.replicate n 0))/\A.length-(i+1)<A.length-i by
    rw[e4,e5];refine⟨⟨by omega,aeA,aeB,?_,by rw[<-H1];simp⟩,by omega⟩;rw[aq] at r1;have e:n-i=(n-(i+1))+1:=by omega
    rw[e,Nat.pow_succ] at hf;generalize 1000000000 ^ (n-(i+1))=q at*;omega) ?_
   rw[hol] at Y;rw[aey] at X;clear H1 hf j r1 r2 m k1 k2 k3 k4 Y' e4 e5 hrl V S N;subst U;subst J;subst hb3;simp only[mY] at Y X;simp[mY,h5,W,h19,h20,C,hI,A',w1,w2,Y,X]
theorem Ey(A B:List Nat)(H:lok 1000000000 A=true)(I:lok 1000000000 B=true)(J:A.length<=100000000)(W:B.length<=100000000):
  ∃Z,bd Z=dig 1000000000 (aq 1000000000 A*aq 1000000000 B)/\ad (aL prog) fe (bq prog) bP (A.length+B.length+2) 211 [.slice 0 0 A.length none,.slice 1 0 B.length none] [.cells false 1 (iN .u64 A),.cells false 1 (iN .u64 B)]=
   some ⟨.slice 2 0 (bd Z).length none,none,[.cells true 1 (iN .u64 Z)]⟩:=by
 have G:bq prog 211=some f211:=by kernel_rfl
 obtain⟨b,U,S,N⟩:∃b U S,ah f211=[b,U,S]/\fe b=[21]/\fe U=[28,8]/\fe S=[11,8]:=⟨_,_,_,rfl,by decide,by decide,by decide⟩
 obtain⟨n,R⟩:=xE (A.length+B.length+1);obtain⟨F,Q⟩:=Al (O:=bP) (K:=A.length+B.length+2) A B n H I (by omega) R (by omega) N;obtain⟨t1,t2,t3⟩:=Rp (B:=1000000000) (by omega) H I;rw[<-R] at t1 t2 t3;obtain⟨Z,V⟩:=xE (sE 1000000000 A B (List.replicate n 0));rw[<-V] at t1 t2 t3 Q;refine⟨Z,by rw[<-dW (by omega) t2,t1],?_⟩;obtain⟨X,_⟩:=N;simp[ah,aw,f211] at X;obtain⟨X,_,_⟩:=X;subst X;obtain⟨M,hs1⟩:=xE (α:=Nat) (A.length+B.length);have w1:IntKind.i64.wrap ((A.length:Int)+(B.length:Int))=(M:Int):=by rw[af];omega
 have w2:IntKind.i64.wrap ((M:Int)+1)=(n:Int):=by rw[af];omega
 have o:0<=(n:Int):=by omega
 have D:8*(n:Int)<=281474976710656:=by omega
 have C:(n:Int)<=281474976710656:=by omega
 have y:bl .u64 [.cells false 1 (iN .u64 A),.cells false 1 (iN .u64 B),.cells true 1 (iN .u64 Z)] (.slice 2 0 n none)=some Z:=
  aW rfl (by simp[t3]) (An (by simp[t3]))
 have u:Z.length<=1000000000:=by omega
 clear R hs1 V;simp only[mY] at Q;simp[ad,G,f211,w1,w2,D,C,Q,bP,y,u,rW]
theorem Im{M:Mem}{x y:AV}{A B:List Nat}(H:lok 1000000000 A=true)(I:lok 1000000000 B=true)(J:A.length<=100000000)(W:B.length<=100000000)(hx:afO .u64 M x A)(Y:afO .u64 M y B):
  bz prog 211 [x,y] M (.slice M.length 0 (dig 1000000000 (aq 1000000000 A*aq 1000000000 B)).length none) (M++[.cells true 1 (iN .u64 (dig 1000000000 (aq 1000000000 A*aq 1000000000 B)))]):=by
 obtain⟨Z,X,h⟩:=Ey A B H I J W;have:=(aB ak (aI _) ja (aQ _) h).1;simp only[afw.mem,Option.getD_none,List.cons_append,List.nil_append] at this;have V:=bz.ahn (m:=[.cells false 1 (iN .u64 A),.cells false 1 (iN .u64 B)]) this (CS (dK _));obtain⟨b,c,rfl,rfl,h3⟩:=bz.agq (new:=[.cells true 1 (iN .u64 (bd Z))]) rfl V hx Y;rw[X] at h3;simpa [AV.ren,back] using h3
theorem Ge{A:List Nat}(hA:A.length=n)(hn:0<n)(hl:n<=1000000000)(J Y H m0 eb:Nat)(ob oA:Bool)(M:Nat->Mem)(I:∀j,j<=n->(M j).length=m0)(hs:∀j,j<=n->(M j)[J]? =some (.cells ob eb [.slice Y 0 n none]))(hr:∀j,j<=n->(M j)[Y]? =some (.cells oA 1 (iN .u64 A)))(W:∀s∈M 0,s.refs m0=[])(hy:∀j,j<n->gp prog H [.int .i64 (j:Int),.int .u64 ((A.getD j 0:Nat):Int)] (M (j+1)) (.bool true) (M j)):
  bz prog 279 [.yield H,.ptr J 0] (M n) (.tuple []) (M 0):=by
 have u:bq prog 279=some f279:=by kernel_rfl
 obtain⟨O,o,R⟩:=jF (P:=prog) (fun j:Nat=>j<n) (fun _=>.yld H) (fun j=>[.int .i64 (j:Int),.int .u64 ((A.getD j 0:Nat):Int)]) (fun j=>M (j+1)) (fun j=>⟨.bool true,some (M j),[]⟩)
  (fun j m=>⟨by simpa [afw.mem] using hy j m,fun q hq=>by cases hq;rw[I j (by omega),I (j+1) (by omega)]⟩)
  (fun i j _ _ _ h _=>by
   simp only[List.cons.injEq,AV.int.injEq] at h;have:i=j:=by omega
   rw[this])
 obtain⟨b,S⟩:∃b,ah f279=[b]:=⟨_,rfl⟩
 have loop:∃F:Env->Env,∀Z,(aa Z 0=.yield H/\aa Z 1=.ptr J 0/\aa Z 3=.int .i64 ((n:Int)-1))->
   aO (aL prog) (fun _=>[3]) O (n+1) 19 m0 true (.loop b) ⟨Z,M n,false⟩=some (.exit 0,⟨F Z,M 0,true⟩)/\True:=by
  refine vn rfl false true (fun Z=>aa Z 0=.yield H/\aa Z 1=.ptr J 0/\aa Z 3=.int .i64 ((n:Int)-1)) (fun _ _=>True) ?_;rintro Z ⟨h0,h1,h3⟩;simp[ah,aw,f279] at S;have X:au [3] (ae b) Z ((3,.int .i64 ((n:Int)-1))::Z)=au [3] (ae b) Z Z:=by simp[au,h3]
  rw[<-X];have C:(⟨au [3] (ae b) Z ((3,.int .i64 ((n:Int)-1))::Z),M n,false⟩:XS)=⟨au [3] (ae b) Z ((3,.int .i64 ((n:Int)-1))::Z),M n,decide (n<n)⟩:=by simp
  rw[C];refine bZ (α:=Nat) (fun k=>⟨au [3] (ae b) Z ((3,.int .i64 ((k:Int)-1))::Z),M k,decide (k<n)⟩) id (fun k=>k<=n) (.exit 0) (M 0) true (fun _=>True) (by simp) ?_ (n+1) n (Es _) (by simp);intro k hk;clear X C;subst S;cases k with
  |zero=>
   right;simp[hn]
  |succ k=>
   left;have V:k<n:=by omega
   have e1:(((k+1:Nat):Int)-1)=(k:Int):=by omega
   have w1:IntKind.i64.wrap ((k:Int)-1)=(k:Int)-1:=af;have l1:=I k (by omega);have U:=I n (by omega);have Q:=hs (k+1) (by omega);have r1:=hr (k+1) (by omega);have B:=R k V;obtain⟨x,hx,N⟩:=dp (l:=A) (i:=k) (by omega);have hg:A.getD k 0=x:=by simp[List.getD,hx]
   rw[hg] at B;rw[e1];refine⟨k,?_⟩;have aeC :(k:Int)<(n:Int):=by omega
   simp[h0,h1,w1,l1,U,Q,r1,N,hA,V,B];omega
 obtain⟨F,hF⟩:=loop;simp[ah,aw,f279] at S;subst S;have w1:IntKind.i64.wrap ((n:Int)-1)=(n:Int)-1:=af;have U:=I n (by omega);have Q:=hs n (by omega);have D:∃y,aO (aL prog) (fun _=>[3]) O (n+1) f279.ntmps (M n).length true (f279.body.getD .skip) ⟨dQ 0 [.yield H,.ptr J 0],M n,false⟩=some (.normal,⟨y,M 0,true⟩):=by simp[f279,Q,w1,U,hF]
 obtain⟨y,D⟩:=D;have:=KZ (T:=aL prog) (G:=bq prog) (v:=.tuple []) u rfl (by simp[f279]) (.inl rfl) D rfl (by rw[I 0 (by omega),U]) rfl (by rw[U];exact W);have h2:=(aB ak (aI _) o (aQ _) this).1;simpa [afw.mem] using h2
def ma(A:List Nat)(d:Nat)(J:Array Tmp)(I H:Code)(W:Env)(j:Nat):Mem:=
 [.cells false 1 (iN .u64 A),.cells false 1 [.int .u64 (d:Int)],.cells true 0 [.slice 1 0 1 none],.cells true 0 [.slice 4 0 A.length none],
  .cells true 1 (iN .u64 (List.replicate j 0++(fZ 1000000000 d (A.drop j)).1)),.cells true 0 [.int .u64 (((fZ 1000000000 d (A.drop j)).2:Nat):Int)],.cells true 0 [.slice 0 0 A.length none],
  .loop ⟨.ready,none,W,146,J,I,H⟩]
variable{asg body:Code}{ps:Array Tmp}
section
variable (A:List Nat)(d:Nat)(hd0:0<d)(hd:d<1000000000)(hA:lok 1000000000 A=true)(hl:A.length<=1000000000)
include A d hd0 hd hA hl
theorem Ee(I:eL f223=[(ps,asg,body)])(H:Env)(h3:aa H 3=.ptr 2 0)(h4:aa H 4=.ptr 3 0)(h6:aa H 6=.ptr 5 0)(J:H.flatMap (fun e=>e.2.refs 8)=[])(j:Nat)(W:j<A.length):
  gp prog 7 [.int .i64 (j:Int),.int .u64 ((A.getD j 0:Nat):Int)] (ma A d ps asg body H (j+1)) (.bool true) (ma A d ps asg body H j):=by
 obtain⟨x,Y,M⟩:=dp W;have hxb:=eK hA Y;have hg:A.getD j 0=x:=by simp[List.getD,Y]
 have eA:A.drop j=x::A.drop (j+1):=by rw[LU W,M]
 rw[hg];have G:dm asg=true/\dm body=true/\ps= #[27,28]:=by simp[eL,fX,f223] at I;obtain⟨rfl,rfl,rfl⟩:=I;exact⟨by decide,by decide,rfl⟩
 obtain⟨V,U,rfl⟩:=G;have F:∀ks,sD (rho 8 ks) H=H:=fun ks=>N9 J
 have Z:(fZ 1000000000 d (A.drop j))=(((fZ 1000000000 d (A.drop (j+1))).2*1000000000+x) / d::(fZ 1000000000 d (A.drop (j+1))).1,((fZ 1000000000 d (A.drop (j+1))).2*1000000000+x)%d):=by rw[eA];rfl
 obtain⟨i1,i2,i3,i4⟩:=CL hd0 hd (A.drop (j+1)) (jw hA _);obtain⟨r,D⟩:=xE ((fZ 1000000000 d (A.drop (j+1))).2);obtain⟨q,C⟩:=xE ((fZ 1000000000 d (A.drop (j+1))).1);rw[<-D,<-C] at Z;rw[<-D] at i1;rw[<-C] at i4;have S:ma A d #[27,28] asg body H (j+1)=[.cells false 1 (iN .u64 A),.cells false 1 [.int .u64 (d:Int)],.cells true 0 [.slice 1 0 1 none],.cells true 0 [.slice 4 0 A.length none],
  .cells true 1 (iN .u64 (List.replicate (j+1) 0++q)),.cells true 0 [.int .u64 (r:Int)],.cells true 0 [.slice 0 0 A.length none],.loop ⟨.ready,none,H,146,#[27,28],asg,body⟩]:=by rw[D,C];rfl
 obtain⟨s,hs⟩:=xE (α:=Nat) (r*1000000000+x);rw[<-hs] at Z;have R:ma A d #[27,28] asg body H j=[.cells false 1 (iN .u64 A),.cells false 1 [.int .u64 (d:Int)],.cells true 0 [.slice 1 0 1 none],.cells true 0 [.slice 4 0 A.length none],
  .cells true 1 (iN .u64 (List.replicate j 0++s / d::q)),.cells true 0 [.int .u64 ((s%d:Nat):Int)],.cells true 0 [.slice 0 0 A.length none],.loop ⟨.ready,none,H,146,#[27,28],asg,body⟩]:=by unfold ma;rw[Z]
 rw[S,R];have hql:q.length=A.length-(j+1):=by rw[i4,QQh]
 have hsd:s / d<=s:=Nat.div_le_self _ _;have hsm:s%d<d:=Nat.mod_lt _ hd0;obtain⟨Q,X⟩:=xE (s / d);obtain⟨sr,N⟩:=xE (s%d);have w1:IntKind.u64.wrap ((r:Int)*1000000000)=(r:Int)*1000000000:=dc (by omega) (by omega);have w2:IntKind.u64.wrap ((r:Int)*1000000000+(x:Int))=(s:Int):=by rw[dc (by omega) (by omega)];omega
 have w3:IntKind.u64.wrap ((s:Int).tdiv (d:Int))=(Q:Int):=by rw[xt,<-X];exact dc (by omega) (by omega)
 have B :IntKind.u64.wrap ((s:Int) / (d:Int))=(Q:Int):=by rw[<-Int.natCast_ediv,<-X];exact dc (by omega) (by omega)
 have w4:(s:Int).tmod (d:Int)=(sr:Int):=by rw[xu,<-N]
 have y:¬d=0:=by omega
 have u:(j:Int)<(A.length:Int):=by omega
 have o:(iN .u64 (List.replicate (j+1) 0++q)).take j++.int .u64 (Q:Int)::(iN .u64 (List.replicate (j+1) 0++q)).drop (j+1)=iN .u64 (List.replicate j 0++Q::q):=by rw[Ul _ _ _ _ (by simp;omega)];congr 1;rw[QXY (by simp),List.take_replicate,List.drop_append,M6 (by simp)];simp
 have m:(List.replicate (j+1) 0++q).take j=List.replicate j 0:=by rw[QXY (by simp),List.take_replicate];congr 1;omega
 have hjq:j+1<=(List.replicate (j+1) 0++q).length:=by simp
 rw[<-X,<-N];have hc:yv (aL prog) (fun _=>[]) bC 1 7 [.int .i64 (j:Int),.int .u64 (x:Int)] [.cells false 1 (iN .u64 A),.cells false 1 [.int .u64 (d:Int)],.cells true 0 [.slice 1 0 1 none],.cells true 0 [.slice 4 0 A.length none],
  .cells true 1 (iN .u64 (List.replicate (j+1) 0++q)),.cells true 0 [.int .u64 (r:Int)],.cells true 0 [.slice 0 0 A.length none],.loop ⟨.ready,none,H,146,#[27,28],asg,body⟩]=some ⟨.bool true,some [.cells false 1 (iN .u64 A),.cells false 1 [.int .u64 (d:Int)],.cells true 0 [.slice 1 0 1 none],.cells true 0 [.slice 4 0 A.length none],
  .cells true 1 (iN .u64 (List.replicate j 0++Q::q)),.cells true 0 [.int .u64 (sr:Int)],.cells true 0 [.slice 0 0 A.length none],.loop ⟨.ready,none,H,146,#[27,28],asg,body⟩],[]⟩:=by
  clear S R o;simp[yv,V,U];simp[eL,fX,f223] at I;obtain⟨rfl,rfl⟩:=I;clear V U;simp[h3,h4,h6,w1,w2,B,w4,y,u,J,F,sc,nC,iA,rV,Nat.testBit];rw[m,dJ,cD]
 have:=(pT ak (aI _) (ar _) hc).1;simpa [afw.mem] using this
theorem Ed(H:0<A.length)(I:eL f223=[(ps,asg,body)]):
  ∃O:afu,afs prog O/\∀Z,(aa Z 3=.ptr 2 0/\aa Z 4=.ptr 3 0/\aa Z 6=.ptr 5 0/\Z.flatMap (fun e=>e.2.refs 8)=[])->
   O (.fn 279) [.yield 7,.ptr 6 0] (ma A d ps asg body Z A.length)=some ⟨.tuple [],some (ma A d ps asg body Z 0),[]⟩:=by
 refine jF (ι:=Env) (fun Z=>aa Z 3=.ptr 2 0/\aa Z 4=.ptr 3 0/\aa Z 6=.ptr 5 0/\Z.flatMap (fun e=>e.2.refs 8)=[]) (fun _=>.fn 279) (fun _=>[.yield 7,.ptr 6 0]) (fun Z=>ma A d ps asg body Z A.length) (fun Z=>⟨.tuple [],some (ma A d ps asg body Z 0),[]⟩) ?_ ?_
 .rintro Z ⟨h3,h4,h6,he⟩
  refine⟨?_,fun q V=>by cases V;rfl⟩;have:=Ge (n:=A.length) (A:=A) rfl H hl 6 0 7 8 0 true false (ma A d ps asg body Z) (fun _ _=>rfl) (fun _ _=>rfl) (fun _ _=>rfl) (fun s X=>by simp only[ma,lM] at X;rcases X with rfl | rfl | rfl | rfl | rfl | rfl | rfl | rfl;all_goals first | exact xm he | simp) (fun j U=>Ee A d hd0 hd hA hl I Z h3 h4 h6 he j U)
  simpa [afw.mem] using this
 .intro i j _ _ _ _ h
  simp only[ma,List.cons.injEq,afz.loop.injEq,agz.mk.injEq,and_true,true_and] at h;rw[h]
end
theorem vi(T:TypeId->Option TyI)(lv:Code->List Nat)(O:afu)(K N m0:Nat)(g:Operand)(ps:Array Tmp)(asg body:Code)(s:XS):aO T lv O K N m0 true (.rangeFunc g ps asg body) s=match get s.env g with
   |.func f caps=>match O (.fn f) (.yield s.mem.length::caps) (s.mem++[.loop ⟨.ready,none,s.env,N,ps,asg,body⟩]) with
    |some r=>match (r.mem (s.mem++[.loop ⟨.ready,none,s.env,N,ps,asg,body⟩]))[s.mem.length]? with
     |some (.loop r2)=>if r2.st== .busy then none else match zn r2.agx with
      |some e=>some (e,⟨s.env,(r.mem (s.mem++[.loop ⟨.ready,none,s.env,N,ps,asg,body⟩])).set s.mem.length (.loop { r2 with st:=.exhausted }),s.afS||r.pre.isSome⟩)
      |none=>none
     |_=>none
    |none=>none
   |_=>none:=rfl
theorem Bf(b n:Nat)(m:Mem)(H:b<m.length):ad (aL prog) (fun _=>[]) (bq prog) bC 1 255 [.slice b 0 n none] m=some ⟨.func 279 [.ptr m.length 0],none,[.cells true 0 [.slice b 0 n none]]⟩:=by
 have Z:bq prog 255=some f255:=by kernel_rfl
 simp[ad,Z,f255,H,List.idxOf?]
end Go.Proofs
