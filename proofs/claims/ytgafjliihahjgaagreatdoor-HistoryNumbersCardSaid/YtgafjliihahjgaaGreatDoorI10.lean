/- See I36. -/
import Derived.Test.YtgafjliihahjgaaGreatDoorI09
set_option linter.all false
namespace Go.Eng
def nT(B x:Nat):List Nat->List Nat->Nat->List Nat×Nat
 |o,[],c=>(o,c)
 | [],_::_,c=>([],c)
 |o::l,y::b,c=>((c+(o+x*y))%B::(nT B x l b ((c+(o+x*y)) / B)).1,(nT B x l b ((c+(o+x*y)) / B)).2)
theorem Bw(B x:Nat)(o:List Nat)(c:Nat):nT B x o [] c=(o,c):=by cases o<;>rfl
theorem DV(B x:Nat):∀(o b:List Nat) (c:Nat),(nT B x o b c).1.length=o.length
 |o,[],c=>by rw[Bw]
 | [],_::_,_=>rfl
 |o::l,y::b,c=>by simp[nT,DV B x l b]
theorem VH(B x:Nat):∀(o b:List Nat) (c:Nat),b.length<=o.length->SY B x o b c=(nT B x o b c).1.take b.length++jX B ((nT B x o b c).1.drop b.length) (nT B x o b c).2
 |o,[],c,_=>by rw[Bw];cases o<;>rfl
 | [],_::_,_,h=>by simp at h
 |o::l,y::b,c,h=>by rw[SY,nT,VH B x l b _ (by simpa using h)];simp
theorem Nd{B:Nat}(H:2<=B){x:Nat}(hx:x<B):∀(o b:List Nat) (c:Nat),lok B o=true->lok B b=true->c<B->b.length<=o.length->
  lok B (nT B x o b c).1=true/\(nT B x o b c).2<B/\aG B (nT B x o b c).1+B ^ b.length*(nT B x o b c).2=aG B o+x*aG B b+c
 |o,[],c,ho,_,hc,_=>by rw[Bw];simp only[aG,List.length_nil,Nat.pow_zero,Nat.mul_zero,Nat.one_mul];exact⟨ho,hc,by omega⟩
 | [],_::_,_,_,_,_,h=>by simp at h
 |o::l,y::b,c,ho,hb,hc,h=>by
  rw[dL,Es,L0] at ho hb;have Z:x*y<=(B-1)*(B-1):=Nat.mul_le_mul (by omega) (by omega);have X:(c+(o+x*y)) / B<B:=by
   rw[Nat.div_lt_iff_lt_mul (by omega)];obtain⟨q,rfl⟩:∃q,B=q+1:=⟨B-1,by omega⟩
   have K:(q+1)*(q+1)=q*q+q+q+1:=by rw[Nat.add_mul,Nat.mul_add];omega
   simp only[Nat.add_sub_cancel] at Z;omega
  obtain⟨W,V,S⟩:=Nd H hx l b _ ho.2 hb.2 X (by simpa using h);have O:=Nat.mod_add_div (c+(o+x*y)) B;have e:x*(y+B*aG B b)=x*y+B*(x*aG B b):=by rw[Nat.mul_add,<-QQh,<-QQh,V1 x B]
  have M:B ^ (b.length+1)*(nT B x l b ((c+(o+x*y)) / B)).2=B*(B ^ b.length*(nT B x l b ((c+(o+x*y)) / B)).2):=by rw[Nat.pow_succ,V1 (B ^ b.length) B,QQh]
  simp only[nT];refine⟨?_,V,?_⟩
  .rw[dL,W];simp[Nat.mod_lt (c+(o+x*y)) (show 0<B by omega)]
  .rw[aG,aG,aG,e,List.length_cons,M]
   have:=congrArg (B*·) S;simp only[Nat.mul_add] at this;omega
theorem OV(B:Nat)(l:List Nat):jX B l 0=l:=by cases l<;>simp[jX]
theorem ud(B:Nat){l:List Nat}{n:Nat}(y:n<=l.length):aG B l=aG B (l.take n)+B ^ n*aG B (l.drop n):=by
 conv=>lhs;rw[<-List.take_append_drop n l]
 rw[jI,P3,Nat.min_eq_left y]
variable{B b m r:Nat}
theorem WZ{D top:Nat}(y:2<=B)(hm:(dig B b).length=m)(I:1<=m)(H:(dig B b)[m-1]? =some top)(hr:r<B*b)(Q:b<=r)(R:((dig B r).length=m/\(dig B r)[m-1]? =some D)\/((dig B r).length=m+1/\∃h l,(dig B r)[m]? =some h/\(dig B r)[m-1]? =some l/\D=h*B+l)):
  0<top/\r / b<=D / top/\r / b<=B-1:=by
 have u:=cY y b;have j:=dI y b;have Z:=cY y r;have X:=dI y r;have A:m-1<(dig B b).length:=by omega
 have z:(dig B b)[m-1]=top:=(N4.1 H).2;have Y:b=aG B ((dig B b).take (m-1))+B ^ (m-1)*top:=by have:=ud B (l:=dig B b) (n:=m-1) (by omega);rw[u,N2 A,z,Mp (by omega)] at this;simpa [aG] using this
 have W:0<top:=by
  rcases QQY top with h | h
  .have S:=ed y b
   have V:bB (dig B b)=bB ((dig B b).take (m-1)):=by
    conv=>lhs;rw[<-List.take_append_drop (m-1) (dig B b),N2 A,z,Mp (by omega),h]
    exact j9 _
   have h3:=ef ((dig B b).take (m-1));rw[<-V,S,P3] at h3;omega
  .exact h
 have O:0<b:=by
  rcases QQY b with h | h
  .subst h;simp at hr
  .exact h
 have hq:r / b*b<=r:=Nat.div_mul_le_self r b;have M:top*B ^ (m-1)<=b:=by rw[V1];omega
 have K:r<(D+1)*B ^ (m-1):=by
  rcases R with⟨S,V⟩ | ⟨S,h,l,V,h3,rfl⟩
  .have J:m-1<(dig B r).length:=by omega
   have e:=ud B (l:=dig B r) (n:=m-1) (by omega);rw[Z,N2 J,(N4.1 V).2,Mp (by omega)] at e;have G:=jJ (kU X (m-1));rw[P3,Nat.min_eq_left (by omega)] at G;simp[aG] at e;rw[Nat.add_mul,Nat.one_mul,V1 D];omega
  .have J:m-1<(dig B r).length:=by omega
   have F:m-1+1<(dig B r).length:=by omega
   have C :m-1+1=m:=by omega
   have e:=ud B (l:=dig B r) (n:=m-1) (by omega);rw[Z,N2 J,(N4.1 h3).2,N2 F,Mp (by omega)] at e;have e5:(dig B r)[m-1+1]=h:=by have:=(N4.1 V).2;simp only[C];exact this
   rw[e5] at e;have G:=jJ (kU X (m-1));rw[P3,Nat.min_eq_left (by omega)] at G;simp only[aG,Nat.mul_zero,Nat.add_zero] at e;rw[Nat.mul_add] at e;have e6:(h*B+l+1)*B ^ (m-1)=B ^ (m-1)*l+B ^ (m-1)*(B*h)+B ^ (m-1):=by rw[Nat.add_mul,Nat.add_mul,Nat.one_mul,V1 (h*B),V1 l,V1 h B];omega
   omega
 refine⟨W,WY K M hq W,?_⟩;have:r / b<B:=by rw[Nat.div_lt_iff_lt_mul O];exact hr
 omega
theorem y7(y:2<=B)(H:(dig B b).length=m)(hr:r<B*b)(I:b<=r):(dig B r).length=m\/(dig B r).length=m+1:=by
 have X:m<=(dig B r).length:=by
  rcases Nat.lt_or_ge (dig B r).length m with h | h
  .have:=fy y (m:=r) (n:=b) (by omega);omega
  .exact h
 have Z:r<B ^ (m+1):=by have:=y8 y b;rw[H] at this;rw[Nat.pow_succ,V1];exact QQl hr (Nat.mul_le_mul_left _ (by omega))
 have:=gO y Z;omega
theorem P0{a:Nat}(y:2<=B)(H:a<B):bB (a::dig B r)=dig B (a+B*r):=by rw[<-gP y (show lok B (a::dig B r)=true by rw[dL,dI y];simp[H]),aG,cY y]
end Go.Eng
namespace Go.Proofs
open Go.Eng
open Tryz
def nO(A B o:List Nat):Mem:=[.cells false 1 (iN .u64 A),.cells false 1 (iN .u64 B),.cells true 1 (iN .u64 o)]
theorem XO(k:IntKind)(l:List Nat)(i n:Nat)(h:i<l.length):(iN k l).take i++.int k (n:Int)::(iN k l).drop (i+1)=iN k (l.take i++n::l.drop (i+1)):=by simp[jF,sM,eO,de]
variable{i n:Nat}{l:List Nat}
theorem QG(h:i<l.length):(l.take i++n::l.drop (i+1)).take (i+1)=l.take i++[n]:=by
 have:(l.take i).length=i:=by simp;omega
 rw[List.take_append,this];have e:i+1-i=1:=by omega
 rw[e,GE (by omega)];rfl
theorem P9(h:i<l.length):(l.take i++n::l.drop (i+1)).drop (i+1)=l.drop (i+1):=by
 have:(l.take i).length=i:=by simp;omega
 rw[List.drop_append,this];have e:i+1-i=1:=by omega
 rw[e,Mp (by omega)];rfl
theorem F0(h:i<l.length):(l.take i++n::l.drop (i+1)).length=l.length:=by simp;omega
variable{K:Nat}{O:af3}{lv:Code->List Nat}
theorem AR(A B H:List Nat)(i x:Nat)(hx:x<1000000000)(R:lok 1000000000 B=true)(ho:lok 1000000000 H=true)(hl:H.length<=1000000000)(hn:i+B.length<H.length)(hK:B.length<K){b1 b b3:Code}(Q:ag f173=[b1,b,b3])(I:lv b=[28,8]):
  ∃F:Env->Bool->Env,∀Z d,(ad Z 5=.slice 2 0 H.length none/\ad Z 6=.int .i64 i/\ad Z 7=.int .u64 x/\ad Z 26=.slice 1 0 B.length none/\ad Z 27=.int .i64 B.length/\ad Z 28=.int .i64 0/\ad Z 8=.int .u64 0)->
   aT (aU prog) lv O K 79 2 true (.loop b) ⟨Z,nO A B H,d⟩=some (.exit 2,⟨F Z d,nO A B (H.take i++(nT 1000000000 x (H.drop i) B 0).1),d⟩)/\
    (ad (F Z d) 8=.int .u64 (((nT 1000000000 x (H.drop i) B 0).2:Nat):Int)/\ad (F Z d) 5=ad Z 5/\ad (F Z d) 6=ad Z 6/\ad (F Z d) 1=ad Z 1/\ad (F Z d) 21=ad Z 21):=by
 refine bG I (fun Z=>ad Z 5=.slice 2 0 H.length none/\ad Z 6=.int .i64 i/\ad Z 7=.int .u64 x/\ad Z 26=.slice 1 0 B.length none/\ad Z 27=.int .i64 B.length/\ad Z 28=.int .i64 0/\ad Z 8=.int .u64 0)
  (fun Z V =>ad V 8=.int .u64 (((nT 1000000000 x (H.drop i) B 0).2:Nat):Int)/\ad V 5=ad Z 5/\ad V 6=ad Z 6/\ad V 1=ad Z 1/\ad V 21=ad Z 21) ?_
 clear I;rintro Z d ⟨h5,h6,h7,h26,h27,h28,h8⟩;simp[ag,aH,f173] at Q;obtain⟨_,Q,_⟩:=Q;have S:au [28,8] (ab b) Z ((28,.int .i64 ((0:Nat):Int))::(8,.int .u64 ((0:Nat):Int))::Z)=au [28,8] (ab b) Z Z:=by simp[au,h28,h8]
 rw[<-S];refine bW (α:=Nat×List Nat×Nat) (fun a=>⟨au [28,8] (ab b) Z ((28,.int .i64 (a.1:Int))::(8,.int .u64 (a.2.2:Int))::Z),nO A B a.2.1,d⟩) (fun a=>B.length-a.1)
  (fun a=>a.1<=B.length/\a.2.1.length=H.length/\lok 1000000000 a.2.1=true/\a.2.2<1000000000/\
   a.2.1.take (i+a.1)++(nT 1000000000 x (a.2.1.drop (i+a.1)) (B.drop a.1) a.2.2).1=H.take i++(nT 1000000000 x (H.drop i) B 0).1/\
   (nT 1000000000 x (a.2.1.drop (i+a.1)) (B.drop a.1) a.2.2).2=(nT 1000000000 x (H.drop i) B 0).2) (.exit 2) _ d _ (by simp) ?_ K (0,H,0) ⟨Nat.zero_le _,rfl,ho,by show(0:Nat)<1000000000;omega,rfl,rfl⟩ (by simpa using hK)
 rintro ⟨k,o,c⟩ ⟨hk,hol,hok,hc,H',aaS⟩;simp only at hk hol hok hc H' aaS;clear S;subst Q;by_cases D:k=B.length
 .right
  subst D;rw[List.drop_length,Bw] at H' aaS;simp only[List.take_append_drop] at H';rw[<-H',<-aaS];simp[h27]
 .left
  have C:k<B.length:=by omega
  obtain⟨y,hy,M⟩:=fe C;have hyb:=im R hy;have eB:B.drop k=y::B.drop (k+1):=by rw[N2 C,M]
  obtain⟨p,hp⟩:=xE (α:=Nat) (i+k);have X:p<o.length:=by omega
  obtain⟨z,hz,J⟩:=fe X;have hzb:=im hok hz;have eo:o.drop p=z::o.drop (p+1):=by rw[N2 X,J]
  rw[<-hp,eB,eo,nT] at H' aaS;have u:x*y<=999999999*999999999:=Nat.mul_le_mul (by omega) (by omega);obtain⟨s,Y⟩:=xE (α:=Nat) (c+(z+x*y));rw[<-Y] at H' aaS;obtain⟨W,G⟩:=xE (α:=Nat) (x*y);rw[<-G] at u Y;have m:(x:Int)*(y:Int)=(W:Int):=by rw[G];exact(Int.natCast_mul x y).symm
  have w1:IntKind.i64.wrap ((i:Int)+(k:Int))=(p:Int):=by rw[ai];omega
  have w2:IntKind.u64.wrap (W:Int)=(W:Int):=cS (by omega) (by omega);have w3:IntKind.u64.wrap ((z:Int)+(W:Int))=(z:Int)+(W:Int):=cS (by omega) (by omega);have w4:IntKind.u64.wrap ((c:Int)+((z:Int)+(W:Int)))=(s:Int):=by rw[cS (by omega) (by omega)];omega
  have w5:(s:Int).tmod 1000000000=(s:Int)%1000000000:=By s 1000000000;have w6:IntKind.u64.wrap ((s:Int) / 1000000000)=(s:Int) / 1000000000:=cS (by omega) (by omega);have w7:IntKind.i64.wrap ((k:Int)+1)=(k:Int)+1:=ai;have hI:(p:Int)<(H.length:Int):=by omega
  have j:p+1<=o.length:=X;have hu:=XO .u64 o p (s%1000000000) X;refine⟨(k+1,o.take p++s%1000000000::o.drop (p+1),s / 1000000000),?_⟩;refine bM (r:=_/\_) (show(k+1<=B.length/\(o.take p++s%1000000000::o.drop (p+1)).length=H.length/\lok 1000000000 (o.take p++s%1000000000::o.drop (p+1))=true/\s / 1000000000<1000000000/\
    (o.take p++s%1000000000::o.drop (p+1)).take (i+(k+1))++(nT 1000000000 x ((o.take p++s%1000000000::o.drop (p+1)).drop (i+(k+1))) (B.drop (k+1)) (s / 1000000000)).1=H.take i++(nT 1000000000 x (H.drop i) B 0).1/\
    (nT 1000000000 x ((o.take p++s%1000000000::o.drop (p+1)).drop (i+(k+1))) (B.drop (k+1)) (s / 1000000000)).2=(nT 1000000000 x (H.drop i) B 0).2)/\B.length-(k+1)<B.length-k by
   have hq:i+(k+1)=p+1:=by omega
   rw[hq,QG X,P9 X];refine⟨⟨by omega,by rw[F0 X,hol],?_,by omega,?_,aaS⟩,by omega⟩
   .rw[tY,dL,kU hok,ma hok]
    simp;omega
   .rw[<-H'];simp) ?_
  clear H' aaS;simp[nO,h5,h6,h7,h26,h27,M,J,hI,C,X,j,m,w1,w2,w3,w4,w5,w6,w7];simp[jF,sM,eO,de]
theorem AS(A B y:List Nat)(j0 H:Nat)(ho:lok 1000000000 y=true)(Y:H<1000000000)(hl:y.length<=1000000000)(hj0:j0<=y.length)(I:aG 1000000000 (y.drop j0)+H<1000000000 ^ (y.length-j0))(hK:y.length<K){b1 b2 b:Code}(R:ag f173=[b1,b2,b])(Q:lv b=[11,8]):
  ∃F:Env->Bool->Env,∀Z d,(ad Z 5=.slice 2 0 y.length none/\ad Z 11=.int .i64 j0/\ad Z 8=.int .u64 H)->
   aT (aU prog) lv O K 79 2 true (.loop b) ⟨Z,nO A B y,d⟩=some (.exit 4,⟨F Z d,nO A B (y.take j0++jX 1000000000 (y.drop j0) H),d⟩)/\
    (ad (F Z d) 5=ad Z 5/\ad (F Z d) 1=ad Z 1/\ad (F Z d) 21=ad Z 21):=by
 refine bG Q (fun Z=>ad Z 5=.slice 2 0 y.length none/\ad Z 11=.int .i64 j0/\ad Z 8=.int .u64 H)
  (fun Z M =>ad M 5=ad Z 5/\ad M 1=ad Z 1/\ad M 21=ad Z 21) ?_
 clear Q;rintro Z d ⟨h5,h11,h8⟩;simp[ag,aH,f173] at R;obtain⟨_,_,R⟩:=R;have V:au [11,8] (ab b) Z ((11,.int .i64 (j0:Int))::(8,.int .u64 (H:Int))::Z)=au [11,8] (ab b) Z Z:=by simp[au,h11,h8]
 rw[<-V];refine bW (α:=Nat×List Nat×Nat) (fun a=>⟨au [11,8] (ab b) Z ((11,.int .i64 (a.1:Int))::(8,.int .u64 (a.2.2:Int))::Z),nO A B a.2.1,d⟩) (fun a=>y.length-a.1)
  (fun a=>a.1<=y.length/\a.2.1.length=y.length/\lok 1000000000 a.2.1=true/\a.2.2<1000000000/\aG 1000000000 (a.2.1.drop a.1)+a.2.2<1000000000 ^ (y.length-a.1)/\
   a.2.1.take a.1++jX 1000000000 (a.2.1.drop a.1) a.2.2=y.take j0++jX 1000000000 (y.drop j0) H) (.exit 4) _ d _ (by simp) ?_ K (j0,y,H) ⟨hj0,rfl,ho,Y,I,rfl⟩ (by simp;omega)
 rintro ⟨j,o,c⟩ ⟨hj,hol,hok,hc,hf,H'⟩;simp only at hj hol hok hc hf H';clear V;subst R;by_cases W:c=0
 .right
  subst W;rw[OV,List.take_append_drop] at H';rw[<-H'];simp
 .left
  have X:j<o.length:=by
   rcases Nat.lt_or_ge j y.length with h | h
   .omega
   .have:y.length-j=0:=by omega
    rw[this,Nat.pow_zero] at hf;omega
  obtain⟨z,C,S⟩:=fe X;have u:=im hok C;have D:o.drop j=z::o.drop (j+1):=by rw[N2 X,S]
  rw[D,jX,if_neg W] at H';rw[D,aG] at hf;obtain⟨s,m⟩:=xE (α:=Nat) (c+z);rw[<-m] at H';have w4:IntKind.u64.wrap ((c:Int)+(z:Int))=(s:Int):=by rw[cS (by omega) (by omega)];omega
  have w5:(s:Int).tmod 1000000000=(s:Int)%1000000000:=By s 1000000000;have w6:IntKind.u64.wrap ((s:Int) / 1000000000)=(s:Int) / 1000000000:=cS (by omega) (by omega);have w7:IntKind.i64.wrap ((j:Int)+1)=(j:Int)+1:=ai;have hI:(j:Int)<(y.length:Int):=by omega
  have hIn:j<y.length:=by omega
  have J:j+1<=o.length:=X;have G:0<c:=by omega
  refine⟨(j+1,o.take j++s%1000000000::o.drop (j+1),s / 1000000000),?_⟩;refine bM (r:=_/\_) (show(j+1<=y.length/\(o.take j++s%1000000000::o.drop (j+1)).length=y.length/\lok 1000000000 (o.take j++s%1000000000::o.drop (j+1))=true/\s / 1000000000<1000000000/\
    aG 1000000000 ((o.take j++s%1000000000::o.drop (j+1)).drop (j+1))+s / 1000000000<1000000000 ^ (y.length-(j+1))/\
    (o.take j++s%1000000000::o.drop (j+1)).take (j+1)++jX 1000000000 ((o.take j++s%1000000000::o.drop (j+1)).drop (j+1)) (s / 1000000000)=y.take j0++jX 1000000000 (y.drop j0) H)/\y.length-(j+1)<y.length-j by
   rw[QG X,P9 X];refine⟨⟨by omega,by rw[F0 X,hol],?_,by omega,?_,?_⟩,by omega⟩
   .rw[tY,dL,kU hok,ma hok]
    simp;omega
   .have e:y.length-j=(y.length-(j+1))+1:=by omega
    rw[e,Nat.pow_succ] at hf;generalize 1000000000 ^ (y.length-(j+1))=p at*;omega
   .rw[<-H'];simp) ?_
  clear H' hf I;simp[nO,h5,S,hI,X,J,G,w4,w5,w6,w7];simp[jF,sM,eO,de]
def fF(c:Code):List Nat:=if (ab c).contains 21 then [21] else if (ab c).contains 28 then [28,8] else [11,8]
theorem ZA{B i x:Nat}{o b:List Nat}(y:i+b.length<=o.length):o.take i++SY B x (o.drop i) b 0=
  (o.take i++(nT B x (o.drop i) b 0).1).take (i+b.length)++jX B ((o.take i++(nT B x (o.drop i) b 0).1).drop (i+b.length)) (nT B x (o.drop i) b 0).2:=by
 have Z:(o.take i).length=i:=by simp;omega
 have X:b.length<=(o.drop i).length:=by rw[QXZ];omega
 generalize o.take i=P at*;generalize o.drop i=Q at*;have W:(P++(nT B x Q b 0).1).take (i+b.length)=P++(nT B x Q b 0).1.take b.length:=by rw[List.take_append,GE (by omega),Z,Nat.add_sub_cancel_left]
 have V:(P++(nT B x Q b 0).1).drop (i+b.length)=(nT B x Q b 0).1.drop b.length:=by rw[List.drop_append,Mp (by omega),Z,Nat.add_sub_cancel_left,List.nil_append]
 rw[W,V,VH B x _ _ _ X,SP]
theorem AQ(A B:List Nat)(n:Nat)(hA:lok 1000000000 A=true)(H:lok 1000000000 B=true)(hl:n<=1000000000)(hn:n=A.length+B.length+1)(hK:n<K){b b2 b3:Code}(y:ag f173=[b,b2,b3]/\fF b=[21]/\fF b2=[28,8]/\fF b3=[11,8]):
  ∃F:Env->Bool->Env,∀Z d,(ad Z 5=.slice 2 0 n none/\ad Z 1=.slice 1 0 B.length none/\ad Z 19=.slice 0 0 A.length none/\ad Z 20=.int .i64 A.length/\ad Z 21=.int .i64 0)->
   aT (aU prog) fF O K 79 2 true (.loop b) ⟨Z,nO A B (List.replicate n 0),d⟩=some (.exit 0,⟨F Z d,nO A B (tE 1000000000 A B (List.replicate n 0)),d⟩)/\
    (ad (F Z d) 5=ad Z 5):=by
 refine bG y.2.1 (fun Z=>ad Z 5=.slice 2 0 n none/\ad Z 1=.slice 1 0 B.length none/\ad Z 19=.slice 0 0 A.length none/\ad Z 20=.int .i64 A.length/\ad Z 21=.int .i64 0)
  (fun Z AC =>ad AC 5=ad Z 5) ?_
 rintro Z d ⟨h5,h1,h19,h20,h21⟩;have V:=y.1;simp[ag,aH,f173] at V;obtain⟨V,hb2,hb3⟩:=V;have u:au [21] (ab b) Z ((21,.int .i64 ((0:Nat):Int))::Z)=au [21] (ab b) Z Z:=by simp[au,h21]
 rw[<-u];have hz:aG 1000000000 (List.replicate n 0)=0:=by
  clear hn hl hK h5;induction n with
  |zero=>rfl
  |succ n ih=>rw[List.replicate_succ,aG,ih]
 have m:lok 1000000000 (List.replicate n 0)=true:=by unfold lok;rw[List.all_eq_true];intro d hd;rw[List.mem_replicate] at hd;simp[hd.2]
 have adN:aG 1000000000 A*aG 1000000000 B<1000000000 ^ n:=by have h1:=jJ hA;have h2:=jJ H;have h3:aG 1000000000 A*aG 1000000000 B<1000000000 ^ A.length*1000000000 ^ B.length:=Nat.mul_lt_mul_of_lt_of_lt h1 h2;rw[<-Nat.pow_add] at h3;have h4:1000000000 ^ (A.length+B.length)<=1000000000 ^ n:=P1 (by omega) (by omega);omega
 refine bW (α:=Nat×List Nat) (fun a=>⟨au [21] (ab b) Z ((21,.int .i64 (a.1:Int))::Z),nO A B a.2,d⟩) (fun a=>A.length-a.1)
  (fun a=>a.1<=A.length/\a.2.length=n/\lok 1000000000 a.2=true/\aG 1000000000 (a.2.drop a.1)+aG 1000000000 (A.drop a.1)*aG 1000000000 B<1000000000 ^ (n-a.1)/\
   a.2.take a.1++tE 1000000000 (A.drop a.1) B (a.2.drop a.1)=tE 1000000000 A B (List.replicate n 0)) (.exit 0) _ d _ (by simp) ?_ K (0,List.replicate n 0) ⟨Nat.zero_le _,by simp,m,by simp only[List.drop_zero,QXX];rw[hz];omega,by simp⟩ (by simp;omega)
 rintro ⟨i,o⟩ ⟨hi,hol,hok,hf,H'⟩;simp only at hi hol hok hf H';clear u adN hz m;by_cases hiA:i=A.length
 .right
  subst hiA;rw[List.drop_length,tE,List.take_append_drop] at H';rw[<-H'];subst V;simp[h20]
 .left
  have B':i<A.length:=by omega
  obtain⟨x,hx,j⟩:=fe B';have Y:=im hA hx;have eA:A.drop i=x::A.drop (i+1):=by rw[N2 B',j]
  rw[eA,tE] at H';rw[eA,aG,Nat.add_mul,QQh] at hf;have J:(o.drop i).length=n-i:=by rw[QXZ,hol]
  have R:=ma hok i;obtain⟨r1,r2⟩:=Dx (B:=1000000000) (by omega) x (o.drop i) B 0 R (by rw[J];omega) (by omega);have Q:=we 1000000000 x (o.drop i) B 0;obtain⟨k1,k2,k3⟩:=Nd (B:=1000000000) (by omega) Y (o.drop i) B 0 R H (by omega) (by omega);have k4:=DV 1000000000 x (o.drop i) B 0;have z:=ZA (B:=1000000000) (x:=x) (o:=o) (b:=B) (i:=i) (by omega);obtain⟨C,S⟩:=xE (o.take i++(nT 1000000000 x (o.drop i) B 0).1);obtain⟨c2,G⟩:=xE ((nT 1000000000 x (o.drop i) B 0).2);have aeL:C.length=n:=by rw[S,Nm,k4,J,P3,hol];omega
  have aeM:lok 1000000000 C=true:=by rw[S,tY,kU hok,k1];rfl
  have I:aG 1000000000 (C.drop (i+B.length))+c2<1000000000 ^ (C.length-(i+B.length)):=by
   have e1:C.drop (i+B.length)=(nT 1000000000 x (o.drop i) B 0).1.drop B.length:=by rw[S,List.drop_append,P3,hol,Mp (by simp[hol];omega),List.nil_append];congr 1;omega
   have e2:aG 1000000000 (nT 1000000000 x (o.drop i) B 0).1=aG 1000000000 ((nT 1000000000 x (o.drop i) B 0).1.take B.length)+1000000000 ^ B.length*aG 1000000000 ((nT 1000000000 x (o.drop i) B 0).1.drop B.length):=by
    conv=>lhs;rw[<-List.take_append_drop B.length (nT 1000000000 x (o.drop i) B 0).1]
    rw[jI,P3,k4,J,Nat.min_eq_left (by omega)]
   have e3:n-i=B.length+(C.length-(i+B.length)):=by omega
   rw[e3,Nat.pow_add] at hf;rw[e1,G];have:1000000000 ^ B.length*(aG 1000000000 ((nT 1000000000 x (o.drop i) B 0).1.drop B.length)+(nT 1000000000 x (o.drop i) B 0).2)<1000000000 ^ B.length*1000000000 ^ (C.length-(i+B.length)):=by rw[Nat.mul_add];omega
   exact Nat.lt_of_mul_lt_mul_left this
  obtain⟨F2,D⟩:=AR (O:=O) (K:=K) (lv:=fF) A B o i x Y H hok (by omega) (by omega) (by omega) y.1 y.2.2.1;obtain⟨F3,X⟩:=AS (O:=O) (K:=K) (lv:=fF) A B C (i+B.length) c2 aeM (by rw[G];exact k2) (by omega) (by omega) I (by omega) y.1 y.2.2.2;rw[<-S,<-G] at D z;rw[<-z] at X;obtain⟨M,W⟩:=xE (o.take i++SY 1000000000 x (o.drop i) B 0);rw[<-W] at X;have aeN:M.length=n:=by rw[W,Nm,Q,J,P3,hol];omega
  have aeO:lok 1000000000 M=true:=by rw[W,tY,kU hok,r2];rfl
  cases hrl:SY 1000000000 x (o.drop i) B 0 with
  |nil=>rw[hrl] at Q;simp at Q;omega
  |cons dd rr=>
   rw[hrl] at H' r1 Q;simp only at H';have e4:M.take (i+1)=o.take i++[dd]:=by
    rw[W,hrl,List.take_append,P3,hol,GE (by simp;omega)];have:i+1-min i n=1:=by omega
    rw[this];rfl
   have e5:M.drop (i+1)=rr:=by
    rw[W,hrl,List.drop_append,P3,hol,Mp (by simp;omega)];have:i+1-min i n=1:=by omega
    rw[this];rfl
   obtain⟨p,hp⟩:=xE (α:=Nat) (i+B.length);have w1:IntKind.i64.wrap ((i:Int)+(B.length:Int))=(p:Int):=by rw[ai];omega
   have w2:IntKind.i64.wrap ((i:Int)+1)=(i:Int)+1:=ai;have hI:(i:Int)<(A.length:Int):=by omega
   rw[<-hp] at X;refine⟨(i+1,M),?_⟩;refine bM (r:=_/\_) (show(i+1<=A.length/\M.length=n/\lok 1000000000 M=true/\aG 1000000000 (M.drop (i+1))+aG 1000000000 (A.drop (i+1))*aG 1000000000 B<1000000000 ^ (n-(i+1))/\
     M.take (i+1)++tE 1000000000 (A.drop (i+1)) B (M.drop (i+1))=tE 1000000000 A B (List.replicate n 0))/\A.length-(i+1)<A.length-i by
    rw[e4,e5];refine⟨⟨by omega,aeN,aeO,?_,by rw[<-H'];simp⟩,by omega⟩;rw[aG] at r1;have e:n-i=(n-(i+1))+1:=by omega
    rw[e,Nat.pow_succ] at hf;generalize 1000000000 ^ (n-(i+1))=q at*;omega) ?_
   rw[hol] at D;rw[aeL] at X;clear H' hf I r1 r2 Q k1 k2 k3 k4 z e4 e5 hrl W S G;subst V;subst hb2;subst hb3;simp only[nO] at D X;simp[nO,h5,h1,h19,h20,j,hI,B',w1,w2,D,X]
theorem EU(A B:List Nat)(y:lok 1000000000 A=true)(H:lok 1000000000 B=true)(Q:A.length<=100000000)(I:B.length<=100000000):
  ∃Z,bB Z=dig 1000000000 (aG 1000000000 A*aG 1000000000 B)/\aa (aU prog) fF (aS prog) bu (A.length+B.length+2) 173 [.slice 0 0 A.length none,.slice 1 0 B.length none] [.cells false 1 (iN .u64 A),.cells false 1 (iN .u64 B)]=
   some ⟨.slice 2 0 (bB Z).length none,none,[.cells true 1 (iN .u64 Z)]⟩:=by
 have C:aS prog 173=some f173:=by kernel_rfl
 obtain⟨b,V,S,G⟩:∃b V S,ag f173=[b,V,S]/\fF b=[21]/\fF V=[28,8]/\fF S=[11,8]:=⟨_,_,_,rfl,by decide,by decide,by decide⟩
 obtain⟨n,M⟩:=xE (A.length+B.length+1);obtain⟨F,J⟩:=AQ (O:=bu) (K:=A.length+B.length+2) A B n y H (by omega) M (by omega) G;obtain⟨t1,t2,t3⟩:=SH (B:=1000000000) (by omega) y H;rw[<-M] at t1 t2 t3;obtain⟨Z,W⟩:=xE (tE 1000000000 A B (List.replicate n 0));rw[<-W] at t1 t2 t3 J;refine⟨Z,by rw[<-gP (by omega) t2,t1],?_⟩;obtain⟨X,_⟩:=G;simp[ag,aH,f173] at X;obtain⟨X,_,_⟩:=X;subst X;obtain⟨D,hs1⟩:=xE (α:=Nat) (A.length+B.length);have w1:IntKind.i64.wrap ((A.length:Int)+(B.length:Int))=(D:Int):=by rw[ai];omega
 have w2:IntKind.i64.wrap ((D:Int)+1)=(n:Int):=by rw[ai];omega
 have Y:0<=(n:Int):=by omega
 have z:8*(n:Int)<=281474976710656:=by omega
 have u:(n:Int)<=281474976710656:=by omega
 have m:cb .u64 [.cells false 1 (iN .u64 A),.cells false 1 (iN .u64 B),.cells true 1 (iN .u64 Z)] (.slice 2 0 n none)=some Z:=
  bq rfl (by simp[t3]) (GE (by simp[t3]))
 have j:Z.length<=1000000000:=by omega
 clear M hs1 W;simp only[nO] at J;simp[aa,C,f173,w1,w2,z,u,J,bu,m,j,xH]
theorem Jb{M:Mem}{x y:AV}{A B:List Nat}(I:lok 1000000000 A=true)(Q:lok 1000000000 B=true)(R:A.length<=100000000)(H:B.length<=100000000)(hx:agi .u64 M x A)(Y:agi .u64 M y B):
  kO prog 173 [x,y] M (.slice M.length 0 (dig 1000000000 (aG 1000000000 A*aG 1000000000 B)).length none) (M++[.cells true 1 (iN .u64 (dig 1000000000 (aG 1000000000 A*aG 1000000000 B)))]):=by
 obtain⟨Z,X,h⟩:=EU A B I Q R H;have:=(ah ae (al _) jL (ao _) h).1;simp only[afA.mem,Option.getD_none,List.cons_append,List.nil_append] at this;have W:=kO.ahZ (m:=[.cells false 1 (iN .u64 A),.cells false 1 (iN .u64 B)]) this (Dj (fG _));obtain⟨b,c,rfl,rfl,h3⟩:=kO.ag8 (new:=[.cells true 1 (iN .u64 (bB Z))]) rfl W hx Y;rw[X] at h3;simpa [AV.ren,eg] using h3
theorem GM{A:List Nat}(Y:A.length=n)(hn:0<n)(hl:n<=1000000000)(I R y m0 eb:Nat)(ob oA:Bool)(M:Nat->Mem)(H:∀j,j<=n->(M j).length=m0)(hs:∀j,j<=n->(M j)[I]? =some (.cells ob eb [.slice R 0 n none]))(hr:∀j,j<=n->(M j)[R]? =some (.cells oA 1 (iN .u64 A)))(Q:∀s∈M 0,s.refs m0=[])(hy:∀j,j<n->gV prog y [.int .i64 (j:Int),.int .u64 ((A.getD j 0:Nat):Int)] (M (j+1)) (.bool true) (M j)):
  kO prog 265 [.yield y,.ptr I 0] (M n) (.tuple []) (M 0):=by
 have m:aS prog 265=some f265:=by kernel_rfl
 obtain⟨O,hO,J⟩:=gd (P:=prog) (fun j:Nat=>j<n) (fun _=>.yld y) (fun j=>[.int .i64 (j:Int),.int .u64 ((A.getD j 0:Nat):Int)]) (fun j=>M (j+1)) (fun j=>⟨.bool true,some (M j),[]⟩)
  (fun j hj=>⟨by simpa [afA.mem] using hy j hj,fun q hq=>by cases hq;rw[H j (by omega),H (j+1) (by omega)]⟩)
  (fun i j _ _ _ h _=>by
   simp only[List.cons.injEq,AV.int.injEq] at h;have:i=j:=by omega
   rw[this])
 obtain⟨b,S⟩:∃b,ag f265=[b]:=⟨_,rfl⟩
 have loop:∃F:Env->Env,∀Z,(ad Z 0=.yield y/\ad Z 1=.ptr I 0/\ad Z 3=.int .i64 ((n:Int)-1))->
   aT (aU prog) (fun _=>[3]) O (n+1) 19 m0 true (.loop b) ⟨Z,M n,false⟩=some (.exit 0,⟨F Z,M 0,true⟩)/\True:=by
  refine mL rfl false true (fun Z=>ad Z 0=.yield y/\ad Z 1=.ptr I 0/\ad Z 3=.int .i64 ((n:Int)-1)) (fun _ _=>True) ?_;rintro Z ⟨h0,h1,h3⟩;simp[ag,aH,f265] at S;have X:au [3] (ab b) Z ((3,.int .i64 ((n:Int)-1))::Z)=au [3] (ab b) Z Z:=by simp[au,h3]
  rw[<-X];have B:(⟨au [3] (ab b) Z ((3,.int .i64 ((n:Int)-1))::Z),M n,false⟩:XS)=⟨au [3] (ab b) Z ((3,.int .i64 ((n:Int)-1))::Z),M n,decide (n<n)⟩:=by simp
  rw[B];refine bW (α:=Nat) (fun k=>⟨au [3] (ab b) Z ((3,.int .i64 ((k:Int)-1))::Z),M k,decide (k<n)⟩) id (fun k=>k<=n) (.exit 0) (M 0) true (fun _=>True) (by simp) ?_ (n+1) n (L9 _) (by simp);intro k hk;clear X B;subst S;cases k with
  |zero=>
   right;simp[hn]
  |succ k=>
   left;have W:k<n:=by omega
   have e1:(((k+1:Nat):Int)-1)=(k:Int):=by omega
   have w1:IntKind.i64.wrap ((k:Int)-1)=(k:Int)-1:=ai;have l1:=H k (by omega);have V:=H n (by omega);have D:=hs (k+1) (by omega);have r1:=hr (k+1) (by omega);have z:=J k W;obtain⟨x,hx,C⟩:=fe (l:=A) (i:=k) (by omega);have hg:A.getD k 0=x:=by simp[List.getD,hx]
   rw[hg] at z;rw[e1];refine⟨k,?_⟩;have aeP :(k:Int)<(n:Int):=by omega
   simp[h0,h1,w1,l1,V,D,r1,C,Y,W,z];omega
 obtain⟨F,hF⟩:=loop;simp[ag,aH,f265] at S;subst S;have w1:IntKind.i64.wrap ((n:Int)-1)=(n:Int)-1:=ai;have V:=H n (by omega);have D:=hs n (by omega);have hc:∃u,aT (aU prog) (fun _=>[3]) O (n+1) f265.ntmps (M n).length true (f265.body.getD .skip) ⟨dV 0 [.yield y,.ptr I 0],M n,false⟩=some (.normal,⟨u,M 0,true⟩):=by simp[f265,D,w1,V,hF]
 obtain⟨u,hc⟩:=hc;have:=Mf (T:=aU prog) (G:=aS prog) (v:=.tuple []) m rfl (by simp[f265]) (.inl rfl) hc rfl (by rw[H 0 (by omega),V]) rfl (by rw[V];exact Q);have h2:=(ah ae (al _) hO (ao _) this).1;simpa [afA.mem] using h2
def mH(A:List Nat)(d:Nat)(H:Array Tmp)(I y:Code)(Q:Env)(j:Nat):Mem:=
 [.cells false 1 (iN .u64 A),.cells false 1 [.int .u64 (d:Int)],.cells true 0 [.slice 1 0 1 none],.cells true 0 [.slice 4 0 A.length none],
  .cells true 1 (iN .u64 (List.replicate j 0++(jg 1000000000 d (A.drop j)).1)),.cells true 0 [.int .u64 (((jg 1000000000 d (A.drop j)).2:Nat):Int)],.cells true 0 [.slice 0 0 A.length none],
  .loop ⟨.ready,none,Q,146,H,I,y⟩]
variable{J' body:Code}{ps:Array Tmp}
section
variable (A:List Nat)(d:Nat)(hd0:0<d)(hd:d<1000000000)(hA:lok 1000000000 A=true)(hl:A.length<=1000000000)
include A d hd0 hd hA hl
theorem ED(H:dD f148=[(ps,J',body)])(y:Env)(h3:ad y 3=.ptr 2 0)(h4:ad y 4=.ptr 3 0)(h6:ad y 6=.ptr 5 0)(he:y.flatMap (fun e=>e.2.refs 8)=[])(j:Nat)(I:j<A.length):
  gV prog 7 [.int .i64 (j:Int),.int .u64 ((A.getD j 0:Nat):Int)] (mH A d ps J' body y (j+1)) (.bool true) (mH A d ps J' body y j):=by
 obtain⟨x,Q,F⟩:=fe I;have hxb:=im hA Q;have hg:A.getD j 0=x:=by simp[List.getD,Q]
 have eA:A.drop j=x::A.drop (j+1):=by rw[N2 I,F]
 rw[hg];have D:cQ J'=true/\cQ body=true/\ps= #[27,28]:=by simp[dD,fP,f148] at H;obtain⟨rfl,rfl,rfl⟩:=H;exact⟨by decide,by decide,rfl⟩
 obtain⟨W,V,rfl⟩:=D;have C:∀ks,tD (rho 8 ks) y=y:=fun ks=>Pt he
 have Z:(jg 1000000000 d (A.drop j))=(((jg 1000000000 d (A.drop (j+1))).2*1000000000+x) / d::(jg 1000000000 d (A.drop (j+1))).1,((jg 1000000000 d (A.drop (j+1))).2*1000000000+x)%d):=by rw[eA];rfl
 obtain⟨i1,i2,i3,i4⟩:=C8 hd0 hd (A.drop (j+1)) (ma hA _);obtain⟨r,B⟩:=xE ((jg 1000000000 d (A.drop (j+1))).2);obtain⟨q,hq⟩:=xE ((jg 1000000000 d (A.drop (j+1))).1);rw[<-B,<-hq] at Z;rw[<-B] at i1;rw[<-hq] at i4;have S:mH A d #[27,28] J' body y (j+1)=[.cells false 1 (iN .u64 A),.cells false 1 [.int .u64 (d:Int)],.cells true 0 [.slice 1 0 1 none],.cells true 0 [.slice 4 0 A.length none],
  .cells true 1 (iN .u64 (List.replicate (j+1) 0++q)),.cells true 0 [.int .u64 (r:Int)],.cells true 0 [.slice 0 0 A.length none],.loop ⟨.ready,none,y,146,#[27,28],J',body⟩]:=by rw[B,hq];rfl
 obtain⟨s,hs⟩:=xE (α:=Nat) (r*1000000000+x);rw[<-hs] at Z;have M:mH A d #[27,28] J' body y j=[.cells false 1 (iN .u64 A),.cells false 1 [.int .u64 (d:Int)],.cells true 0 [.slice 1 0 1 none],.cells true 0 [.slice 4 0 A.length none],
  .cells true 1 (iN .u64 (List.replicate j 0++s / d::q)),.cells true 0 [.int .u64 ((s%d:Nat):Int)],.cells true 0 [.slice 0 0 A.length none],.loop ⟨.ready,none,y,146,#[27,28],J',body⟩]:=by unfold mH;rw[Z]
 rw[S,M];have hql:q.length=A.length-(j+1):=by rw[i4,QXZ]
 have hsd:s / d<=s:=Nat.div_le_self _ _;have hsm:s%d<d:=Nat.mod_lt _ hd0;obtain⟨J,X⟩:=xE (s / d);obtain⟨sr,G⟩:=xE (s%d);have w1:IntKind.u64.wrap ((r:Int)*1000000000)=(r:Int)*1000000000:=cS (by omega) (by omega);have w2:IntKind.u64.wrap ((r:Int)*1000000000+(x:Int))=(s:Int):=by rw[cS (by omega) (by omega)];omega
 have w3:IntKind.u64.wrap ((s:Int).tdiv (d:Int))=(J:Int):=by rw[yd,<-X];exact cS (by omega) (by omega)
 have z :IntKind.u64.wrap ((s:Int) / (d:Int))=(J:Int):=by rw[<-Int.natCast_ediv,<-X];exact cS (by omega) (by omega)
 have w4:(s:Int).tmod (d:Int)=(sr:Int):=by rw[ye,<-G]
 have u:¬d=0:=by omega
 have m:(j:Int)<(A.length:Int):=by omega
 have Y:(iN .u64 (List.replicate (j+1) 0++q)).take j++.int .u64 (J:Int)::(iN .u64 (List.replicate (j+1) 0++q)).drop (j+1)=iN .u64 (List.replicate j 0++J::q):=by rw[XO _ _ _ _ (by simp;omega)];congr 1;rw[QQa (by simp),List.take_replicate,List.drop_append,Mp (by simp)];simp
 have R:(List.replicate (j+1) 0++q).take j=List.replicate j 0:=by rw[QQa (by simp),List.take_replicate];congr 1;omega
 have hjq:j+1<=(List.replicate (j+1) 0++q).length:=by simp
 rw[<-X,<-G];have hc:yX (aU prog) (fun _=>[]) bD 1 7 [.int .i64 (j:Int),.int .u64 (x:Int)] [.cells false 1 (iN .u64 A),.cells false 1 [.int .u64 (d:Int)],.cells true 0 [.slice 1 0 1 none],.cells true 0 [.slice 4 0 A.length none],
  .cells true 1 (iN .u64 (List.replicate (j+1) 0++q)),.cells true 0 [.int .u64 (r:Int)],.cells true 0 [.slice 0 0 A.length none],.loop ⟨.ready,none,y,146,#[27,28],J',body⟩]=some ⟨.bool true,some [.cells false 1 (iN .u64 A),.cells false 1 [.int .u64 (d:Int)],.cells true 0 [.slice 1 0 1 none],.cells true 0 [.slice 4 0 A.length none],
  .cells true 1 (iN .u64 (List.replicate j 0++J::q)),.cells true 0 [.int .u64 (sr:Int)],.cells true 0 [.slice 0 0 A.length none],.loop ⟨.ready,none,y,146,#[27,28],J',body⟩],[]⟩:=by
  clear S M Y;simp[yX,W,V];simp[dD,fP,f148] at H;obtain⟨rfl,rfl⟩:=H;clear W V;simp[h3,h4,h6,w1,w2,z,w4,u,m,he,C,qJ,lD,jF,sM,Nat.testBit];rw[R,eO,de]
 have:=(p9 ae (al _) (aj _) hc).1;simpa [afA.mem] using this
theorem EC(y:0<A.length)(H:dD f148=[(ps,J',body)]):
  ∃O:af3,adM prog O/\∀Z,(ad Z 3=.ptr 2 0/\ad Z 4=.ptr 3 0/\ad Z 6=.ptr 5 0/\Z.flatMap (fun e=>e.2.refs 8)=[])->
   O (.fn 265) [.yield 7,.ptr 6 0] (mH A d ps J' body Z A.length)=some ⟨.tuple [],some (mH A d ps J' body Z 0),[]⟩:=by
 refine gd (ι:=Env) (fun Z=>ad Z 3=.ptr 2 0/\ad Z 4=.ptr 3 0/\ad Z 6=.ptr 5 0/\Z.flatMap (fun e=>e.2.refs 8)=[]) (fun _=>.fn 265) (fun _=>[.yield 7,.ptr 6 0]) (fun Z=>mH A d ps J' body Z A.length) (fun Z=>⟨.tuple [],some (mH A d ps J' body Z 0),[]⟩) ?_ ?_
 .rintro Z ⟨h3,h4,h6,he⟩
  refine⟨?_,fun q hq=>by cases hq;rfl⟩;have:=GM (n:=A.length) (A:=A) rfl y hl 6 0 7 8 0 true false (mH A d ps J' body Z) (fun _ _=>rfl) (fun _ _=>rfl) (fun _ _=>rfl) (fun s X=>by simp only[mH,lM] at X;rcases X with rfl | rfl | rfl | rfl | rfl | rfl | rfl | rfl;all_goals first | exact xZ he | simp) (fun j W=>ED A d hd0 hd hA hl H Z h3 h4 h6 he j W)
  simpa [afA.mem] using this
 .intro i j _ _ _ _ h
  simp only[mH,List.cons.injEq,af6.loop.injEq,agV.mk.injEq,and_true,true_and] at h;rw[h]
end
theorem vV(T:TypeId->Option TyI)(lv:Code->List Nat)(O:af3)(K N m0:Nat)(g:Operand)(ps:Array Tmp)(J' body:Code)(s:XS):aT T lv O K N m0 true (.rangeFunc g ps J' body) s=match get s.env g with
   |.func f caps=>match O (.fn f) (.yield s.mem.length::caps) (s.mem++[.loop ⟨.ready,none,s.env,N,ps,J',body⟩]) with
    |some r=>match (r.mem (s.mem++[.loop ⟨.ready,none,s.env,N,ps,J',body⟩]))[s.mem.length]? with
     |some (.loop r2)=>if r2.st== .busy then none else match mJ r2.agI with
      |some e=>some (e,⟨s.env,(r.mem (s.mem++[.loop ⟨.ready,none,s.env,N,ps,J',body⟩])).set s.mem.length (.loop { r2 with st:=.exhausted }),s.agp||r.pre.isSome⟩)
      |none=>none
     |_=>none
    |none=>none
   |_=>none:=rfl
theorem BB(b n:Nat)(m:Mem)(y:b<m.length):aa (aU prog) (fun _=>[]) (aS prog) bD 1 224 [.slice b 0 n none] m=some ⟨.func 265 [.ptr m.length 0],none,[.cells true 0 [.slice b 0 n none]]⟩:=by
 have Z:aS prog 224=some f224:=by kernel_rfl
 simp[aa,Z,f224,y,List.idxOf?]
end Go.Proofs
