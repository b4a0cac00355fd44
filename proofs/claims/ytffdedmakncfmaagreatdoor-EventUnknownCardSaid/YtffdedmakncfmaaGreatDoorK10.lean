/- See K51. -/
import Derived.Test.YtffdedmakncfmaaGreatDoorK09
set_option linter.all false
namespace Go.Eng
def j8(B x:Nat):List Nat→List Nat→Nat→List Nat×Nat
 |o,[],c=>(o,c)
 | [],_::_,c=>([],c)
 |o::l,y::b,c=>((c+(o+x*y))%B::(j8 B x l b ((c+(o+x*y)) / B)).1,(j8 B x l b ((c+(o+x*y)) / B)).2)
theorem xH(B x:Nat) (o:List Nat) (c:Nat):j8 B x o [] c=(o,c):=by cases o<;>rfl
theorem zM(B x:Nat):∀(o b:List Nat) (c:Nat),(j8 B x o b c).1.length=o.length
 |o,[],c=>by rw[xH]
 | [],_::_,_=>rfl
 |o::l,y::b,c=>by simp[j8,zM B x l b]
theorem Ot(B x:Nat):∀(o b:List Nat) (c:Nat),b.length≤o.length→Mq B x o b c=(j8 B x o b c).1.take b.length++gn B ((j8 B x o b c).1.drop b.length) (j8 B x o b c).2
 |o,[],c,_=>by rw[xH];cases o<;>rfl
 | [],_::_,_,h=>by simp at h
 |o::l,y::b,c,h=>by
  rw[Mq,j8,Ot B x l b _ (by simpa using h)]
  simp
theorem Hs{B:Nat}(hB:2≤B) {x:Nat}(hx:x<B):∀(o b:List Nat) (c:Nat),lok B o=true→lok B b=true→c<B→b.length≤o.length→
  lok B (j8 B x o b c).1=true∧(j8 B x o b c).2<B∧ay B (j8 B x o b c).1+B ^ b.length*(j8 B x o b c).2=ay B o+x*ay B b+c
 |o,[],c,ho,_,hc,_=>by
  rw[xH]
  simp only[ay,List.length_nil,Nat.pow_zero,Nat.mul_zero,Nat.one_mul]
  exact⟨ho,hc,by omega⟩
 | [],_::_,_,_,_,_,h=>by simp at h
 |o::l,y::b,c,ho,hb,hc,h=>by
  rw[cu,Bool.and_eq_true,decide_eq_true_eq] at ho hb
  have hxy:x*y≤(B-1)*(B-1):=Nat.mul_le_mul (by omega) (by omega)
  have hs:(c+(o+x*y)) / B<B:=by
   rw[Nat.div_lt_iff_lt_mul (by omega)]
   obtain⟨q,rfl⟩:∃q,B=q+1:=⟨B-1,by omega⟩
   have e1:(q+1)*(q+1)=q*q+q+q+1:=by rw[Nat.add_mul,Nat.mul_add];omega
   simp only[Nat.add_sub_cancel] at hxy
   omega
  obtain⟨i1,i2,i3⟩:=Hs hB hx l b _ ho.2 hb.2 hs (by simpa using h)
  have hmd:=Nat.mod_add_div (c+(o+x*y)) B
  have e:x*(y+B*ay B b)=x*y+B*(x*ay B b):=by rw[Nat.mul_add,←Nat.mul_assoc,←Nat.mul_assoc,Nat.mul_comm x B]
  have e2:B ^ (b.length+1)*(j8 B x l b ((c+(o+x*y)) / B)).2=B*(B ^ b.length*(j8 B x l b ((c+(o+x*y)) / B)).2):=by
   rw[Nat.pow_succ,Nat.mul_comm (B ^ b.length) B,Nat.mul_assoc]
  simp only[j8]
  refine⟨?_,i2,?_⟩
  ·rw[cu,i1];simp[Nat.mod_lt (c+(o+x*y)) (show 0<B by omega)]
  ·rw[ay,ay,ay,e,List.length_cons,e2]
   have:=congrArg (B*·) i3
   simp only[Nat.mul_add] at this
   omega
theorem IZ(B:Nat) (l:List Nat):gn B l 0=l:=by cases l<;>simp[gn]
theorem pT(B:Nat) {l:List Nat}{n:Nat}(hn:n≤l.length):ay B l=ay B (l.take n)+B ^ n*ay B (l.drop n):=by
 conv=>lhs;rw[←List.take_append_drop n l]
 rw[fW,List.length_take,Nat.min_eq_left hn]
theorem PO{B r b m D top:Nat}(hB:2≤B) (hm:(dig B b).length=m) (hm1:1≤m) (htop:(dig B b)[m-1]? =some top) (hr:r<B*b) (hbr:b≤r)
  (hD:((dig B r).length=m∧(dig B r)[m-1]? =some D)∨((dig B r).length=m+1∧∃h l,(dig B r)[m]? =some h∧(dig B r)[m-1]? =some l∧D=h*B+l)):
  0<top∧r / b≤D / top∧r / b≤B-1:=by
 have hb:=bU hB b
 have hbo:=ct hB b
 have hrv:=bU hB r
 have hro:=ct hB r
 have hlt:m-1<(dig B b).length:=by omega
 have ht:(dig B b)[m-1]=top:=(List.getElem?_eq_some_iff.1 htop).2
 have hb2:b=ay B ((dig B b).take (m-1))+B ^ (m-1)*top:=by
  have:=pT B (l:=dig B b) (n:=m-1) (by omega)
  rw[hb,List.drop_eq_getElem_cons hlt,ht,List.drop_of_length_le (by omega)] at this
  simpa [ay] using this
 have htp:0<top:=by
  rcases Nat.eq_zero_or_pos top with h | h
  ·have h1:=cE hB b
   have h2:bd (dig B b)=bd ((dig B b).take (m-1)):=by
    conv=>lhs;rw[←List.take_append_drop (m-1) (dig B b),List.drop_eq_getElem_cons hlt,ht,List.drop_of_length_le (by omega),h]
    exact gu _
   have h3:=cF ((dig B b).take (m-1))
   rw[←h2,h1,List.length_take] at h3
   omega
  ·exact h
 have hbp:0<b:=by
  rcases Nat.eq_zero_or_pos b with h | h
  ·subst h;simp at hr
  ·exact h
 have hq:r / b*b≤r:=Nat.div_mul_le_self r b
 have hbtop:top*B ^ (m-1)≤b:=by rw[Nat.mul_comm];omega
 have hrD:r<(D+1)*B ^ (m-1):=by
  rcases hD with⟨h1,h2⟩ | ⟨h1,h,l,h2,h3,rfl⟩
  ·have hl:m-1<(dig B r).length:=by omega
   have e:=pT B (l:=dig B r) (n:=m-1) (by omega)
   rw[hrv,List.drop_eq_getElem_cons hl,(List.getElem?_eq_some_iff.1 h2).2,List.drop_of_length_le (by omega)] at e
   have h4:=fX (il hro (m-1))
   rw[List.length_take,Nat.min_eq_left (by omega)] at h4
   simp[ay] at e
   rw[Nat.add_mul,Nat.one_mul,Nat.mul_comm D]
   omega
  ·have hl:m-1<(dig B r).length:=by omega
   have hl2:m-1+1<(dig B r).length:=by omega
   have hm' :m-1+1=m:=by omega
   have e:=pT B (l:=dig B r) (n:=m-1) (by omega)
   rw[hrv,List.drop_eq_getElem_cons hl,(List.getElem?_eq_some_iff.1 h3).2,List.drop_eq_getElem_cons hl2,List.drop_of_length_le (by omega)] at e
   have e5:(dig B r)[m-1+1]=h:=by
    have:=(List.getElem?_eq_some_iff.1 h2).2
    simp only[hm']
    exact this
   rw[e5] at e
   have h4:=fX (il hro (m-1))
   rw[List.length_take,Nat.min_eq_left (by omega)] at h4
   simp only[ay,Nat.mul_zero,Nat.add_zero] at e
   rw[Nat.mul_add] at e
   have e6:(h*B+l+1)*B ^ (m-1)=B ^ (m-1)*l+B ^ (m-1)*(B*h)+B ^ (m-1):=by
    rw[Nat.add_mul,Nat.add_mul,Nat.one_mul,Nat.mul_comm (h*B),Nat.mul_comm l,Nat.mul_comm h B];omega
   omega
 refine⟨htp,PN hrD hbtop hq htp,?_⟩
 have:r / b<B:=by rw[Nat.div_lt_iff_lt_mul hbp];exact hr
 omega
theorem uK{B r b m:Nat}(hB:2≤B) (hm:(dig B b).length=m) (hr:r<B*b) (hbr:b≤r):(dig B r).length=m∨(dig B r).length=m+1:=by
 have h1:m≤(dig B r).length:=by
  rcases Nat.lt_or_ge (dig B r).length m with h | h
  ·have:=dp hB (m:=r) (n:=b) (by omega);omega
  ·exact h
 have h2:r<B ^ (m+1):=by
  have:=uL hB b
  rw[hm] at this
  rw[Nat.pow_succ,Nat.mul_comm]
  exact Nat.lt_of_lt_of_le hr (Nat.mul_le_mul_left _ (by omega))
 have:=er hB h2
 omega
theorem JR{B a r:Nat}(hB:2≤B) (ha:a<B):bd (a::dig B r)=dig B (a+B*r):=by
 rw[←ez hB (show lok B (a::dig B r)=true by rw[cu,ct hB];simp[ha]),ay,bU hB]
end Go.Eng
namespace Go.Proofs
open Go.Eng
def jW(A B o:List Nat):Mem:=[.cells false 1 (iN .u64 A),.cells false 1 (iN .u64 B),.cells true 1 (iN .u64 o)]
theorem QB(k:IntKind) (l:List Nat) (i n:Nat) (h:i<l.length):(iN k l).take i++.int k (n:Int)::(iN k l).drop (i+1)=iN k (l.take i++n::l.drop (i+1)):=by
 simp[fT,oC,cR,bV]
theorem Km{l:List Nat}{i n:Nat}(h:i<l.length):(l.take i++n::l.drop (i+1)).take (i+1)=l.take i++[n]:=by
 have:(l.take i).length=i:=by simp;omega
 rw[List.take_append,this]
 have e:i+1-i=1:=by omega
 rw[e,List.take_of_length_le (by omega)]
 rfl
theorem JV{l:List Nat}{i n:Nat}(h:i<l.length):(l.take i++n::l.drop (i+1)).drop (i+1)=l.drop (i+1):=by
 have:(l.take i).length=i:=by simp;omega
 rw[List.drop_append,this]
 have e:i+1-i=1:=by omega
 rw[e,List.drop_of_length_le (by omega)]
 rfl
theorem Be{l:List Nat}{i n:Nat}(h:i<l.length):(l.take i++n::l.drop (i+1)).length=l.length:=by simp;omega
theorem wS{O:Oracle}{K:Nat}{lv:Code→List Nat}(A B out:List Nat) (i x:Nat) (hx:x<1000000000) (hB:lok 1000000000 B=true) (ho:lok 1000000000 out=true) (hl:out.length≤1000000000) (hn:i+B.length<out.length) (hK:B.length<K)
  {b1 b b3:Code}(hb:aj Tryz.f141=[b1,b,b3]) (hlv:lv b=[28,8]):
  ∃F:Env→Bool→Env,∀env0 d,(ab env0 5=.slice 2 0 out.length none∧ab env0 6=.int .i64 i∧ab env0 7=.int .u64 x∧ab env0 26=.slice 1 0 B.length none∧ab env0 27=.int .i64 B.length∧ab env0 28=.int .i64 0∧ab env0 8=.int .u64 0)→
   aU (aO Tryz.prog) lv O K 79 2 true (.loop b) ⟨env0,jW A B out,d⟩=some (.exit 2,⟨F env0 d,jW A B (out.take i++(j8 1000000000 x (out.drop i) B 0).1),d⟩)∧
    (ab (F env0 d) 8=.int .u64 (((j8 1000000000 x (out.drop i) B 0).2:Nat):Int)∧ab (F env0 d) 5=ab env0 5∧ab (F env0 d) 6=ab env0 6∧ab (F env0 d) 1=ab env0 1∧ab (F env0 d) 21=ab env0 21):=by
 refine bp hlv (fun env0=>ab env0 5=.slice 2 0 out.length none∧ab env0 6=.int .i64 i∧ab env0 7=.int .u64 x∧ab env0 26=.slice 1 0 B.length none∧ab env0 27=.int .i64 B.length∧ab env0 28=.int .i64 0∧ab env0 8=.int .u64 0)
  (fun env0 env' =>ab env' 8=.int .u64 (((j8 1000000000 x (out.drop i) B 0).2:Nat):Int)∧ab env' 5=ab env0 5∧ab env' 6=ab env0 6∧ab env' 1=ab env0 1∧ab env' 21=ab env0 21) ?_
 clear hlv
 rintro env0 d ⟨h5,h6,h7,h26,h27,h28,h8⟩
 simp[aj,aM,Tryz.f141] at hb
 obtain⟨_,hb,_⟩:=hb
 have hn0:az [28,8] (ad b) env0 ((28,.int .i64 ((0:Nat):Int))::(8,.int .u64 ((0:Nat):Int))::env0)=az [28,8] (ad b) env0 env0:=by simp[az,h28,h8]
 rw[←hn0]
 refine bK (α:=Nat×List Nat×Nat) (fun a=>⟨az [28,8] (ad b) env0 ((28,.int .i64 (a.1:Int))::(8,.int .u64 (a.2.2:Int))::env0),jW A B a.2.1,d⟩) (fun a=>B.length-a.1)
  (fun a=>a.1≤B.length∧a.2.1.length=out.length∧lok 1000000000 a.2.1=true∧a.2.2<1000000000∧
   a.2.1.take (i+a.1)++(j8 1000000000 x (a.2.1.drop (i+a.1)) (B.drop a.1) a.2.2).1=out.take i++(j8 1000000000 x (out.drop i) B 0).1∧
   (j8 1000000000 x (a.2.1.drop (i+a.1)) (B.drop a.1) a.2.2).2=(j8 1000000000 x (out.drop i) B 0).2) (.exit 2) _ d _ (by simp) ?_ K (0,out,0) ⟨Nat.zero_le _,rfl,ho,by show(0:Nat)<1000000000;omega,rfl,rfl⟩ (by simpa using hK)
 rintro ⟨k,o,c⟩ ⟨hk,hol,hok,hc,hinv,hinv2⟩
 simp only at hk hol hok hc hinv hinv2
 clear hn0
 subst hb
 by_cases hkB:k=B.length
 ·right
  subst hkB
  rw[List.drop_length,xH] at hinv hinv2
  simp only[List.take_append_drop] at hinv
  rw[←hinv,←hinv2]
  simp[h27]
 ·left
  have hlt:k<B.length:=by omega
  obtain⟨y,hy,hy'⟩:=cV hlt
  have hyb:=eS hB hy
  have eB:B.drop k=y::B.drop (k+1):=by rw[List.drop_eq_getElem_cons hlt,hy']
  obtain⟨p,hp⟩:∃p:Nat,p=i+k:=⟨_,rfl⟩
  have hlo:p<o.length:=by omega
  obtain⟨z,hz,hz'⟩:=cV hlo
  have hzb:=eS hok hz
  have eo:o.drop p=z::o.drop (p+1):=by rw[List.drop_eq_getElem_cons hlo,hz']
  rw[←hp,eB,eo,j8] at hinv hinv2
  have hxy:x*y≤999999999*999999999:=Nat.mul_le_mul (by omega) (by omega)
  obtain⟨s,hs⟩:∃s:Nat,s=c+(z+x*y):=⟨_,rfl⟩
  rw[←hs] at hinv hinv2
  obtain⟨xy,hxy'⟩:∃xy:Nat,xy=x*y:=⟨_,rfl⟩
  rw[←hxy'] at hxy hs
  have hxyI:(x:Int)*(y:Int)=(xy:Int):=by rw[hxy'];exact(Int.natCast_mul x y).symm
  have w1:IntKind.i64.wrap ((i:Int)+(k:Int))=(p:Int):=by rw[ag (by omega) (by omega)];omega
  have w2:IntKind.u64.wrap (xy:Int)=(xy:Int):=bR (by omega) (by omega)
  have w3:IntKind.u64.wrap ((z:Int)+(xy:Int))=(z:Int)+(xy:Int):=bR (by omega) (by omega)
  have w4:IntKind.u64.wrap ((c:Int)+((z:Int)+(xy:Int)))=(s:Int):=by rw[bR (by omega) (by omega)];omega
  have w5:(s:Int).tmod 1000000000=(s:Int)%1000000000:=xJ s 1000000000
  have w6:IntKind.u64.wrap ((s:Int) / 1000000000)=(s:Int) / 1000000000:=bR (by omega) (by omega)
  have w7:IntKind.i64.wrap ((k:Int)+1)=(k:Int)+1:=ag (by omega) (by omega)
  have hI:(p:Int)<(out.length:Int):=by omega
  have hp1:p+1≤o.length:=hlo
  have hu:=QB .u64 o p (s%1000000000) hlo
  refine⟨(k+1,o.take p++s%1000000000::o.drop (p+1),s / 1000000000),?_⟩
  refine bC (r:=_∧_) (show(k+1≤B.length∧(o.take p++s%1000000000::o.drop (p+1)).length=out.length∧lok 1000000000 (o.take p++s%1000000000::o.drop (p+1))=true∧s / 1000000000<1000000000∧
    (o.take p++s%1000000000::o.drop (p+1)).take (i+(k+1))++(j8 1000000000 x ((o.take p++s%1000000000::o.drop (p+1)).drop (i+(k+1))) (B.drop (k+1)) (s / 1000000000)).1=out.take i++(j8 1000000000 x (out.drop i) B 0).1∧
    (j8 1000000000 x ((o.take p++s%1000000000::o.drop (p+1)).drop (i+(k+1))) (B.drop (k+1)) (s / 1000000000)).2=(j8 1000000000 x (out.drop i) B 0).2)∧B.length-(k+1)<B.length-k by
   have hq:i+(k+1)=p+1:=by omega
   rw[hq,Km hlo,JV hlo]
   refine⟨⟨by omega,by rw[Be hlo,hol],?_,by omega,?_,hinv2⟩,by omega⟩
   ·rw[pP,cu,il hok,iQ hok]
    simp;omega
   ·rw[←hinv];simp) ?_
  clear hinv hinv2
  simp[jW,h5,h6,h7,h26,h27,hy',hz',hI,hlt,hlo,hp1,hxyI,w1,w2,w3,w4,w5,w6,w7]
  simp[fT,oC,cR,bV]
theorem wT{O:Oracle}{K:Nat}{lv:Code→List Nat}(A B out:List Nat) (j0 c0:Nat) (ho:lok 1000000000 out=true) (hc0:c0<1000000000) (hl:out.length≤1000000000) (hj0:j0≤out.length) (hfit:ay 1000000000 (out.drop j0)+c0<1000000000 ^ (out.length-j0)) (hK:out.length<K)
  {b1 b2 b:Code}(hb:aj Tryz.f141=[b1,b2,b]) (hlv:lv b=[11,8]):
  ∃F:Env→Bool→Env,∀env0 d,(ab env0 5=.slice 2 0 out.length none∧ab env0 11=.int .i64 j0∧ab env0 8=.int .u64 c0)→
   aU (aO Tryz.prog) lv O K 79 2 true (.loop b) ⟨env0,jW A B out,d⟩=some (.exit 4,⟨F env0 d,jW A B (out.take j0++gn 1000000000 (out.drop j0) c0),d⟩)∧
    (ab (F env0 d) 5=ab env0 5∧ab (F env0 d) 1=ab env0 1∧ab (F env0 d) 21=ab env0 21):=by
 refine bp hlv (fun env0=>ab env0 5=.slice 2 0 out.length none∧ab env0 11=.int .i64 j0∧ab env0 8=.int .u64 c0)
  (fun env0 env' =>ab env' 5=ab env0 5∧ab env' 1=ab env0 1∧ab env' 21=ab env0 21) ?_
 clear hlv
 rintro env0 d ⟨h5,h11,h8⟩
 simp[aj,aM,Tryz.f141] at hb
 obtain⟨_,_,hb⟩:=hb
 have hn0:az [11,8] (ad b) env0 ((11,.int .i64 (j0:Int))::(8,.int .u64 (c0:Int))::env0)=az [11,8] (ad b) env0 env0:=by simp[az,h11,h8]
 rw[←hn0]
 refine bK (α:=Nat×List Nat×Nat) (fun a=>⟨az [11,8] (ad b) env0 ((11,.int .i64 (a.1:Int))::(8,.int .u64 (a.2.2:Int))::env0),jW A B a.2.1,d⟩) (fun a=>out.length-a.1)
  (fun a=>a.1≤out.length∧a.2.1.length=out.length∧lok 1000000000 a.2.1=true∧a.2.2<1000000000∧ay 1000000000 (a.2.1.drop a.1)+a.2.2<1000000000 ^ (out.length-a.1)∧
   a.2.1.take a.1++gn 1000000000 (a.2.1.drop a.1) a.2.2=out.take j0++gn 1000000000 (out.drop j0) c0) (.exit 4) _ d _ (by simp) ?_ K (j0,out,c0) ⟨hj0,rfl,ho,hc0,hfit,rfl⟩ (by simp;omega)
 rintro ⟨j,o,c⟩ ⟨hj,hol,hok,hc,hf,hinv⟩
 simp only at hj hol hok hc hf hinv
 clear hn0
 subst hb
 by_cases hc00:c=0
 ·right
  subst hc00
  rw[IZ,List.take_append_drop] at hinv
  rw[←hinv]
  simp
 ·left
  have hlo:j<o.length:=by
   rcases Nat.lt_or_ge j out.length with h | h
   ·omega
   ·have:out.length-j=0:=by omega
    rw[this,Nat.pow_zero] at hf
    omega
  obtain⟨z,hz,hz'⟩:=cV hlo
  have hzb:=eS hok hz
  have eo:o.drop j=z::o.drop (j+1):=by rw[List.drop_eq_getElem_cons hlo,hz']
  rw[eo,gn,if_neg hc00] at hinv
  rw[eo,ay] at hf
  obtain⟨s,hs⟩:∃s:Nat,s=c+z:=⟨_,rfl⟩
  rw[←hs] at hinv
  have w4:IntKind.u64.wrap ((c:Int)+(z:Int))=(s:Int):=by rw[bR (by omega) (by omega)];omega
  have w5:(s:Int).tmod 1000000000=(s:Int)%1000000000:=xJ s 1000000000
  have w6:IntKind.u64.wrap ((s:Int) / 1000000000)=(s:Int) / 1000000000:=bR (by omega) (by omega)
  have w7:IntKind.i64.wrap ((j:Int)+1)=(j:Int)+1:=ag (by omega) (by omega)
  have hI:(j:Int)<(out.length:Int):=by omega
  have hIn:j<out.length:=by omega
  have hp1:j+1≤o.length:=hlo
  have hcp:0<c:=by omega
  refine⟨(j+1,o.take j++s%1000000000::o.drop (j+1),s / 1000000000),?_⟩
  refine bC (r:=_∧_) (show(j+1≤out.length∧(o.take j++s%1000000000::o.drop (j+1)).length=out.length∧lok 1000000000 (o.take j++s%1000000000::o.drop (j+1))=true∧s / 1000000000<1000000000∧
    ay 1000000000 ((o.take j++s%1000000000::o.drop (j+1)).drop (j+1))+s / 1000000000<1000000000 ^ (out.length-(j+1))∧
    (o.take j++s%1000000000::o.drop (j+1)).take (j+1)++gn 1000000000 ((o.take j++s%1000000000::o.drop (j+1)).drop (j+1)) (s / 1000000000)=out.take j0++gn 1000000000 (out.drop j0) c0)∧out.length-(j+1)<out.length-j by
   rw[Km hlo,JV hlo]
   refine⟨⟨by omega,by rw[Be hlo,hol],?_,by omega,?_,?_⟩,by omega⟩
   ·rw[pP,cu,il hok,iQ hok]
    simp;omega
   ·have e:out.length-j=(out.length-(j+1))+1:=by omega
    rw[e,Nat.pow_succ] at hf
    generalize 1000000000 ^ (out.length-(j+1))=p at*
    omega
   ·rw[←hinv];simp) ?_
  clear hinv hf hfit
  simp[jW,h5,hz',hI,hlo,hp1,hcp,w4,w5,w6,w7]
  simp[fT,oC,cR,bV]
def dx(c:Code):List Nat:=if (ad c).contains 21 then [21] else if (ad c).contains 28 then [28,8] else [11,8]
theorem RV{B i x:Nat}{o b:List Nat}(hi:i+b.length≤o.length):o.take i++Mq B x (o.drop i) b 0=
  (o.take i++(j8 B x (o.drop i) b 0).1).take (i+b.length)++gn B ((o.take i++(j8 B x (o.drop i) b 0).1).drop (i+b.length)) (j8 B x (o.drop i) b 0).2:=by
 have h1:(o.take i).length=i:=by simp;omega
 have h2:b.length≤(o.drop i).length:=by rw[List.length_drop];omega
 generalize o.take i=P at*
 generalize o.drop i=Q at*
 have e1:(P++(j8 B x Q b 0).1).take (i+b.length)=P++(j8 B x Q b 0).1.take b.length:=by
  rw[List.take_append,List.take_of_length_le (by omega),h1,Nat.add_sub_cancel_left]
 have e2:(P++(j8 B x Q b 0).1).drop (i+b.length)=(j8 B x Q b 0).1.drop b.length:=by
  rw[List.drop_append,List.drop_of_length_le (by omega),h1,Nat.add_sub_cancel_left,List.nil_append]
 rw[e1,e2,Ot B x _ _ _ h2,List.append_assoc]
theorem wR{O:Oracle}{K:Nat}(A B:List Nat) (n:Nat) (hA:lok 1000000000 A=true) (hB:lok 1000000000 B=true) (hl:n≤1000000000) (hn:n=A.length+B.length+1) (hK:n<K)
  {b b2 b3:Code}(hb:aj Tryz.f141=[b,b2,b3]∧dx b=[21]∧dx b2=[28,8]∧dx b3=[11,8]):
  ∃F:Env→Bool→Env,∀env0 d,(ab env0 5=.slice 2 0 n none∧ab env0 1=.slice 1 0 B.length none∧ab env0 19=.slice 0 0 A.length none∧ab env0 20=.int .i64 A.length∧ab env0 21=.int .i64 0)→
   aU (aO Tryz.prog) dx O K 79 2 true (.loop b) ⟨env0,jW A B (List.replicate n 0),d⟩=some (.exit 0,⟨F env0 d,jW A B (o9 1000000000 A B (List.replicate n 0)),d⟩)∧
    (ab (F env0 d) 5=ab env0 5):=by
 refine bp hb.2.1 (fun env0=>ab env0 5=.slice 2 0 n none∧ab env0 1=.slice 1 0 B.length none∧ab env0 19=.slice 0 0 A.length none∧ab env0 20=.int .i64 A.length∧ab env0 21=.int .i64 0)
  (fun env0 env' =>ab env' 5=ab env0 5) ?_
 rintro env0 d ⟨h5,h1,h19,h20,h21⟩
 have hb1:=hb.1
 simp[aj,aM,Tryz.f141] at hb1
 obtain⟨hb1,hb2,hb3⟩:=hb1
 have hn0:az [21] (ad b) env0 ((21,.int .i64 ((0:Nat):Int))::env0)=az [21] (ad b) env0 env0:=by simp[az,h21]
 rw[←hn0]
 have hz:ay 1000000000 (List.replicate n 0)=0:=by
  clear hn hl hK h5
  induction n with
  |zero=>rfl
  |succ n ih=>rw[List.replicate_succ,ay,ih]
 have hzo:lok 1000000000 (List.replicate n 0)=true:=by
  unfold lok
  rw[List.all_eq_true]
  intro d hd
  rw[List.mem_replicate] at hd
  simp[hd.2]
 have hfit0:ay 1000000000 A*ay 1000000000 B<1000000000 ^ n:=by
  have h1:=fX hA
  have h2:=fX hB
  have h3:ay 1000000000 A*ay 1000000000 B<1000000000 ^ A.length*1000000000 ^ B.length:=Nat.mul_lt_mul_of_lt_of_lt h1 h2
  rw[←Nat.pow_add] at h3
  have h4:1000000000 ^ (A.length+B.length)≤1000000000 ^ n:=Nat.pow_le_pow_right (by omega) (by omega)
  omega
 refine bK (α:=Nat×List Nat) (fun a=>⟨az [21] (ad b) env0 ((21,.int .i64 (a.1:Int))::env0),jW A B a.2,d⟩) (fun a=>A.length-a.1)
  (fun a=>a.1≤A.length∧a.2.length=n∧lok 1000000000 a.2=true∧ay 1000000000 (a.2.drop a.1)+ay 1000000000 (A.drop a.1)*ay 1000000000 B<1000000000 ^ (n-a.1)∧
   a.2.take a.1++o9 1000000000 (A.drop a.1) B (a.2.drop a.1)=o9 1000000000 A B (List.replicate n 0)) (.exit 0) _ d _ (by simp) ?_ K (0,List.replicate n 0) ⟨Nat.zero_le _,by simp,hzo,by simp only[List.drop_zero,Nat.sub_zero];rw[hz];omega,by simp⟩ (by simp;omega)
 rintro ⟨i,o⟩ ⟨hi,hol,hok,hf,hinv⟩
 simp only at hi hol hok hf hinv
 clear hn0 hfit0 hz hzo
 by_cases hiA:i=A.length
 ·right
  subst hiA
  rw[List.drop_length,o9,List.take_append_drop] at hinv
  rw[←hinv]
  subst hb1
  simp[h20]
 ·left
  have hlt:i<A.length:=by omega
  obtain⟨x,hx,hx'⟩:=cV hlt
  have hxb:=eS hA hx
  have eA:A.drop i=x::A.drop (i+1):=by rw[List.drop_eq_getElem_cons hlt,hx']
  rw[eA,o9] at hinv
  rw[eA,ay,Nat.add_mul,Nat.mul_assoc] at hf
  have hdl:(o.drop i).length=n-i:=by rw[List.length_drop,hol]
  have hdo:=iQ hok i
  obtain⟨r1,r2⟩:=zl (B:=1000000000) (by omega) x (o.drop i) B 0 hdo (by rw[hdl];omega) (by omega)
  have r3:=rH 1000000000 x (o.drop i) B 0
  obtain⟨k1,k2,k3⟩:=Hs (B:=1000000000) (by omega) hxb (o.drop i) B 0 hdo hB (by omega) (by omega)
  have k4:=zM 1000000000 x (o.drop i) B 0
  have hrow:=RV (B:=1000000000) (x:=x) (o:=o) (b:=B) (i:=i) (by omega)
  obtain⟨o2,ho2⟩:∃o2,o2=o.take i++(j8 1000000000 x (o.drop i) B 0).1:=⟨_,rfl⟩
  obtain⟨c2,hc2⟩:∃c2,c2=(j8 1000000000 x (o.drop i) B 0).2:=⟨_,rfl⟩
  have ho2l:o2.length=n:=by rw[ho2,List.length_append,k4,hdl,List.length_take,hol];omega
  have ho2k:lok 1000000000 o2=true:=by rw[ho2,pP,il hok,k1];rfl
  have hfit2:ay 1000000000 (o2.drop (i+B.length))+c2<1000000000 ^ (o2.length-(i+B.length)):=by
   have e1:o2.drop (i+B.length)=(j8 1000000000 x (o.drop i) B 0).1.drop B.length:=by
    rw[ho2,List.drop_append,List.length_take,hol,List.drop_of_length_le (by simp[hol];omega),List.nil_append]
    congr 1;omega
   have e2:ay 1000000000 (j8 1000000000 x (o.drop i) B 0).1=ay 1000000000 ((j8 1000000000 x (o.drop i) B 0).1.take B.length)+1000000000 ^ B.length*ay 1000000000 ((j8 1000000000 x (o.drop i) B 0).1.drop B.length):=by
    conv=>lhs;rw[←List.take_append_drop B.length (j8 1000000000 x (o.drop i) B 0).1]
    rw[fW,List.length_take,k4,hdl,Nat.min_eq_left (by omega)]
   have e3:n-i=B.length+(o2.length-(i+B.length)):=by omega
   rw[e3,Nat.pow_add] at hf
   rw[e1,hc2]
   have:1000000000 ^ B.length*(ay 1000000000 ((j8 1000000000 x (o.drop i) B 0).1.drop B.length)+(j8 1000000000 x (o.drop i) B 0).2)<1000000000 ^ B.length*1000000000 ^ (o2.length-(i+B.length)):=by
    rw[Nat.mul_add];omega
   exact Nat.lt_of_mul_lt_mul_left this
  obtain⟨F2,hF2⟩:=wS (O:=O) (K:=K) (lv:=dx) A B o i x hxb hB hok (by omega) (by omega) (by omega) hb.1 hb.2.2.1
  obtain⟨F3,hF3⟩:=wT (O:=O) (K:=K) (lv:=dx) A B o2 (i+B.length) c2 ho2k (by rw[hc2];exact k2) (by omega) (by omega) hfit2 (by omega) hb.1 hb.2.2.2
  rw[←ho2,←hc2] at hF2 hrow
  rw[←hrow] at hF3
  obtain⟨o3,ho3⟩:∃o3,o3=o.take i++Mq 1000000000 x (o.drop i) B 0:=⟨_,rfl⟩
  rw[←ho3] at hF3
  have ho3l:o3.length=n:=by rw[ho3,List.length_append,r3,hdl,List.length_take,hol];omega
  have ho3k:lok 1000000000 o3=true:=by rw[ho3,pP,il hok,r2];rfl
  cases hrl:Mq 1000000000 x (o.drop i) B 0 with
  |nil=>rw[hrl] at r3;simp at r3;omega
  |cons dd rr=>
   rw[hrl] at hinv r1 r3
   simp only at hinv
   have e4:o3.take (i+1)=o.take i++[dd]:=by
    rw[ho3,hrl,List.take_append,List.length_take,hol,List.take_of_length_le (by simp;omega)]
    have:i+1-min i n=1:=by omega
    rw[this];rfl
   have e5:o3.drop (i+1)=rr:=by
    rw[ho3,hrl,List.drop_append,List.length_take,hol,List.drop_of_length_le (by simp;omega)]
    have:i+1-min i n=1:=by omega
    rw[this];rfl
   obtain⟨p,hp⟩:∃p:Nat,p=i+B.length:=⟨_,rfl⟩
   have w1:IntKind.i64.wrap ((i:Int)+(B.length:Int))=(p:Int):=by rw[ag (by omega) (by omega)];omega
   have w2:IntKind.i64.wrap ((i:Int)+1)=(i:Int)+1:=ag (by omega) (by omega)
   have hI:(i:Int)<(A.length:Int):=by omega
   rw[←hp] at hF3
   refine⟨(i+1,o3),?_⟩
   refine bC (r:=_∧_) (show(i+1≤A.length∧o3.length=n∧lok 1000000000 o3=true∧ay 1000000000 (o3.drop (i+1))+ay 1000000000 (A.drop (i+1))*ay 1000000000 B<1000000000 ^ (n-(i+1))∧
     o3.take (i+1)++o9 1000000000 (A.drop (i+1)) B (o3.drop (i+1))=o9 1000000000 A B (List.replicate n 0))∧A.length-(i+1)<A.length-i by
    rw[e4,e5]
    refine⟨⟨by omega,ho3l,ho3k,?_,by rw[←hinv];simp⟩,by omega⟩
    rw[ay] at r1
    have e:n-i=(n-(i+1))+1:=by omega
    rw[e,Nat.pow_succ] at hf
    generalize 1000000000 ^ (n-(i+1))=q at*
    omega) ?_
   rw[hol] at hF2
   rw[ho2l] at hF3
   clear hinv hf hfit2 r1 r2 r3 k1 k2 k3 k4 hrow e4 e5 hrl ho3 ho2 hc2
   subst hb1
   subst hb2
   subst hb3
   simp only[jW] at hF2 hF3
   simp[jW,h5,h1,h19,h20,hx',hI,hlt,w1,w2,hF2,hF3]
theorem Ay(A B:List Nat) (hA:lok 1000000000 A=true) (hB:lok 1000000000 B=true) (hl:A.length≤100000000) (hl2:B.length≤100000000):
  ∃raw,bd raw=dig 1000000000 (ay 1000000000 A*ay 1000000000 B)∧aa (aO Tryz.prog) dx (aN Tryz.prog) be (A.length+B.length+2) 141 [.slice 0 0 A.length none,.slice 1 0 B.length none] [.cells false 1 (iN .u64 A),.cells false 1 (iN .u64 B)]=
   some ⟨.slice 2 0 (bd raw).length none,none,[.cells true 1 (iN .u64 raw)]⟩:=by
 have hG:aN Tryz.prog 141=some Tryz.f141:=by kernel_rfl
 obtain⟨b,b2,b3,hb⟩:∃b b2 b3,aj Tryz.f141=[b,b2,b3]∧dx b=[21]∧dx b2=[28,8]∧dx b3=[11,8]:=⟨_,_,_,rfl,by decide,by decide,by decide⟩
 obtain⟨n,hn⟩:∃n,n=A.length+B.length+1:=⟨_,rfl⟩
 obtain⟨F,hF⟩:=wR (O:=be) (K:=A.length+B.length+2) A B n hA hB (by omega) hn (by omega) hb
 obtain⟨t1,t2,t3⟩:=Mh (B:=1000000000) (by omega) hA hB
 rw[←hn] at t1 t2 t3
 obtain⟨raw,hraw⟩:∃raw,raw=o9 1000000000 A B (List.replicate n 0):=⟨_,rfl⟩
 rw[←hraw] at t1 t2 t3 hF
 refine⟨raw,by rw[←ez (by omega) t2,t1],?_⟩
 obtain⟨hb1,_⟩:=hb
 simp[aj,aM,Tryz.f141] at hb1
 obtain⟨hb1,_,_⟩:=hb1
 subst hb1
 obtain⟨s1,hs1⟩:∃s1:Nat,s1=A.length+B.length:=⟨_,rfl⟩
 have w1:IntKind.i64.wrap ((A.length:Int)+(B.length:Int))=(s1:Int):=by rw[ag (by omega) (by omega)];omega
 have w2:IntKind.i64.wrap ((s1:Int)+1)=(n:Int):=by rw[ag (by omega) (by omega)];omega
 have h0:0≤(n:Int):=by omega
 have h1:8*(n:Int)≤281474976710656:=by omega
 have h2:(n:Int)≤281474976710656:=by omega
 have h6:bB .u64 [.cells false 1 (iN .u64 A),.cells false 1 (iN .u64 B),.cells true 1 (iN .u64 raw)] (.slice 2 0 n none)=some raw:=
  ba rfl (by simp[t3]) (List.take_of_length_le (by simp[t3]))
 have h7:raw.length≤1000000000:=by omega
 clear hn hs1 hraw
 simp only[jW] at hF
 simp[aa,hG,Tryz.f141,w1,w2,h1,h2,hF,be,h6,h7,sS]
theorem DG{M:Mem}{x y:AV}{A B:List Nat}(hA:lok 1000000000 A=true) (hB:lok 1000000000 B=true) (hl:A.length≤100000000) (hl2:B.length≤100000000) (hx:RowAt .u64 M x A) (hy:RowAt .u64 M y B):
  ACallsTo Tryz.prog 141 [x,y] M (.slice M.length 0 (dig 1000000000 (ay 1000000000 A*ay 1000000000 B)).length none) (M++[.cells true 1 (iN .u64 (dig 1000000000 (ay 1000000000 A*ay 1000000000 B)))]):=by
 obtain⟨raw,hr,h⟩:=Ay A B hA hB hl hl2
 have:=(af ae (aw _) ga (ax _) h).1
 simp only[CallRes.mem,Option.getD_none,List.cons_append,List.nil_append] at this
 have h2:=ACallsTo.trunc (m:=[.cells false 1 (iN .u64 A),.cells false 1 (iN .u64 B)]) this (y8 (dy _))
 obtain⟨b,c,rfl,rfl,h3⟩:=ACallsTo.rows2 (new:=[.cells true 1 (iN .u64 (bd raw))]) rfl h2 hx hy
 rw[hr] at h3
 simpa [AV.ren,eK] using h3
theorem BR{n:Nat}{A:List Nat}(hA:A.length=n) (hn:0<n) (hl:n≤1000000000) (bs bA yb m0 eb:Nat) (ob oA:Bool) (M:Nat→Mem)
  (hlen:∀j,j≤n→(M j).length=m0) (hs:∀j,j≤n→(M j)[bs]? =some (.cells ob eb [.slice bA 0 n none])) (hr:∀j,j≤n→(M j)[bA]? =some (.cells oA 1 (iN .u64 A)))
  (hrefs:∀s∈M 0,s.refs m0=[]) (hy:∀j,j<n→eD Tryz.prog yb [.int .i64 (j:Int),.int .u64 ((A.getD j 0:Nat):Int)] (M (j+1)) (.bool true) (M j)):
  ACallsTo Tryz.prog 245 [.yield yb,.ptr bs 0] (M n) (.tuple []) (M 0):=by
 have hG:aN Tryz.prog 245=some Tryz.f245:=by kernel_rfl
 obtain⟨O,hO,hOr⟩:=gy (P:=Tryz.prog) (fun j:Nat=>j<n) (fun _=>.yld yb) (fun j=>[.int .i64 (j:Int),.int .u64 ((A.getD j 0:Nat):Int)]) (fun j=>M (j+1)) (fun j=>⟨.bool true,some (M j),[]⟩)
  (fun j hj=>⟨by simpa [CallRes.mem] using hy j hj,fun q hq=>by cases hq;rw[hlen j (by omega),hlen (j+1) (by omega)]⟩)
  (fun i j _ _ _ h _=>by
   simp only[List.cons.injEq,AV.int.injEq] at h
   have:i=j:=by omega
   rw[this])
 obtain⟨b,hb⟩:∃b,aj Tryz.f245=[b]:=⟨_,rfl⟩
 have loop:∃F:Env→Env,∀env0,(ab env0 0=.yield yb∧ab env0 1=.ptr bs 0∧ab env0 3=.int .i64 ((n:Int)-1))→
   aU (aO Tryz.prog) (fun _=>[3]) O (n+1) 19 m0 true (.loop b) ⟨env0,M n,false⟩=some (.exit 0,⟨F env0,M 0,true⟩)∧True:=by
  refine rI rfl false true (fun env0=>ab env0 0=.yield yb∧ab env0 1=.ptr bs 0∧ab env0 3=.int .i64 ((n:Int)-1)) (fun _ _=>True) ?_
  rintro env0 ⟨h0,h1,h3⟩
  simp[aj,aM,Tryz.f245] at hb
  have hn0:az [3] (ad b) env0 ((3,.int .i64 ((n:Int)-1))::env0)=az [3] (ad b) env0 env0:=by simp[az,h3]
  rw[←hn0]
  have e0:(⟨az [3] (ad b) env0 ((3,.int .i64 ((n:Int)-1))::env0),M n,false⟩:XS)=⟨az [3] (ad b) env0 ((3,.int .i64 ((n:Int)-1))::env0),M n,decide (n<n)⟩:=by simp
  rw[e0]
  refine bK (α:=Nat) (fun k=>⟨az [3] (ad b) env0 ((3,.int .i64 ((k:Int)-1))::env0),M k,decide (k<n)⟩) id (fun k=>k≤n) (.exit 0) (M 0) true (fun _=>True) (by simp) ?_ (n+1) n (Nat.le_refl _) (by simp)
  intro k hk
  clear hn0 e0
  subst hb
  cases k with
  |zero=>
   right
   simp[hn]
  |succ k=>
   left
   have hkn:k<n:=by omega
   have e1:(((k+1:Nat):Int)-1)=(k:Int):=by omega
   have w1:IntKind.i64.wrap ((k:Int)-1)=(k:Int)-1:=ag (by omega) (by omega)
   have l1:=hlen k (by omega)
   have l2:=hlen n (by omega)
   have s1:=hs (k+1) (by omega)
   have r1:=hr (k+1) (by omega)
   have o1:=hOr k hkn
   obtain⟨x,hx,hx'⟩:=cV (l:=A) (i:=k) (by omega)
   have hg:A.getD k 0=x:=by simp[List.getD,hx]
   rw[hg] at o1
   rw[e1]
   refine⟨k,?_⟩
   have hkn' :(k:Int)<(n:Int):=by omega
   simp[h0,h1,w1,l1,l2,s1,r1,hx',hA,hkn,o1]
   omega
 obtain⟨F,hF⟩:=loop
 simp[aj,aM,Tryz.f245] at hb
 subst hb
 have w1:IntKind.i64.wrap ((n:Int)-1)=(n:Int)-1:=ag (by omega) (by omega)
 have l2:=hlen n (by omega)
 have s1:=hs n (by omega)
 have hc:∃env',aU (aO Tryz.prog) (fun _=>[3]) O (n+1) Tryz.f245.ntmps (M n).length true (Tryz.f245.body.getD .skip) ⟨cB 0 [.yield yb,.ptr bs 0],M n,false⟩=some (.normal,⟨env',M 0,true⟩):=by
  simp[Tryz.f245,s1,w1,l2,hF]
 obtain⟨env',hc⟩:=hc
 have:=GD (T:=aO Tryz.prog) (G:=aN Tryz.prog) (v:=.tuple []) hG rfl (by simp[Tryz.f245]) (.inl rfl) hc rfl (by rw[hlen 0 (by omega),l2]) rfl (by rw[l2];exact hrefs)
 have h2:=(af ae (aw _) hO (ax _) this).1
 simpa [CallRes.mem] using h2
def jo(A:List Nat) (d:Nat) (ps:Array Tmp) (asg body:Code) (env0:Env) (j:Nat):Mem:=
 [.cells false 1 (iN .u64 A),.cells false 1 [.int .u64 (d:Int)],.cells true 0 [.slice 1 0 1 none],.cells true 0 [.slice 4 0 A.length none],
  .cells true 1 (iN .u64 (List.replicate j 0++(fC 1000000000 d (A.drop j)).1)),.cells true 0 [.int .u64 (((fC 1000000000 d (A.drop j)).2:Nat):Int)],.cells true 0 [.slice 0 0 A.length none],
  .loop ⟨.ready,none,env0,146,ps,asg,body⟩]
theorem Ao(A:List Nat) (d:Nat) (hd0:0<d) (hd:d<1000000000) (hA:lok 1000000000 A=true) (hl:A.length≤1000000000) {ps:Array Tmp}{asg body:Code}(hb:de Tryz.f157=[(ps,asg,body)])
  (env0:Env) (h3:ab env0 3=.ptr 2 0) (h4:ab env0 4=.ptr 3 0) (h6:ab env0 6=.ptr 5 0) (he:env0.flatMap (fun e=>e.2.refs 8)=[]) (j:Nat) (hj:j<A.length):
  eD Tryz.prog 7 [.int .i64 (j:Int),.int .u64 ((A.getD j 0:Nat):Int)] (jo A d ps asg body env0 (j+1)) (.bool true) (jo A d ps asg body env0 j):=by
 obtain⟨x,hx,hx'⟩:=cV hj
 have hxb:=eS hA hx
 have hg:A.getD j 0=x:=by simp[List.getD,hx]
 have eA:A.drop j=x::A.drop (j+1):=by rw[List.drop_eq_getElem_cons hj,hx']
 rw[hg]
 have hst:bW asg=true∧bW body=true∧ps= #[27,28]:=by
  simp[de,ef,Tryz.f157] at hb
  obtain⟨rfl,rfl,rfl⟩:=hb
  exact⟨by decide,by decide,rfl⟩
 obtain⟨hst1,hst2,rfl⟩:=hst
 have hren:∀ks,oZ (rho 8 ks) env0=env0:=fun ks=>Jq he
 have hdl:(fC 1000000000 d (A.drop j))=(((fC 1000000000 d (A.drop (j+1))).2*1000000000+x) / d::(fC 1000000000 d (A.drop (j+1))).1,((fC 1000000000 d (A.drop (j+1))).2*1000000000+x)%d):=by rw[eA];rfl
 obtain⟨i1,i2,i3,i4⟩:=yW hd0 hd (A.drop (j+1)) (iQ hA _)
 obtain⟨r,hr⟩:∃r,r=(fC 1000000000 d (A.drop (j+1))).2:=⟨_,rfl⟩
 obtain⟨q,hq⟩:∃q,q=(fC 1000000000 d (A.drop (j+1))).1:=⟨_,rfl⟩
 rw[←hr,←hq] at hdl
 rw[←hr] at i1
 rw[←hq] at i4
 have hM1:jo A d #[27,28] asg body env0 (j+1)=[.cells false 1 (iN .u64 A),.cells false 1 [.int .u64 (d:Int)],.cells true 0 [.slice 1 0 1 none],.cells true 0 [.slice 4 0 A.length none],
  .cells true 1 (iN .u64 (List.replicate (j+1) 0++q)),.cells true 0 [.int .u64 (r:Int)],.cells true 0 [.slice 0 0 A.length none],.loop ⟨.ready,none,env0,146,#[27,28],asg,body⟩]:=by rw[hr,hq];rfl
 obtain⟨s,hs⟩:∃s:Nat,s=r*1000000000+x:=⟨_,rfl⟩
 rw[←hs] at hdl
 have hM2:jo A d #[27,28] asg body env0 j=[.cells false 1 (iN .u64 A),.cells false 1 [.int .u64 (d:Int)],.cells true 0 [.slice 1 0 1 none],.cells true 0 [.slice 4 0 A.length none],
  .cells true 1 (iN .u64 (List.replicate j 0++s / d::q)),.cells true 0 [.int .u64 ((s%d:Nat):Int)],.cells true 0 [.slice 0 0 A.length none],.loop ⟨.ready,none,env0,146,#[27,28],asg,body⟩]:=by unfold jo;rw[hdl]
 rw[hM1,hM2]
 have hql:q.length=A.length-(j+1):=by rw[i4,List.length_drop]
 have hsd:s / d≤s:=Nat.div_le_self _ _
 have hsm:s%d<d:=Nat.mod_lt _ hd0
 obtain⟨sq,hsq⟩:∃sq,sq=s / d:=⟨_,rfl⟩
 obtain⟨sr,hsr⟩:∃sr,sr=s%d:=⟨_,rfl⟩
 have w1:IntKind.u64.wrap ((r:Int)*1000000000)=(r:Int)*1000000000:=bR (by omega) (by omega)
 have w2:IntKind.u64.wrap ((r:Int)*1000000000+(x:Int))=(s:Int):=by rw[bR (by omega) (by omega)];omega
 have w3:IntKind.u64.wrap ((s:Int).tdiv (d:Int))=(sq:Int):=by rw[tI,←hsq];exact bR (by omega) (by omega)
 have w3' :IntKind.u64.wrap ((s:Int) / (d:Int))=(sq:Int):=by rw[←Int.natCast_ediv,←hsq];exact bR (by omega) (by omega)
 have w4:(s:Int).tmod (d:Int)=(sr:Int):=by rw[tJ,←hsr]
 have hdn:¬d=0:=by omega
 have hjI:(j:Int)<(A.length:Int):=by omega
 have hup:(iN .u64 (List.replicate (j+1) 0++q)).take j++.int .u64 (sq:Int)::(iN .u64 (List.replicate (j+1) 0++q)).drop (j+1)=iN .u64 (List.replicate j 0++sq::q):=by
  rw[QB _ _ _ _ (by simp;omega)]
  congr 1
  rw[List.take_append_of_le_length (by simp),List.take_replicate,List.drop_append,List.drop_of_length_le (by simp)]
  simp
 have htk:(List.replicate (j+1) 0++q).take j=List.replicate j 0:=by
  rw[List.take_append_of_le_length (by simp),List.take_replicate]
  congr 1;omega
 have hjq:j+1≤(List.replicate (j+1) 0++q).length:=by simp
 rw[←hsq,←hsr]
 have hc:uF (aO Tryz.prog) (fun _=>[]) bt 1 7 [.int .i64 (j:Int),.int .u64 (x:Int)] [.cells false 1 (iN .u64 A),.cells false 1 [.int .u64 (d:Int)],.cells true 0 [.slice 1 0 1 none],.cells true 0 [.slice 4 0 A.length none],
  .cells true 1 (iN .u64 (List.replicate (j+1) 0++q)),.cells true 0 [.int .u64 (r:Int)],.cells true 0 [.slice 0 0 A.length none],.loop ⟨.ready,none,env0,146,#[27,28],asg,body⟩]=some ⟨.bool true,some [.cells false 1 (iN .u64 A),.cells false 1 [.int .u64 (d:Int)],.cells true 0 [.slice 1 0 1 none],.cells true 0 [.slice 4 0 A.length none],
  .cells true 1 (iN .u64 (List.replicate j 0++sq::q)),.cells true 0 [.int .u64 (sr:Int)],.cells true 0 [.slice 0 0 A.length none],.loop ⟨.ready,none,env0,146,#[27,28],asg,body⟩],[]⟩:=by
  clear hM1 hM2 hup
  simp[uF,hst1,hst2]
  simp[de,ef,Tryz.f157] at hb
  obtain⟨rfl,rfl⟩:=hb
  clear hst1 hst2
  simp[h3,h4,h6,w1,w2,w3',w4,hdn,hjI,he,hren,oH,ku,fT,oC,Nat.testBit]
  rw[htk,cR,bV]
 have:=(ml ae (aw _) (ak _) hc).1
 simpa [CallRes.mem] using this
theorem Am(A:List Nat) (d:Nat) (hd0:0<d) (hd:d<1000000000) (hA:lok 1000000000 A=true) (hl:A.length≤1000000000) (hn:0<A.length) {ps:Array Tmp}{asg body:Code}(hb:de Tryz.f157=[(ps,asg,body)]):
  ∃O:Oracle,OracleOk Tryz.prog O∧∀env0,(ab env0 3=.ptr 2 0∧ab env0 4=.ptr 3 0∧ab env0 6=.ptr 5 0∧env0.flatMap (fun e=>e.2.refs 8)=[])→
   O (.fn 245) [.yield 7,.ptr 6 0] (jo A d ps asg body env0 A.length)=some ⟨.tuple [],some (jo A d ps asg body env0 0),[]⟩:=by
 refine gy (ι:=Env) (fun env0=>ab env0 3=.ptr 2 0∧ab env0 4=.ptr 3 0∧ab env0 6=.ptr 5 0∧env0.flatMap (fun e=>e.2.refs 8)=[]) (fun _=>.fn 245) (fun _=>[.yield 7,.ptr 6 0]) (fun env0=>jo A d ps asg body env0 A.length) (fun env0=>⟨.tuple [],some (jo A d ps asg body env0 0),[]⟩) ?_ ?_
 ·rintro env0 ⟨h3,h4,h6,he⟩
  refine⟨?_,fun q hq=>by cases hq;rfl⟩
  have:=BR (n:=A.length) (A:=A) rfl hn hl 6 0 7 8 0 true false (jo A d ps asg body env0) (fun _ _=>rfl) (fun _ _=>rfl) (fun _ _=>rfl) (fun s hs=>by
   simp only[jo,List.mem_cons,List.not_mem_nil,or_false] at hs
   rcases hs with rfl | rfl | rfl | rfl | rfl | rfl | rfl | rfl
   all_goals first | exact tE he | simp) (fun j hj=>Ao A d hd0 hd hA hl hb env0 h3 h4 h6 he j hj)
  simpa [CallRes.mem] using this
 ·intro i j _ _ _ _ h
  simp only[jo,List.cons.injEq,Slot.loop.injEq,LoopA.mk.injEq,and_true,true_and] at h
  rw[h]
theorem rF(T:TypeId→Option TyI) (lv:Code→List Nat) (O:Oracle) (K N m0:Nat) (g:Operand) (ps:Array Tmp) (asg body:Code) (s:XS):aU T lv O K N m0 true (.rangeFunc g ps asg body) s=match get s.env g with
   |.func f caps=>match O (.fn f) (.yield s.mem.length::caps) (s.mem++[.loop ⟨.ready,none,s.env,N,ps,asg,body⟩]) with
    |some r=>match (r.mem (s.mem++[.loop ⟨.ready,none,s.env,N,ps,asg,body⟩]))[s.mem.length]? with
     |some (.loop r2)=>if r2.st== .busy then none else match vB r2.pend with
      |some e=>some (e,⟨s.env,(r.mem (s.mem++[.loop ⟨.ready,none,s.env,N,ps,asg,body⟩])).set s.mem.length (.loop { r2 with st:=.exhausted }),s.dirty||r.pre.isSome⟩)
      |none=>none
     |_=>none
    |none=>none
   |_=>none:=rfl
theorem xM(b n:Nat) (m:Mem) (hb:b<m.length):aa (aO Tryz.prog) (fun _=>[]) (aN Tryz.prog) bt 1 208 [.slice b 0 n none] m=some ⟨.func 245 [.ptr m.length 0],none,[.cells true 0 [.slice b 0 n none]]⟩:=by
 have hG:aN Tryz.prog 208=some Tryz.f208:=by kernel_rfl
 simp[aa,hG,Tryz.f208,hb,List.idxOf?]
end Go.Proofs
