/- See G38. -/
import Derived.Test.YthpgbelancmpjaaGreatDoorG16
import Derived.Test.YthpgbelancmpjaaGreatDoorG05
set_option linter.all false
set_option maxRecDepth 100000
set_option maxHeartbeats 40000000
namespace Go.Eng
def jX(B:Int):List Int->Int
 | []=>0
 |d::l=>d+B*jX B l
theorem vJ(B:Int):∀(l r:List Int),jX B (l++r)=jX B l+B ^ l.length*jX B r
 | [],r=>by simp[jX]
 |d::l,r=>by rw[List.cons_append,jX,jX,vJ B l r,List.length_cons,Int.pow_succ,Int.mul_add,Int.add_assoc];congr 2;rw[<-Int.mul_assoc,Int.mul_comm (B ^ l.length) B]
variable{d:Int}
theorem UA{B:Int}{l:List Int}{j:Nat}(h:l[j]? =some d):jX B (l.drop j)=d+B*jX B (l.drop (j+1)):=by obtain⟨Z,rfl⟩:=O2.1 h;rw[N0 Z];rfl
def UG(l:List Nat):List Int:=l.map fun n:Nat=>(n:Int)
theorem MF(B:Nat):∀l:List Nat,jX B (UG l)=(ao B l:Int)
 | []=>rfl
 |d::l=>by
  show(d:Int)+B*jX B (UG l)=((d+B*ao B l:Nat):Int)
  rw[MF B l];simp
theorem mw(B:Int):∀n,jX B (List.replicate n 0)=0
 |0=>rfl
 |n+1=>by rw[List.replicate_succ,jX,mw B n];simp
theorem zE(s:Int):(if s.tmod 10000<0 then s.tmod 10000+10000 else s.tmod 10000)=s%10000:=by rw[Int.tmod_eq_emod];split<;>split<;>omega
theorem PK(s:Int):(s-s%10000).tdiv 10000=s / 10000:=by
 have h:s-s%10000=10000*(s / 10000):=by omega
 rw[h,Int.mul_comm,Int.mul_tdiv_cancel _ (by omega)]
structure afT (A:List Int)(i:Nat)(over:Int)(out:List Nat):Prop where
 len:out.length=i
 ok:lok 10000 out=true
 val:(ao 10000 out:Int)+10000 ^ i*(jX 10000 (A.drop i)+over)=jX 10000 A
 b1:over.natAbs<=1000000000000
 b2:i+over.natAbs<=A.length+1000000000000
theorem afT.start(A:List Int):afT A 0 0 []:=⟨rfl,rfl,by simp[ao],by simp,by simp⟩
variable{A:List Int}{i:Nat}{out:List Nat}{over:Int}
theorem Lk{s:Int}(h:afT A i over out)(hs:jX 10000 (A.drop i)+over=s+10000*jX 10000 (A.drop (i+1))):
  (ao 10000 (out++[(s%10000).toNat]):Int)+10000 ^ (i+1)*(jX 10000 (A.drop (i+1))+s / 10000)=jX 10000 A:=by
 rw[<-h.val,hs,LZ,h.len];have X:((s%10000).toNat:Int)=s%10000:=QQi (by omega);rw[Int.natCast_add,Int.natCast_mul,X,Int.natCast_pow];have Z:s=s%10000+10000*(s / 10000):=by omega
 have h3:(10000:Int) ^ (i+1)=10000 ^ i*10000:=Int.pow_succ ..;rw[h3];generalize (10000:Int) ^ i=p;generalize jX 10000 (A.drop (i+1))=z;generalize s%10000=m at Z;generalize s / 10000=q at Z;subst Z
 grind
section
variable (h:afT A i over out)
include h
theorem afT.agR(s:Int):lok 10000 (out++[(s%10000).toNat])=true:=by
 rw[nZ,h.ok];have:(s%10000).toNat<10000:=by omega
 simp[lok,this]
theorem afT.next(hd:A[i]? =some d)(H:d.natAbs<=1000000000000):
  afT A (i+1) ((over+d) / 10000) (out++[((over+d)%10000).toNat]):=by
 have Z:=gL hd;have:=h.b1;refine⟨by simp[h.len],h.agR _,Lk h ?_,by omega,by omega⟩;rw[UA hd];omega
section
variable (hi:A.length<=i)(hA:0<=jX 10000 A)
include hi hA
theorem afT.ovr:0<=over:=by
 have X:A.drop i=[]:=ZN hi;have Z:=h.val;rw[X] at Z;have V:jX 10000 []=0:=rfl;rw[V,Int.zero_add] at Z;have U:=gW h.ok;rw[h.len] at U;have S :(ao 10000 out:Int)<10000 ^ i:=by have:((10000 ^ i:Nat):Int)=(10000:Int) ^ i:=Int.natCast_pow ..;rw[<-this];omega
 rcases Int.lt_or_le over 0 with h0 | h0
 .exfalso
  have R:(0:Int)<10000 ^ i:=Int.pow_pos (by omega);generalize (10000:Int) ^ i=p at*;have:p*over<=p*(-1):=Int.mul_le_mul_of_nonneg_left (by omega) (by omega);omega
 .exact h0
theorem afT.more(H:over≠0):
  afT A (i+1) (over / 10000) (out++[(over%10000).toNat]):=by
 have V:=h.ovr hi hA;have:=h.b1;have:=h.b2;have X:A.drop i=[]:=ZN hi;have Z:A.drop (i+1)=[]:=ZN (by omega);refine⟨by simp[h.len],h.agR _,Lk h ?_,by omega,by omega⟩;rw[X,Z];show 0+over=over+10000*0
 omega
end
end
theorem afT.done(h:afT A i 0 out)(H:A.length<=i):aW out=dig 10000 (jX 10000 A).toNat:=by have X:A.drop i=[]:=ZN H;have Z:=h.val;rw[X] at Z;have V:jX 10000 []=0:=rfl;rw[V,Int.zero_add,Int.mul_zero,Int.add_zero] at Z;rw[<-Z,Int.toNat_natCast,dV (by omega) h.ok]
def jn(k:Int):List Nat->List Nat->List Int
 |a,[]=>UG a
 | [],b::bs=>(k*(b:Int))::jn k [] bs
 |a::al,b::bs=>((a:Int)+k*(b:Int))::jn k al bs
theorem ET(k:Int)(a:List Nat):jn k a []=UG a:=by cases a<;>rfl
theorem OW(k:Int):∀(a b:List Nat),jX 10000 (jn k a b)=(ao 10000 a:Int)+k*(ao 10000 b:Int)
 |a,[]=>by rw[ET];have:=MF 10000 a;rw[show((10000:Nat):Int)=10000 from rfl] at this;rw[this];simp[ao]
 | [],b::Z=>by
  rw[jn,jX,OW k [] Z];simp only[ao,Int.natCast_add,Int.natCast_mul];show k*(b:Int)+10000*(((0:Nat):Int)+k*(ao 10000 Z:Int))=((0:Nat):Int)+k*((b:Int)+(10000:Int)*(ao 10000 Z:Int))
  grind
 |a::X,b::Z=>by
  rw[jn,jX,OW k X Z,ao,ao,Int.natCast_add,Int.natCast_mul,Int.natCast_add,Int.natCast_mul];show(a:Int)+k*(b:Int)+10000*((ao 10000 X:Int)+k*(ao 10000 Z:Int))=(a:Int)+(10000:Int)*(ao 10000 X:Int)+k*((b:Int)+(10000:Int)*(ao 10000 Z:Int))
  grind
theorem rY(k:Int):∀(a b:List Nat),(jn k a b).length=max a.length b.length
 |a,[]=>by rw[ET];simp[UG]
 | [],b::bs=>by rw[jn,List.length_cons,rY k [] bs];simp
 |a::al,b::bs=>by rw[jn,List.length_cons,rY k al bs];simp only[List.length_cons];omega
theorem AS{k:Int}(H:k.natAbs<=10000):∀{a b:List Nat},lok 10000 a=true->lok 10000 b=true->∀d∈jn k a b,d.natAbs<=1000000000
 |a,[],ha,_,d,hd=>by rw[ET] at hd;simp only[UG,QQm] at hd;obtain⟨x,Z,rfl⟩:=hd;have:=List.all_eq_true.1 ha x Z;simp at this;omega
 | [],b::bs,ha,hb,d,hd=>by
  rw[jn,List.mem_cons] at hd;rw[cX,Es,GE] at hb;rcases hd with rfl | hd
  .rw[QQl,Int.natAbs_natCast]
   have:k.natAbs*b<=10000*10000:=Nat.mul_le_mul H (by omega);omega
  .exact AS H ha hb.2 d hd
 |a::al,b::bs,ha,hb,d,hd=>by
  rw[jn,List.mem_cons] at hd;rw[cX,Es,GE] at hb ha;rcases hd with rfl | hd
  .have X:(k*(b:Int)).natAbs<=10000*10000:=by rw[QQl,Int.natAbs_natCast];exact Nat.mul_le_mul H (by omega)
   omega
  .exact AS H ha.2 hb.2 d hd
theorem AN(H:Int)(J:List Int)(i:Nat):(if (H::J).length<=i+1 then H::J++[0] else H::J)=H::(if J.length<=i then J++[0] else J):=by simp only[List.length_cons,Nat.add_le_add_iff_right];split<;>rfl
theorem On(k:Int):∀(A B:List Nat) (i b:Nat),B[i]? =some b->∃x,(if (jn k A (B.take i)).length<=i then jn k A (B.take i)++[0] else jn k A (B.take i))[i]? =some x/\
  (if (jn k A (B.take i)).length<=i then jn k A (B.take i)++[0] else jn k A (B.take i)).set i (x+k*(b:Int))=jn k A (B.take (i+1))
 |_,[],_,_,h=>by simp at h
 |A,c::B,0,b,h=>by
  simp only[List.getElem?_cons_zero,Pi] at h;subst h;rw[List.take_zero,ET];cases A with
  |nil=>exact⟨0,rfl,by simp[jn,UG]⟩
  |cons a A=>exact⟨a,by simp[UG],by simp[jn,UG]⟩
 |A,c::B,i+1,b,h=>by
  simp only[List.getElem?_cons_succ] at h;rw[List.take_succ_cons,List.take_succ_cons];cases A with
  |nil=>
   obtain⟨x,Z,X⟩:=On k [] B i b h;refine⟨x,?_,?_⟩
   .rw[jn,AN];simpa using Z
   .rw[jn,jn,<-X,AN];simp
  |cons a A=>
   obtain⟨x,Z,X⟩:=On k A B i b h;refine⟨x,?_,?_⟩
   .rw[jn,AN];simpa using Z
   .rw[jn,jn,<-X,AN];simp
def jt(x:Int):List Nat->List Int->List Int
 | [],o=>o
 |_::_,[]=>[]
 |b::bs,d::o=>(d+x*(b:Int))::jt x bs o
theorem nI(x:Int)(o:List Int):jt x [] o=o:=by cases o<;>rfl
theorem pw(x:Int):∀(b:List Nat) (o:List Int),b.length<=o.length->(jt x b o).length=o.length
 | [],o,_=>by rw[nI]
 |b::bs,[],h=>by simp at h
 |b::bs,d::o,h=>by simp only[List.length_cons,Nat.add_le_add_iff_right] at h;rw[jt,List.length_cons,pw x bs o h,List.length_cons]
theorem Dn(x:Int):∀(b:List Nat) (o:List Int),b.length<=o.length->jX 10000 (jt x b o)=jX 10000 o+x*(ao 10000 b:Int)
 | [],o,_=>by rw[nI];simp[ao]
 |b::H,[],h=>by simp at h
 |b::H,d::o,h=>by
  simp only[List.length_cons,Nat.add_le_add_iff_right] at h;rw[jt,jX,Dn x H o h,jX,ao,Int.natCast_add,Int.natCast_mul];show d+x*(b:Int)+10000*(jX 10000 o+x*(ao 10000 H:Int))=d+10000*jX 10000 o+x*((b:Int)+(10000:Int)*(ao 10000 H:Int))
  grind
theorem zg{x:Int}{m c:Nat}(hc:10000*10000<=c)(H:x.natAbs<=10000):∀{b:List Nat} {o:List Int},lok 10000 b=true->(∀d∈o,d.natAbs<=m)->∀d∈jt x b o,d.natAbs<=m+c
 | [],o,_,ho,d,Z=>by rw[nI] at Z;have:=ho d Z;omega
 |b::bs,[],_,_,d,Z=>by simp[jt] at Z
 |b::bs,e::o,hb,ho,d,Z=>by
  rw[jt,List.mem_cons] at Z;rw[cX,Es,GE] at hb;rcases Z with rfl | Z
  .have X:(x*(b:Int)).natAbs<=10000*10000:=by rw[QQl,Int.natAbs_natCast];exact Nat.mul_le_mul H (by omega)
   have:=ho e (by simp);omega
  .exact zg hc H hb.2 (fun d Z=>ho d (by simp[Z])) d Z
theorem B6(x:Int):∀(B:List Nat) (o:List Int) (k b:Nat) (y:Int),B[k]? =some b->o[k]? =some y->(jt x (B.take k) o)[k]? =some y/\(jt x (B.take k) o).set k (y+x*(b:Int))=jt x (B.take (k+1)) o
 | [],_,_,_,_,h,_=>by simp at h
 |_::_,[],_,_,_,_,h=>by simp at h
 |c' ::B,d::o,0,b,y,h,hy=>by simp only[List.getElem?_cons_zero,Pi] at h hy;subst h hy;exact⟨rfl,by simp[jt,nI]⟩
 |c::B,d::o,k+1,b,y,h,hy=>by simp only[List.getElem?_cons_succ] at h hy;obtain⟨Z,X⟩:=B6 x B o k b y h hy;rw[List.take_succ_cons,List.take_succ_cons,jt,jt];exact⟨by simpa using Z,by simpa using X⟩
def tzR(A B:List Nat):Nat->List Int
 |0=>List.replicate (A.length+B.length) 0
 |i+1=>(tzR A B i).take i++jt ((A.getD i 0:Nat):Int) B ((tzR A B i).drop i)
theorem Hr{A B:List Nat}{c:Nat}(hc:10000*10000<=c)(H:lok 10000 A=true)(I:lok 10000 B=true):∀i,i<=A.length->(tzR A B i).length=A.length+B.length/\jX 10000 (tzR A B i)=(ao 10000 (A.take i):Int)*(ao 10000 B:Int)/\∀d∈tzR A B i,d.natAbs<=i*c
 |0,_=>by refine⟨by simp[tzR],by rw[tzR,mw];simp[ao],fun d Z=>?_⟩;rw[tzR] at Z;rw[(List.mem_replicate.1 Z).2];simp
 |i+1,h=>by
  obtain⟨N,U,h3⟩:=Hr hc H I i (by omega);obtain⟨x,X,S⟩:∃x,A[i]? =some x/\A.getD i 0=x:=⟨A[i],by simp,by simp[List.getD,show i<A.length by omega]⟩
  have M:=fa H X;have V:B.length<=((tzR A B i).drop i).length:=by rw[QXX];omega
  rw[tzR,S];refine⟨?_,?_,fun d Z=>?_⟩
  .rw[Qs,pw _ _ _ V,SP,QXX];omega
  .rw[vJ,Dn _ _ _ V,SP,Nat.min_eq_left (by omega)]
   have R:jX 10000 (tzR A B i)=jX 10000 ((tzR A B i).take i)+10000 ^ i*jX 10000 ((tzR A B i).drop i):=by
    conv=>lhs;rw[<-List.take_append_drop i (tzR A B i)]
    rw[vJ,SP,Nat.min_eq_left (by omega)]
   have O:A.take (i+1)=A.take i++[x]:=by rw[List.take_add_one,X];rfl
   rw[O,LZ,SP,Nat.min_eq_left (by omega),Int.natCast_add,Int.natCast_mul,Int.natCast_pow,Int.add_mul,<-U,R];show _=_+(10000:Int) ^ i*(x:Int)*(ao 10000 B:Int)
   rw[Int.mul_add,Int.mul_assoc,Int.add_assoc]
  .rcases List.mem_append.1 Z with Z | Z
   .have:=h3 d (List.mem_of_mem_take Z)
    rw[Nat.add_mul];omega
   .have:=zg (x:=(x:Int)) (m:=i*c) hc (by omega) I (fun d Z=>h3 d (List.mem_of_mem_drop Z)) d Z
    rw[Nat.add_mul,Nat.one_mul];exact this
end Go.Eng
namespace Go.Proofs
open Go.Eng
open Tryz
variable{K:Nat}{O:y9}{b:Code}{lv:Code->List Nat}
theorem DY(A:List Nat)(Y:A.length<=4000000000000)(J:A.length<K)(H:ag f267=[b])(I:lv b=[0]):
  ∃F:Env->Bool->Env,∀Z d,ad Z 0=.slice 0 0 A.length none->
   aL (aX prog) lv O K 21 1 true (.loop b) ⟨Z,[.cells false 1 (iN .i64 A)],d⟩=some (.exit 0,⟨F Z d,[.cells false 1 (iN .i64 A)],d⟩)/\ad (F Z d) 0=.slice 0 0 (aW A).length none:=by
 refine bj I (fun Z=>ad Z 0=.slice 0 0 A.length none) (fun _ L =>ad L 0=.slice 0 0 (aW A).length none) ?_;clear I;intro Z d G;simp[ag,aE,f267] at H;have S:an [0] (aa b) Z ((0,.slice 0 0 A.length none)::Z)=an [0] (aa b) Z Z:=by simp[an,G]
 rw[<-S];refine bI (α:=Nat) (fun n=>⟨an [0] (aa b) Z ((0,.slice 0 0 n none)::Z),[.cells false 1 (iN .i64 A)],d⟩) id (fun n=>n<=A.length/\aW (A.take n)=aW A) (.exit 0) _ d _ (by simp) ?_ K A.length ⟨L9 _,by rw[P1]⟩ J;rintro n ⟨hn1,hn2⟩;clear S;subst H;cases n with
 |zero=>
  right;rw[<-hn2];simp[aW]
 |succ n=>
  have C:n<A.length:=by omega
  obtain⟨x,V⟩:∃x,A[n]? =some x:=⟨A[n],by simp[C]⟩
  have R:IntKind.i64.wrap (n:Int)=(n:Int):=af;have N:(n:Int)<(n:Int)+1:=by omega
  have M:0<(n:Int)+1:=by omega
  by_cases X:x=0
  .subst X
   left;refine⟨n,?_⟩;have h3:(n:Int)<=(n:Int)+1:=by omega
   have U:n+1<=A.length:=by omega
   simp[R,N,M,h3,U,V];exact⟨by omega,by rw[<-sh V];exact hn2⟩
  .right
   rw[<-hn2,sf V X];have U:min (n+1) A.length=n+1:=by omega
   simp[R,N,M,U,V,X]
theorem Qv(A:List Nat)(H:A.length<=4000000000000):kO prog 267 [.slice 0 0 A.length none] [.cells false 1 (iN .i64 A)] (.slice 0 0 (aW A).length none) [.cells false 1 (iN .i64 A)]:=by
 have X:aZ prog 267=some f267:=by kernel_rfl
 obtain⟨b,Z⟩:∃b,ag f267=[b]:=⟨_,rfl⟩
 obtain⟨F,V⟩:=DY (O:=cO) (K:=A.length+1) (lv:=fun _=>[0]) A H (by omega) Z rfl;simp[ag,aE,f267] at Z;subst Z;refine dv (lv:=(fun _=>[0])) (K:=(A.length+1)) (az _) ?_;simp[ae,X,f267,V]
theorem BN(A B:List Nat)(Y:lok 10000 A=true)(hB:lok 10000 B=true)(hl:A.length<=1000000000)(H:A.length=B.length)(hK:A.length<K)(I:ag f228=[b])(J:lv b=[5]):
  ∃F:Env->Bool->Env,∀Z d,(ad Z 0=.slice 0 0 A.length none/\ad Z 1=.slice 1 0 A.length none/\ad Z 5=.int .i64 ((A.length:Int)-1))->
   aL (aX prog) lv O K 41 2 true (.loop b) ⟨Z,[.cells false 1 (iN .i64 A),.cells false 1 (iN .i64 B)],d⟩=some (if A=B then .exit 0 else .ret,⟨F Z d,[.cells false 1 (iN .i64 A),.cells false 1 (iN .i64 B)],d⟩)/\
    (A≠B->ad (F Z d) 4=.bool (decide (ao 10000 A<ao 10000 B))):=by
 refine bj J (fun Z=>ad Z 0=.slice 0 0 A.length none/\ad Z 1=.slice 1 0 A.length none/\ad Z 5=.int .i64 ((A.length:Int)-1)) (fun _ o =>A≠B->ad o 4=.bool (decide (ao 10000 A<ao 10000 B))) ?_;clear J;rintro Z d ⟨h0,h1,h5⟩;simp[ag,aE,f228] at I;have C:an [5] (aa b) Z ((5,.int .i64 ((A.length:Int)-1))::Z)=an [5] (aa b) Z Z:=by simp[an,h5]
 rw[<-C];refine bI (α:=Nat) (fun n=>⟨an [5] (aa b) Z ((5,.int .i64 ((n:Int)-1))::Z),[.cells false 1 (iN .i64 A),.cells false 1 (iN .i64 B)],d⟩) id (fun n=>n<=A.length/\A.drop n=B.drop n) (if A=B then .exit 0 else .ret) _ d _ (by split<;>simp) ?_ K A.length ⟨L9 _,by rw[List.drop_length,H,List.drop_length]⟩ hK;rintro n ⟨hn1,hn2⟩;clear C;subst I;cases n with
 |zero=>
  right;rw[List.drop_zero,List.drop_zero] at hn2;simp[hn2]
 |succ n=>
  have M:n<A.length:=by omega
  have V:n<B.length:=by omega
  obtain⟨x,L,u⟩:=de M;obtain⟨y,N,R⟩:=de V;have m:(((n+1:Nat):Int)-1)=(n:Int):=by omega
  have j:IntKind.i64.wrap ((n:Int)-1)=(n:Int)-1:=af;rw[m];by_cases U:x=y
  .left
   subst U;refine⟨n,?_⟩;simp[h0,h1,u,R,M,V,j];exact⟨by omega,LI hn2 L N⟩
  .right
   have J':A≠B:=by rintro rfl;rw[L] at N;cases N;exact U rfl
   have S:=SW Y hB H hn2 L N U;have hd:decide (ao 10000 A<ao 10000 B)=decide (x<y):=by
    unfold kv at S;by_cases X:x<y
    .rw[if_pos X] at S
     have:ao 10000 A<ao 10000 B:=by
      rcases Nat.lt_or_ge (ao 10000 A) (ao 10000 B) with h | h
      .exact h
      .rw[if_neg (by omega)] at S;split at S<;>omega
     simp[X,this]
    .rw[if_neg X] at S
     have:¬ao 10000 A<ao 10000 B:=by intro h;rw[if_pos h] at S;omega
     simp[X,this]
   have G :¬((x:Int)=(y:Int)):=by omega
   simp[h0,h1,u,R,M,V,G,J',hd]
theorem M6(A B:List Nat)(H:lok 10000 A=true)(I:lok 10000 B=true)(J:A.length<=1000000000)(tA:aW A=A)(Y:aW B=B):
  kO prog 228 [.slice 0 0 A.length none,.slice 1 0 B.length none] [.cells false 1 (iN .i64 A),.cells false 1 (iN .i64 B)] (.bool (decide (ao 10000 A<ao 10000 B))) [.cells false 1 (iN .i64 A),.cells false 1 (iN .i64 B)]:=by
 have S:aZ prog 228=some f228:=by kernel_rfl
 obtain⟨b,R⟩:∃b,ag f228=[b]:=⟨_,rfl⟩
 refine dv (lv:=(fun _=>[5])) (K:=(A.length+1)) (az _) ?_;have L:dig 10000 (ao 10000 A)=A:=by rw[dV (by omega) H,tA]
 have G:dig 10000 (ao 10000 B)=B:=by rw[dV (by omega) I,Y]
 by_cases N:A.length=B.length
 .have Z:=BN (O:=cO) (K:=A.length+1) (lv:=fun _=>[5]) A B H I J N (by omega) R rfl
  simp[ag,aE,f228] at R;subst R;obtain⟨F,Z⟩:=Z;have C:IntKind.i64.wrap ((B.length:Int)-1)=(B.length:Int)-1:=af;by_cases X:A=B
  .subst X
   have V:¬ao 10000 A<ao 10000 A:=by omega
   rw[if_pos rfl] at Z;simp[ae,S,f228,Z,C,V]
  .rw[if_neg X] at Z
   simp only[N] at Z;simp[ae,S,f228,Z,N,C,X]
 .have U :¬((A.length:Int)=B.length):=by omega
  by_cases M:A.length<B.length
  .have u:ao 10000 A<ao 10000 B:=dU (B:=10000) (by omega) (by rw[L,G];exact M)
   have V:=u;simp[ae,S,f228,U,M,V]
  .have u:ao 10000 B<ao 10000 A:=dU (B:=10000) (by omega) (by rw[L,G];omega)
   have V:¬ao 10000 A<ao 10000 B:=by omega
   simp[ae,S,f228,U,M,V]
def caM(A:List Int):List Nat->Mem
 | []=>[.cells false 1 (iZ A)]
 |x::l=>[.cells false 1 (iZ A),.cells true 1 (iN .i64 (x::l))]
def caO:List Nat->AV
 | []=>.qF
 |_::l=>.slice 1 0 (l.length+1) none
def caC:Nat:=1000000000001
theorem XT:1000000000000<caC:=by decide
theorem Bk(A:List Int)(hA:0<=jX 10000 A)(hb:∀d∈A,d.natAbs<=1000000000000)(hl:A.length<=10000000)(hK:A.length*caC+caC<K)(H:ag f269=[b]):
  ∃F:Env->Bool->Env×Mem×List Nat,∀V d,(ad V 0=.slice 0 0 A.length none/\ad V 3=.qF/\ad V 4=.int .i64 0/\ad V 5=.int .i64 0)->
   aL (aX prog) (fun _=>[3,4,5]) O K 43 1 true (.loop b) ⟨V,caM A [],d⟩=some (.exit 0,⟨(F V d).1,(F V d).2.1,d⟩)/\
   ((F V d).2.1=caM A (F V d).2.2/\ad (F V d).1 3=caO (F V d).2.2/\aW (F V d).2.2=dig 10000 (jX 10000 A).toNat/\A.length<=(F V d).2.2.length/\(F V d).2.2.length<=2000000000000):=by
 refine pL (β:=List Nat) rfl (fun V=>ad V 0=.slice 0 0 A.length none/\ad V 3=.qF/\ad V 4=.int .i64 0/\ad V 5=.int .i64 0)
  (fun _ D' Y X=>Y =caM A X/\ad D' 3=caO X/\aW X=dig 10000 (jX 10000 A).toNat/\A.length<=X.length/\X.length<=2000000000000) ?_
 rintro V d ⟨h0,h3,h4,h5⟩;have o:an [3,4,5] (aa b) V ((3,caO [])::(4,.int .i64 0)::(5,.int .i64 ((0:Nat):Int))::V)=an [3,4,5] (aa b) V V:=by simp[an,h3,h4,h5,caO]
 rw[<-o];refine nY (α:=Nat×Int×List Nat) (fun s=>⟨an [3,4,5] (aa b) V ((3,caO s.2.2)::(4,.int .i64 s.2.1)::(5,.int .i64 (s.1:Int))::V),caM A s.2.2,d⟩)
  (fun s=>(A.length-s.1)*caC+s.2.1.natAbs) (fun s=>afT A s.1 s.2.1 s.2.2) (.exit 0) d _ (by simp) ?_ K (0,0,[]) (afT.start A) (by show(A.length-0)*caC+0<K;rw[QXQ];omega)
 rintro ⟨i,Z,X⟩ hI;simp only at hI |-;clear o;have b1:=hI.b1;have b2:=hI.b2;have B:=hI.len;simp[ag,aE,f269] at H;by_cases j:i<A.length
 .left
  obtain⟨x,hx⟩:∃x,A[i]? =some x:=⟨A[i],by simp[j]⟩
  have I :A[i]=x:=by have:=G2 j;rw[hx] at this;exact(QQX this).symm
  have ZL:=hb x (J1 hx);have u:=hI.next hx ZL;have G:=u.b1;refine⟨(i+1,(Z+x) / 10000,X++[((Z+x)%10000).toNat]),?_⟩;refine bU (show afT A (i+1) _ _/\_ from⟨u,by
   have:=XT;show(A.length-(i+1))*caC+((Z+x) / 10000).natAbs<(A.length-i)*caC+Z.natAbs
   have e:A.length-i=A.length-(i+1)+1:=by omega
   rw[e,Nat.add_mul,Nat.one_mul];generalize (A.length-(i+1))*caC=p;omega⟩) ?_
  clear u;obtain⟨s,hs⟩:=xE (Z+x);have w1:IntKind.i64.wrap (Z+x)=s:=by rw[<-hs];exact af
  rw[<-hs] at G |-;have R:=zE s;have M:=PK s;obtain⟨n,o⟩:∃n:Nat,(n:Int)=s%10000:=⟨(s%10000).toNat,QQi (by omega)⟩
  rw[<-o] at R M |-;rw[Int.toNat_natCast];obtain⟨q,hq⟩:=xE (s / 10000);rw[<-hq] at G M |-;obtain⟨m,L⟩:=xE (s.tmod 10000);rw[<-L] at R;have hmb:m.natAbs<10000:=by rw[L,Int.natAbs_tmod];exact Nat.mod_lt _ (by decide)
  have w2:IntKind.i64.wrap (m+10000)=m+10000:=af;have w3:IntKind.i64.wrap (s-(n:Int))=s-(n:Int):=af;have w6:IntKind.i64.wrap (n:Int)=(n:Int):=af;have w4:IntKind.i64.wrap q=q:=af;have w5:IntKind.i64.wrap ((i:Int)+1)=((i+1:Nat):Int):=by rw[af];omega
  have S:(i:Int)<(A.length:Int):=by omega
  subst H;cases X with
  |nil=>
   simp only[List.length_nil] at B;by_cases U:m<0
   .rw[if_pos U] at R
    simp[caM,caO,h0,j,S,I,w1,<-L,U,R,w3,M,w4,w5,w6,cr]
   .rw[if_neg U] at R
    have N:¬(n:Int)<0:=by omega
    simp[caM,caO,h0,j,S,I,w1,<-L,N,R,w3,M,w4,w5,cr]
  |cons y l=>
   simp only[List.length_cons] at B;have ht:(iN .i64 l).take l.length=iN .i64 l:=B5 (by simp);have ZA:(l.length+1+1)*8<=140737488355328:=by omega
   have C:l.length+1+1<=140737488355328:=by omega
   by_cases U:m<0
   .rw[if_pos U] at R
    simp[caM,caO,h0,j,S,I,w1,<-L,U,R,w3,M,w4,w5,w6,ht,ZA,C,cr,dE]
   .rw[if_neg U] at R
    have N:¬(n:Int)<0:=by omega
    simp[caM,caO,h0,j,S,I,w1,<-L,N,R,w3,M,w4,w5,ht,ZA,C,cr,dE]
 .have S:¬(i:Int)<(A.length:Int):=by omega
  by_cases ho:Z=0
  .right
   subst ho;have J:=hI.done (by omega);have hl1:A.length<=X.length:=by omega
   have ZB:X.length<=2000000000000:=by omega
   clear hI b1 b2;subst H;cases X with
   |nil=>
    simp only[List.length_nil] at B;subst B;have hA0:A.length=0:=by omega
    simp[caM,caO,h0,hA0];exact⟨_,_,⟨rfl,rfl⟩,[],rfl,rfl,J,ZB⟩
   |cons y l=>
    simp only[List.length_cons] at B;simp[caM,caO,h0,S];exact⟨_,_,⟨rfl,rfl⟩,y::l,rfl,rfl,J,hl1,ZB⟩
  .left
   have u:=hI.more (by omega) hA ho;have h00:=hI.ovr (by omega) hA;have G:=u.b1;refine⟨(i+1,Z / 10000,X++[(Z%10000).toNat]),?_⟩;refine bU (show afT A (i+1) _ _/\_ from⟨u,by
    show(A.length-(i+1))*caC+(Z / 10000).natAbs<(A.length-i)*caC+Z.natAbs
    have e:A.length-i=A.length-(i+1):=by omega
    rw[e];generalize (A.length-(i+1))*caC=p;omega⟩) ?_
   clear u;have R:=zE Z;have M:=PK Z;obtain⟨n,o⟩:∃n:Nat,(n:Int)=Z%10000:=⟨(Z%10000).toNat,QQi (by omega)⟩
   rw[<-o] at R M |-;rw[Int.toNat_natCast];obtain⟨q,hq⟩:=xE (Z / 10000);rw[<-hq] at G M |-;obtain⟨m,L⟩:=xE (Z.tmod 10000);rw[<-L] at R;have hmb:0<=m:=by rw[L];exact Int.tmod_nonneg _ h00
   have U:¬m<0:=by omega
   rw[if_neg U] at R;have N:¬(n:Int)<0:=by omega
   have w3:IntKind.i64.wrap (Z-(n:Int))=Z-(n:Int):=af;have w6:IntKind.i64.wrap (n:Int)=(n:Int):=af;have w4:IntKind.i64.wrap q=q:=af;have w5:IntKind.i64.wrap ((i:Int)+1)=((i+1:Nat):Int):=by rw[af];omega
   subst H;cases X with
   |nil=>
    simp only[List.length_nil] at B;simp[caM,caO,h0,S,ho,<-L,N,R,w3,M,w4,w5,cr]
   |cons y l=>
    simp only[List.length_cons] at B;have ht:(iN .i64 l).take l.length=iN .i64 l:=B5 (by simp);have ZA:(l.length+1+1)*8<=140737488355328:=by omega
    have C:l.length+1+1<=140737488355328:=by omega
    simp[caM,caO,h0,S,ho,<-L,N,R,w3,M,w4,w5,ht,ZA,C,cr,dE]
variable{M:Mem}{x:AV}
theorem M5{A:List Nat}(H:A.length<=4000000000000)(I:afw .i64 M x A):∃b,x=.slice b 0 A.length none/\kO prog 267 [x] M (.slice b 0 (aW A).length none) M:=by obtain⟨b,e,h⟩:=kO.agU (new:=[]) (rest:=[]) rfl rfl (Qv A H) I;refine⟨b,e,?_⟩;simpa [AV.ren,fA] using h
theorem FI(M:Mem):kO prog 267 [.qF] M .qF M:=by
 have Z:aZ prog 267=some f267:=by kernel_rfl
 refine dc (az _) (lv:=fun _=>[0]) (K:=1) rfl rfl ?_ M;simp[ae,Z,f267,aM,fj]
variable{y:AV}
theorem H9{A B:List Nat}(H:lok 10000 A=true)(I:lok 10000 B=true)(J:A.length<=1000000000)(tA:aW A=A)(Y:aW B=B)(hx:afw .i64 M x A)(hy:afw .i64 M y B):
  kO prog 228 [x,y] M (.bool (decide (ao 10000 A<ao 10000 B))) M:=by
 obtain⟨b,c,Z,X,h⟩:=kO.agi (new:=[]) rfl (M6 A B H I J tA Y) hx hy;simpa [AV.ren] using h
noncomputable def cW:y9:=fun c Z M=>match c,Z with
 |.fn 267,[.qF]=>some ⟨.qF,none,[]⟩
 |.fn 267,[x]=>match x,bd .i64 M x with
  |.slice b _ _ _,some A=>if A.length<=4000000000000 then some ⟨.slice b 0 (aW A).length none,none,[]⟩ else none
  |_,_=>none
 |.fn 228,[x,y]=>match bd .i64 M x,bd .i64 M y with
  |some A,some B=>if lok 10000 A=true/\lok 10000 B=true/\A.length<=1000000000/\aW A=A/\aW B=B then some ⟨.bool (decide (ao 10000 A<ao 10000 B)),none,[]⟩ else none
  |_,_=>none
 |_,_=>none
theorem zd:qS prog cW:=by
 refine cw fun c X M r h=>?_
 unfold cW at h;split at h
 .cases h
  refine au ?_;rw[List.append_nil];exact FI M
 .split at h
  .rename_i Z
   split at h
   .rename_i V
    cases h;obtain⟨b,e,h⟩:=M5 V (bh Z);cases e;refine au ?_;rw[List.append_nil];exact h
   .cases h
  .cases h
 .split at h
  .rename_i Z U
   split at h
   .rename_i S
    obtain⟨R,N,L,G,F⟩:=S;cases h;refine au ?_;rw[List.append_nil];exact H9 R N L G F (bh Z) (bh U)
   .cases h
  .cases h
 .cases h
theorem DF(A:List Int)(H:A≠[])(I:0<=jX 10000 A)(J:∀d∈A,d.natAbs<=1000000000000)(Y:A.length<=10000000):
  ∃X,ae (aX prog) (fun _=>[3,4,5]) (aZ prog) cW (A.length*caC+caC+1) 269 [.slice 0 0 A.length none] [.cells false 1 (iZ A)]=
   some ⟨.slice 1 0 (dig 10000 (jX 10000 A).toNat).length none,none,[.cells true 1 (iN .i64 X)]⟩/\aW X=dig 10000 (jX 10000 A).toNat:=by
 have B:aZ prog 269=some f269:=by kernel_rfl
 obtain⟨b,V⟩:∃b,ag f269=[b]:=⟨_,rfl⟩
 obtain⟨F,S⟩:=Bk (O:=cW) (K:=A.length*caC+caC+1) A I J Y (by omega) V;have U:∀Z d,(ad Z 0=.slice 0 0 A.length none/\ad Z 3=.qF/\ad Z 4=.int .i64 0/\ad Z 5=.int .i64 0)->
   aL (aX prog) (fun _=>[3,4,5]) cW (A.length*caC+caC+1) 43 1 true (.loop b) ⟨Z,[.cells false 1 (iZ A)],d⟩=some (.exit 0,⟨(F Z d).1,[.cells false 1 (iZ A),.cells true 1 (iN .i64 (F Z d).2.2)],d⟩)/\
   ad (F Z d).1 3=.slice 1 0 (F Z d).2.2.length none/\aW (F Z d).2.2=dig 10000 (jX 10000 A).toNat/\(F Z d).2.2.length<=4000000000000:=by
  intro Z d u;obtain⟨R,m,h3,N,L,j⟩:=S Z d u;have G:=List.length_pos_iff.2 H;cases ho:(F Z d).2.2 with
  |nil=>rw[ho] at L;exact absurd (Mp (Nat.le_zero.1 L)) H
  |cons y l=>
   rw[m,ho] at R;rw[ho] at h3 N j;exact⟨R,h3,N,by omega⟩
 clear S;have hs:∀(C:afq) (o:List Nat) l,bd .i64 (C::.cells true 1 (iN .i64 o)::l) (.slice 1 0 o.length none)=some o:=fun C o l=>aU rfl (by simp) (B5 (by simp))
 obtain⟨K,hK⟩:=xE (A.length*caC+caC+1);rw[<-hK] at U |-;simp[ag,aE,f269] at V;subst V;simp[ae,B,f269,cW,U,hs];exact⟨_,rfl,(U _ _ ⟨rfl,rfl,rfl,rfl⟩).2.2.1⟩
theorem Hw{A:List Int}(I:A≠[])(J:0<=jX 10000 A)(H:∀d∈A,d.natAbs<=1000000000000)(Y:A.length<=10000000)(hx:YQ M x A):
  kO prog 269 [x] M (.slice M.length 0 (dig 10000 (jX 10000 A).toNat).length none) (M++[.cells true 1 (iN .i64 (dig 10000 (jX 10000 A).toNat))]):=by
 obtain⟨Z,X,V⟩:=DF A I J H Y;have h3:=(aB aj (aI _) zd (aQ _) X).1;simp only[afl.mem,Option.getD_none,List.cons_append,List.nil_append] at h3;have U:=kO.agn (m2:=[.cells false 1 (iZ A),.cells true 1 (iN .i64 (dig 10000 (jX 10000 A).toNat))]) h3 rfl (fun b s H=>by
  match b with
  |0=>simp at H;subst H;exact⟨_,rfl,.inl rfl⟩
  |1=>simp at H;subst H;exact⟨_,rfl,.row (by rw[<-V];exact dG _)⟩
  |b+2=>simp at H)
 obtain⟨b,rfl,S⟩:=kO.ahv (new:=[.cells true 1 (iN .i64 (dig 10000 (jX 10000 A).toNat))]) (rest:=[]) rfl rfl U hx;simpa [AV.ren,fA] using S
def zsm(A:List Int):Bool:=A.all fun d=>decide (d.natAbs<=1000000000000)
noncomputable def cL:y9:=fun c Z M=>match c,Z with
 |.fn 269,[x]=>match zD M x with
  |some A=>if A≠[]/\0<=jX 10000 A/\zsm A=true/\A.length<=10000000 then some ⟨.slice M.length 0 (dig 10000 (jX 10000 A).toNat).length none,none,[.cells true 1 (iN .i64 (dig 10000 (jX 10000 A).toNat))]⟩ else none
  |none=>none
 |c,Z=>cW c Z M
theorem mH:qS prog cL:=by
 refine cw fun c Z M r h=>?_
 unfold cL at h;split at h
 .split at h
  .rename_i X
   split at h
   .rename_i V
    obtain⟨U,S,R,N⟩:=V;cases h;exact au (Hw U S (fun d L=>by simpa using List.all_eq_true.1 R d L) N (OS X))
   .cases h
  .cases h
 .exact ee zd h
def jM(H:afq)(A B:List Nat)(k:Int)(i:Nat):Mem:=
 if A.length<i then [H,.cells false 1 (iN .i64 B),.qK,.qK,.cells true 1 (iZ (jn k A (B.take i)))]
 else [H,.cells false 1 (iN .i64 B),.qK,.cells true 1 (iZ (jn k A (B.take i)))]
def jO(A:List Nat)(n i:Nat):AV:=if A.length<i then .slice 4 0 n none else .slice 3 0 n none
def j8(c:Code):List Nat:=if (aa c).contains 10 then [9,10] else [9]
theorem z8(X:List Nat)(A B:List Nat)(k:Int)(hA:lok 10000 A=true)(hB:lok 10000 B=true)(hk:k.natAbs<=10000)(hl:A.length<=1000000)(ZB:B.length<=1000000)(hK:B.length+1<K+2){b2:Code}(H:ag f227=[b,b2]):
  ∃F:Env->Bool->Env,∀Z d,(ad Z 1=.slice 1 0 B.length none/\ad Z 2=.int .i64 k/\ad Z 3=.int .i64 0/\ad Z 9=.slice 3 0 A.length none/\ad Z 10=.int .i64 0)->
   aL (aX prog) j8 O (K+2) 45 2 true (.loop b) ⟨Z,[.cells false 1 (iN .i64 X),.cells false 1 (iN .i64 B),.qK,.cells true 1 (iN .i64 A)],d⟩=some (.exit 0,⟨F Z d,jM (.cells false 1 (iN .i64 X)) A B k B.length,d⟩)/\
   ad (F Z d) 9=jO A (jn k A B).length B.length:=by
 have Zz:j8 b=[9,10]:=by simp[ag,aE,f227] at H;obtain⟨rfl,rfl⟩:=H;decide
 refine bj Zz (fun Z=>ad Z 1=.slice 1 0 B.length none/\ad Z 2=.int .i64 k/\ad Z 3=.int .i64 0/\ad Z 9=.slice 3 0 A.length none/\ad Z 10=.int .i64 0)
  (fun _ D' =>ad D' 9=jO A (jn k A B).length B.length) ?_
 rintro Z d ⟨h1,h2,h3,h9,h10⟩;have hn:an [9,10] (aa b) Z ((9,jO A (jn k A (B.take 0)).length 0)::(10,.int .i64 ((0:Nat):Int))::Z)=an [9,10] (aa b) Z Z:=by simp[an,h9,h10,jO,ET,UG]
 have Z0:jM (.cells false 1 (iN .i64 X)) A B k 0=[.cells false 1 (iN .i64 X),.cells false 1 (iN .i64 B),.qK,.cells true 1 (iN .i64 A)]:=by unfold jM;rw[if_neg (by omega),List.take_zero,ET];exact congrArg (fun r=>[_,_,_,afq.cells true 1 r]) (YY A).symm
 rw[<-hn,<-Z0];refine bI (α:=Nat) (fun i=>⟨an [9,10] (aa b) Z ((9,jO A (jn k A (B.take i)).length i)::(10,.int .i64 (i:Int))::Z),jM (.cells false 1 (iN .i64 X)) A B k i,d⟩)
  (fun i=>B.length-i) (fun i=>i<=B.length) (.exit 0) _ d _ (by simp) ?_ (K+2) 0 (Nat.zero_le _) (by simp only[QXQ];omega)
 intro i hi;clear hn Z0;simp[ag,aE,f227] at H;by_cases hib:i=B.length
 .right
  subst hib;rw[P1];obtain⟨rfl,rfl⟩:=H;by_cases I:A.length<B.length
  .simp[jM,jO,I,h1,P1]
  .simp[jM,jO,I,h1,P1]
 .left
  have FS:i<B.length:=by omega
  obtain⟨x,hx,Zw⟩:=de FS;obtain⟨y,U,S⟩:=On k A B i x hx;have hjl:=rY k A (B.take i);have adC:=rY k A (B.take (i+1));rw[SP,Nat.min_eq_left (by omega)] at hjl adC;have ZL:=fa hB hx;have G:=AS hk hA (jJ hB i);obtain⟨J,hJ⟩:=xE (jn k A (B.take i));obtain⟨J2,N⟩:=xE (jn k A (B.take (i+1)));rw[<-hJ] at hjl U S G;rw[<-N] at adC S;have hyb:y.natAbs<=1000000000:=by
   split at U
   .rcases List.mem_append.1 (J1 U) with h | h
    .exact G y h
    .simp at h;subst h;decide
   .exact G y (J1 U)
  have hkx:(k*(x:Int)).natAbs<=10000*10000:=by rw[QQl,Int.natAbs_natCast];exact Nat.mul_le_mul hk (by omega)
  obtain⟨p,hp⟩:=xE (k*(x:Int));have w1:IntKind.i64.wrap (k*(x:Int))=p:=by rw[<-hp];exact af
  rw[<-hp] at S hkx;have w2:IntKind.i64.wrap (y+p)=y+p:=af;have w3:IntKind.i64.wrap (i:Int)=(i:Int):=af;have w4:IntKind.i64.wrap ((i:Int)+1)=((i+1:Nat):Int):=by rw[af];omega
  have C:(i:Int)<(B.length:Int):=by omega
  obtain⟨R,V⟩:=xE (if J.length<=i then J++[0] else J);rw[<-V] at U S;have hi1:i<R.length:=gL U;have u :R[i]=y:=(O2.1 U).2;have Zy:(iZ R).take i++.int .i64 (y+p)::(iZ R).drop (i+1)=iZ J2:=by rw[Pk _ _ _ hi1,S]
  have aej:R.length=J2.length:=by rw[<-S,QQh]
  have aek:(i:Int)<(R.length:Int):=by omega
  obtain⟨rfl,rfl⟩:=H;refine⟨i+1,?_⟩;refine bt (show i+1<=B.length/\_ from⟨FS,by omega⟩) ?_;have hii:¬((i:Int)+1<=(i:Int)):=by omega
  have adD:(i:Int)<(i:Int)+1:=by omega
  have hc1:(i+1)*8<=140737488355328:=by omega
  have hc2:i<=140737488355327:=by omega
  rcases Nat.lt_trichotomy A.length i with I | I | I
  .have L:J.length=i:=by omega
   rw[if_pos (by omega)] at V;have o:iZ J++[AV.int .i64 0]=iZ R:=by rw[V,Cq];rfl
   have m:(iZ J).take i=iZ J:=B5 (by simp[L]);have j:R.length=i+1:=by rw[V];simp[L]
   have hs2:A.length<i+1:=by omega
   have Y :J2.length=i+1:=by omega
   simp[jM,jO,I,hs2,<-hJ,<-N,L,j,Y,h1,h2,h3,C,FS,w3,aM,fj,j8,o,m,Zw,u,w1,w2,Zy,w4,hc1,hc2,hii,adD,Nat.testBit]
  .have L:J.length=i:=by omega
   rw[if_pos (by omega)] at V;have o:iZ J++[AV.int .i64 0]=iZ R:=by rw[V,Cq];rfl
   have m:(iZ J).take i=iZ J:=B5 (by simp[L]);have j:R.length=i+1:=by rw[V];simp[L]
   have hs1:¬A.length<i:=by omega
   have hs2:A.length<i+1:=by omega
   have Y :J2.length=i+1:=by omega
   simp[jM,jO,hs1,hs2,<-hJ,<-N,L,j,Y,h1,h2,h3,C,FS,w3,aM,fj,j8,o,m,Zw,u,w1,w2,Zy,w4,hc1,hc2,hii,adD,Nat.testBit]
  .have L:¬J.length<=i:=by omega
   rw[if_neg L] at V;subst V;have hs1:¬A.length<i:=by omega
   have hs2:¬A.length<i+1:=by omega
   have ac8:¬(R.length:Int)<=(i:Int):=by omega
   have ael :i+1<=R.length:=by omega
   simp[jM,jO,hs1,hs2,<-hJ,<-N,ac8,<-aej,h1,h2,h3,C,aek,hi1,ael,FS,w3,aM,fj,j8,Zw,u,w1,w2,Zy,w4,Nat.testBit]
theorem rE(X A B:List Nat)(k:Int)(p:AV)(hp:(p=.slice 0 0 A.length none/\X=A)\/(p=.qF/\A=[]))(J':A≠[]\/B≠[])(hA:lok 10000 A=true)(hB:lok 10000 B=true)(hk:k.natAbs<=10000)(hl:A.length<=1000000)(ZB:B.length<=1000000)(H:0<=(ao 10000 A:Int)+k*(ao 10000 B:Int)):
  ae (aX prog) j8 (aZ prog) cL (B.length+2) 227 [p,.slice 1 0 B.length none,.int .i64 k,.int .i64 0] [.cells false 1 (iN .i64 X),.cells false 1 (iN .i64 B)]=
   some ⟨.slice 2 0 (dig 10000 ((ao 10000 A:Int)+k*(ao 10000 B:Int)).toNat).length none,none,[.cells true 1 (iN .i64 (dig 10000 ((ao 10000 A:Int)+k*(ao 10000 B:Int)).toNat))]⟩:=by
 have I:aZ prog 227=some f227:=by kernel_rfl
 obtain⟨b,b2,S'⟩:∃b b2,ag f227=[b,b2]:=⟨_,_,rfl⟩
 obtain⟨F,Z⟩:=z8 (O:=cL) (K:=B.length) X A B k hA hB hk hl ZB (by omega) S';have V:=rY k A B;have R:=OW k A B;have N:=AS hk hA hB;have j :zsm (jn k A B)=true:=List.all_eq_true.2 fun d hd=>by have:=N d hd;simp;omega
 have U:jn k A B≠[]:=by
  intro e;rw[e] at V;rcases J' with h | h
  .have:=List.length_pos_iff.2 h;simp at V;omega
  .have:=List.length_pos_iff.2 h;simp at V;omega
 rw[<-R] at H |-;unfold jM jO at Z;rw[P1] at Z;obtain⟨J,hJ⟩:=xE (jn k A B);rw[<-hJ] at Z V N U H j |-;have S:J.length<=10000000:=by omega
 have L:(iN .i64 A).take A.length=iN .i64 A:=B5 (by simp);have G:∀(C u o a3:afq) l,zD (C::u::o::a3::.cells true 1 (iZ J)::l) (.slice 4 0 J.length none)=some J:=fun C u o a3 l=>Dg rfl (by simp) (B5 (by simp))
 have hz3:∀(C u o:afq) l,zD (C::u::o::.cells true 1 (iZ J)::l) (.slice 3 0 J.length none)=some J:=fun C u o l=>Dg rfl (by simp) (B5 (by simp))
 have ZA:A.length*8<=140737488355328:=by omega
 have m:A.length<=140737488355328:=by omega
 obtain⟨D,Y⟩:=xE (dig 10000 (jX 10000 J).toNat);rw[<-Y];clear R hJ;simp[ag,aE,f227] at S';obtain⟨rfl,rfl⟩:=S';by_cases hs:A.length<B.length
 .simp only[if_pos hs] at Z
  rcases hp with⟨rfl,rfl⟩ | ⟨rfl,rfl⟩
  .simp[ae,I,f227,L,ZA,m,Z,cL,G,U,H,j,S,<-Y]
  .simp only[List.length_nil,Pj] at Z
   simp[ae,I,f227,Z,cL,G,U,H,j,S,<-Y]
 .simp only[if_neg hs] at Z
  rcases hp with⟨rfl,rfl⟩ | ⟨rfl,rfl⟩
  .simp[ae,I,f227,L,ZA,m,Z,cL,hz3,U,H,j,S,<-Y]
  .exfalso
   simp only[List.length_nil] at hs;rcases J' with h | h
   .exact h rfl
   .have:=List.length_pos_iff.2 h;omega
theorem vO{A B:List Nat}(k:Int)(hx:afw .i64 M x A\/(x=.qF/\A=[]))(hy:afw .i64 M y B)(H:A≠[]\/B≠[])(I:lok 10000 A=true)(J:lok 10000 B=true)(Y:k.natAbs<=10000)(hl:A.length<=1000000)(ZB:B.length<=1000000)(hv:0<=(ao 10000 A:Int)+k*(ao 10000 B:Int)):
  kO prog 227 [x,y,.int .i64 k,.int .i64 0] M (.slice M.length 0 (dig 10000 ((ao 10000 A:Int)+k*(ao 10000 B:Int)).toNat).length none) (M++[.cells true 1 (iN .i64 (dig 10000 ((ao 10000 A:Int)+k*(ao 10000 B:Int)).toNat))]):=by
 obtain⟨D,U⟩:=xE (dig 10000 ((ao 10000 A:Int)+k*(ao 10000 B:Int)).toNat);obtain⟨c,G,F,rfl,V,X⟩:=hy;have S :=gL V;rw[<-U];rcases hx with⟨b,o,C,rfl,R,N⟩ | ⟨rfl,rfl⟩
 .have L:=gL R
  have h:=(aB aj (aI _) mH (aQ _) (rE A A B k _ (.inl ⟨rfl,rfl⟩) H I J Y hl ZB hv)).1;rw[<-U] at h;have:=kO.frame (M:=M) [b,c] (m:=[.cells false 1 (iN .i64 A),.cells false 1 (iN .i64 B)]) (new:=[.cells true 1 (iN .i64 D)]) rfl (by simp[L,S]) (by simp) (fun i s Z=>by
   match i with
   |0=>simp at Z;subst Z;exact .row R N
   |1=>simp at Z;subst Z;exact .row V X
   |i+2=>simp at Z) rfl h
  simpa [AV.afI,AV.ren,fA] using this
 .have h:=(aB aj (aI _) mH (aQ _) (rE B [] B k _ (.inr ⟨rfl,rfl⟩) H I J Y hl ZB hv)).1
  rw[<-U] at h;have:=kO.frame (M:=M) [c,c] (m:=[.cells false 1 (iN .i64 B),.cells false 1 (iN .i64 B)]) (new:=[.cells true 1 (iN .i64 D)]) rfl (by simp[S]) (by simp) (fun i s Z=>by
   match i with
   |0=>simp at Z;subst Z;exact .row V X
   |1=>simp at Z;subst Z;exact .row V X
   |i+2=>simp at Z) rfl h
  simpa [AV.afI,AV.ren,fA] using this
end Go.Proofs
