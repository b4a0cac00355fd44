/- See D38. -/
import Derived.Test.YthpgbelancmpjaaGreatDoorD16
import Derived.Test.YthpgbelancmpjaaGreatDoorD05
set_option linter.all false
set_option maxRecDepth 100000
set_option maxHeartbeats 40000000
namespace Go.Eng
def jX(B:Int):List Int->Int
 | []=>0
 |d::l=>d+B*jX B l
theorem vv(B:Int):∀(l r:List Int),jX B (l++r)=jX B l+B ^ l.length*jX B r
 | [],r=>by simp[jX]
 |d::l,r=>by rw[List.cons_append,jX,jX,vv B l r,List.length_cons,Int.pow_succ,Int.mul_add,Int.add_assoc];congr 2;rw[<-Int.mul_assoc,Int.mul_comm (B ^ l.length) B]
variable{d:Int}
theorem Uo{B:Int}{l:List Int}{j:Nat}(h:l[j]? =some d):jX B (l.drop j)=d+B*jX B (l.drop (j+1)):=by obtain⟨Z,rfl⟩:=Ns.1 h;rw[N0 Z];rfl
def Uv(l:List Nat):List Int:=l.map fun n:Nat=>(n:Int)
theorem Mu(B:Nat):∀l:List Nat,jX B (Uv l)=(aq B l:Int)
 | []=>rfl
 |d::l=>by
  show(d:Int)+B*jX B (Uv l)=((d+B*aq B l:Nat):Int)
  rw[Mu B l];simp
theorem my(B:Int):∀n,jX B (List.replicate n 0)=0
 |0=>rfl
 |n+1=>by rw[List.replicate_succ,jX,my B n];simp
theorem zj(s:Int):(if s.tmod 10000<0 then s.tmod 10000+10000 else s.tmod 10000)=s%10000:=by rw[Int.tmod_eq_emod];split<;>split<;>omega
theorem Py(s:Int):(s-s%10000).tdiv 10000=s / 10000:=by
 have h:s-s%10000=10000*(s / 10000):=by omega
 rw[h,Int.mul_comm,Int.mul_tdiv_cancel _ (by omega)]
structure afN (A:List Int)(i:Nat)(over:Int)(out:List Nat):Prop where
 len:out.length=i
 ok:lok 10000 out=true
 val:(aq 10000 out:Int)+10000 ^ i*(jX 10000 (A.drop i)+over)=jX 10000 A
 b1:over.natAbs<=1000000000000
 b2:i+over.natAbs<=A.length+1000000000000
theorem afN.start(A:List Int):afN A 0 0 []:=⟨rfl,rfl,by simp[aq],by simp,by simp⟩
variable{A:List Int}{i:Nat}{out:List Nat}{over:Int}
theorem KX{s:Int}(h:afN A i over out)(hs:jX 10000 (A.drop i)+over=s+10000*jX 10000 (A.drop (i+1))):
  (aq 10000 (out++[(s%10000).toNat]):Int)+10000 ^ (i+1)*(jX 10000 (A.drop (i+1))+s / 10000)=jX 10000 A:=by
 rw[<-h.val,hs,LG,h.len];have X:((s%10000).toNat:Int)=s%10000:=QQd (by omega);rw[Int.natCast_add,Int.natCast_mul,X,Int.natCast_pow];have Z:s=s%10000+10000*(s / 10000):=by omega
 have h3:(10000:Int) ^ (i+1)=10000 ^ i*10000:=Int.pow_succ ..;rw[h3];generalize (10000:Int) ^ i=p;generalize jX 10000 (A.drop (i+1))=z;generalize s%10000=m at Z;generalize s / 10000=q at Z;subst Z
 grind
section
variable (h:afN A i over out)
include h
theorem afN.agO(s:Int):lok 10000 (out++[(s%10000).toNat])=true:=by
 rw[od,h.ok];have:(s%10000).toNat<10000:=by omega
 simp[lok,this]
theorem afN.next(hd:A[i]? =some d)(H:d.natAbs<=1000000000000):
  afN A (i+1) ((over+d) / 10000) (out++[((over+d)%10000).toNat]):=by
 have Z:=gL hd;have:=h.b1;refine⟨by simp[h.len],h.agO _,KX h ?_,by omega,by omega⟩;rw[Uo hd];omega
section
variable (hi:A.length<=i)(hA:0<=jX 10000 A)
include hi hA
theorem afN.ovr:0<=over:=by
 have X:A.drop i=[]:=ZN hi;have Z:=h.val;rw[X] at Z;have V:jX 10000 []=0:=rfl;rw[V,Int.zero_add] at Z;have U:=ia h.ok;rw[h.len] at U;have S :(aq 10000 out:Int)<10000 ^ i:=by have:((10000 ^ i:Nat):Int)=(10000:Int) ^ i:=Int.natCast_pow ..;rw[<-this];omega
 rcases Int.lt_or_le over 0 with h0 | h0
 .exfalso
  have R:(0:Int)<10000 ^ i:=Int.pow_pos (by omega);generalize (10000:Int) ^ i=p at*;have:p*over<=p*(-1):=Int.mul_le_mul_of_nonneg_left (by omega) (by omega);omega
 .exact h0
theorem afN.more(H:over≠0):
  afN A (i+1) (over / 10000) (out++[(over%10000).toNat]):=by
 have V:=h.ovr hi hA;have:=h.b1;have:=h.b2;have X:A.drop i=[]:=ZN hi;have Z:A.drop (i+1)=[]:=ZN (by omega);refine⟨by simp[h.len],h.agO _,KX h ?_,by omega,by omega⟩;rw[X,Z];show 0+over=over+10000*0
 omega
end
end
theorem afN.done(h:afN A i 0 out)(H:A.length<=i):aW out=dig 10000 (jX 10000 A).toNat:=by have X:A.drop i=[]:=ZN H;have Z:=h.val;rw[X] at Z;have V:jX 10000 []=0:=rfl;rw[V,Int.zero_add,Int.mul_zero,Int.add_zero] at Z;rw[<-Z,Int.toNat_natCast,dS (by omega) h.ok]
def jn(k:Int):List Nat->List Nat->List Int
 |a,[]=>Uv a
 | [],b::bs=>(k*(b:Int))::jn k [] bs
 |a::al,b::bs=>((a:Int)+k*(b:Int))::jn k al bs
theorem EF(k:Int)(a:List Nat):jn k a []=Uv a:=by cases a<;>rfl
theorem OP(k:Int):∀(a b:List Nat),jX 10000 (jn k a b)=(aq 10000 a:Int)+k*(aq 10000 b:Int)
 |a,[]=>by rw[EF];have:=Mu 10000 a;rw[show((10000:Nat):Int)=10000 from rfl] at this;rw[this];simp[aq]
 | [],b::Z=>by
  rw[jn,jX,OP k [] Z];simp only[aq,Int.natCast_add,Int.natCast_mul];show k*(b:Int)+10000*(((0:Nat):Int)+k*(aq 10000 Z:Int))=((0:Nat):Int)+k*((b:Int)+(10000:Int)*(aq 10000 Z:Int))
  grind
 |a::X,b::Z=>by
  rw[jn,jX,OP k X Z,aq,aq,Int.natCast_add,Int.natCast_mul,Int.natCast_add,Int.natCast_mul];show(a:Int)+k*(b:Int)+10000*((aq 10000 X:Int)+k*(aq 10000 Z:Int))=(a:Int)+(10000:Int)*(aq 10000 X:Int)+k*((b:Int)+(10000:Int)*(aq 10000 Z:Int))
  grind
theorem rX(k:Int):∀(a b:List Nat),(jn k a b).length=max a.length b.length
 |a,[]=>by rw[EF];simp[Uv]
 | [],b::bs=>by rw[jn,List.length_cons,rX k [] bs];simp
 |a::al,b::bs=>by rw[jn,List.length_cons,rX k al bs];simp only[List.length_cons];omega
theorem AF{k:Int}(H:k.natAbs<=10000):∀{a b:List Nat},lok 10000 a=true->lok 10000 b=true->∀d∈jn k a b,d.natAbs<=1000000000
 |a,[],ha,_,d,hd=>by rw[EF] at hd;simp only[Uv,QQh] at hd;obtain⟨x,Z,rfl⟩:=hd;have:=List.all_eq_true.1 ha x Z;simp at this;omega
 | [],b::bs,ha,hb,d,hd=>by
  rw[jn,List.mem_cons] at hd;rw[cY,C0,Es] at hb;rcases hd with rfl | hd
  .rw[QQg,Int.natAbs_natCast]
   have:k.natAbs*b<=10000*10000:=Nat.mul_le_mul H (by omega);omega
  .exact AF H ha hb.2 d hd
 |a::al,b::bs,ha,hb,d,hd=>by
  rw[jn,List.mem_cons] at hd;rw[cY,C0,Es] at hb ha;rcases hd with rfl | hd
  .have X:(k*(b:Int)).natAbs<=10000*10000:=by rw[QQg,Int.natAbs_natCast];exact Nat.mul_le_mul H (by omega)
   omega
  .exact AF H ha.2 hb.2 d hd
theorem Az(H:Int)(J:List Int)(i:Nat):(if (H::J).length<=i+1 then H::J++[0] else H::J)=H::(if J.length<=i then J++[0] else J):=by simp only[List.length_cons,Nat.add_le_add_iff_right];split<;>rfl
theorem Of(k:Int):∀(A B:List Nat) (i b:Nat),B[i]? =some b->∃x,(if (jn k A (B.take i)).length<=i then jn k A (B.take i)++[0] else jn k A (B.take i))[i]? =some x/\
  (if (jn k A (B.take i)).length<=i then jn k A (B.take i)++[0] else jn k A (B.take i)).set i (x+k*(b:Int))=jn k A (B.take (i+1))
 |_,[],_,_,h=>by simp at h
 |A,c::B,0,b,h=>by
  simp only[List.getElem?_cons_zero,Pi] at h;subst h;rw[List.take_zero,EF];cases A with
  |nil=>exact⟨0,rfl,by simp[jn,Uv]⟩
  |cons a A=>exact⟨a,by simp[Uv],by simp[jn,Uv]⟩
 |A,c::B,i+1,b,h=>by
  simp only[List.getElem?_cons_succ] at h;rw[List.take_succ_cons,List.take_succ_cons];cases A with
  |nil=>
   obtain⟨x,Z,X⟩:=Of k [] B i b h;refine⟨x,?_,?_⟩
   .rw[jn,Az];simpa using Z
   .rw[jn,jn,<-X,Az];simp
  |cons a A=>
   obtain⟨x,Z,X⟩:=Of k A B i b h;refine⟨x,?_,?_⟩
   .rw[jn,Az];simpa using Z
   .rw[jn,jn,<-X,Az];simp
def jv(x:Int):List Nat->List Int->List Int
 | [],o=>o
 |_::_,[]=>[]
 |b::bs,d::o=>(d+x*(b:Int))::jv x bs o
theorem nM(x:Int)(o:List Int):jv x [] o=o:=by cases o<;>rfl
theorem pz(x:Int):∀(b:List Nat) (o:List Int),b.length<=o.length->(jv x b o).length=o.length
 | [],o,_=>by rw[nM]
 |b::bs,[],h=>by simp at h
 |b::bs,d::o,h=>by simp only[List.length_cons,Nat.add_le_add_iff_right] at h;rw[jv,List.length_cons,pz x bs o h,List.length_cons]
theorem Da(x:Int):∀(b:List Nat) (o:List Int),b.length<=o.length->jX 10000 (jv x b o)=jX 10000 o+x*(aq 10000 b:Int)
 | [],o,_=>by rw[nM];simp[aq]
 |b::H,[],h=>by simp at h
 |b::H,d::o,h=>by
  simp only[List.length_cons,Nat.add_le_add_iff_right] at h;rw[jv,jX,Da x H o h,jX,aq,Int.natCast_add,Int.natCast_mul];show d+x*(b:Int)+10000*(jX 10000 o+x*(aq 10000 H:Int))=d+10000*jX 10000 o+x*((b:Int)+(10000:Int)*(aq 10000 H:Int))
  grind
theorem yP{x:Int}{m c:Nat}(hc:10000*10000<=c)(H:x.natAbs<=10000):∀{b:List Nat} {o:List Int},lok 10000 b=true->(∀d∈o,d.natAbs<=m)->∀d∈jv x b o,d.natAbs<=m+c
 | [],o,_,ho,d,Z=>by rw[nM] at Z;have:=ho d Z;omega
 |b::bs,[],_,_,d,Z=>by simp[jv] at Z
 |b::bs,e::o,hb,ho,d,Z=>by
  rw[jv,List.mem_cons] at Z;rw[cY,C0,Es] at hb;rcases Z with rfl | Z
  .have X:(x*(b:Int)).natAbs<=10000*10000:=by rw[QQg,Int.natAbs_natCast];exact Nat.mul_le_mul H (by omega)
   have:=ho e (by simp);omega
  .exact yP hc H hb.2 (fun d Z=>ho d (by simp[Z])) d Z
theorem BR(x:Int):∀(B:List Nat) (o:List Int) (k b:Nat) (y:Int),B[k]? =some b->o[k]? =some y->(jv x (B.take k) o)[k]? =some y/\(jv x (B.take k) o).set k (y+x*(b:Int))=jv x (B.take (k+1)) o
 | [],_,_,_,_,h,_=>by simp at h
 |_::_,[],_,_,_,_,h=>by simp at h
 |c' ::B,d::o,0,b,y,h,hy=>by simp only[List.getElem?_cons_zero,Pi] at h hy;subst h hy;exact⟨rfl,by simp[jv,nM]⟩
 |c::B,d::o,k+1,b,y,h,hy=>by simp only[List.getElem?_cons_succ] at h hy;obtain⟨Z,X⟩:=BR x B o k b y h hy;rw[List.take_succ_cons,List.take_succ_cons,jv,jv];exact⟨by simpa using Z,by simpa using X⟩
def tzR(A B:List Nat):Nat->List Int
 |0=>List.replicate (A.length+B.length) 0
 |i+1=>(tzR A B i).take i++jv ((A.getD i 0:Nat):Int) B ((tzR A B i).drop i)
theorem Hd{A B:List Nat}{c:Nat}(hc:10000*10000<=c)(H:lok 10000 A=true)(I:lok 10000 B=true):∀i,i<=A.length->(tzR A B i).length=A.length+B.length/\jX 10000 (tzR A B i)=(aq 10000 (A.take i):Int)*(aq 10000 B:Int)/\∀d∈tzR A B i,d.natAbs<=i*c
 |0,_=>by refine⟨by simp[tzR],by rw[tzR,my];simp[aq],fun d Z=>?_⟩;rw[tzR] at Z;rw[(List.mem_replicate.1 Z).2];simp
 |i+1,h=>by
  obtain⟨N,U,h3⟩:=Hd hc H I i (by omega);obtain⟨x,X,S⟩:∃x,A[i]? =some x/\A.getD i 0=x:=⟨A[i],by simp,by simp[List.getD,show i<A.length by omega]⟩
  have M:=ff H X;have V:B.length<=((tzR A B i).drop i).length:=by rw[QQj];omega
  rw[tzR,S];refine⟨?_,?_,fun d Z=>?_⟩
  .rw[SP,pz _ _ _ V,S2,QQj];omega
  .rw[vv,Da _ _ _ V,S2,Nat.min_eq_left (by omega)]
   have R:jX 10000 (tzR A B i)=jX 10000 ((tzR A B i).take i)+10000 ^ i*jX 10000 ((tzR A B i).drop i):=by
    conv=>lhs;rw[<-List.take_append_drop i (tzR A B i)]
    rw[vv,S2,Nat.min_eq_left (by omega)]
   have O:A.take (i+1)=A.take i++[x]:=by rw[List.take_add_one,X];rfl
   rw[O,LG,S2,Nat.min_eq_left (by omega),Int.natCast_add,Int.natCast_mul,Int.natCast_pow,Int.add_mul,<-U,R];show _=_+(10000:Int) ^ i*(x:Int)*(aq 10000 B:Int)
   rw[Int.mul_add,Int.mul_assoc,Int.add_assoc]
  .rcases List.mem_append.1 Z with Z | Z
   .have:=h3 d (List.mem_of_mem_take Z)
    rw[Nat.add_mul];omega
   .have:=yP (x:=(x:Int)) (m:=i*c) hc (by omega) I (fun d Z=>h3 d (List.mem_of_mem_drop Z)) d Z
    rw[Nat.add_mul,Nat.one_mul];exact this
end Go.Eng
namespace Go.Proofs
open Go.Eng
open Tryz
variable{K:Nat}{O:y9}{b:Code}{lv:Code->List Nat}
theorem DK(A:List Nat)(W:A.length<=4000000000000)(J:A.length<K)(H:ah f267=[b])(I:lv b=[0]):
  ∃F:Env->Bool->Env,∀Z d,ae Z 0=.slice 0 0 A.length none->
   aU (bd prog) lv O K 21 1 true (.loop b) ⟨Z,[.cells false 1 (iN .i64 A)],d⟩=some (.exit 0,⟨F Z d,[.cells false 1 (iN .i64 A)],d⟩)/\ae (F Z d) 0=.slice 0 0 (aW A).length none:=by
 refine bl I (fun Z=>ae Z 0=.slice 0 0 A.length none) (fun _ L =>ae L 0=.slice 0 0 (aW A).length none) ?_;clear I;intro Z d G;simp[ah,aE,f267] at H;have S:aw [0] (ad b) Z ((0,.slice 0 0 A.length none)::Z)=aw [0] (ad b) Z Z:=by simp[aw,G]
 rw[<-S];refine bG (α:=Nat) (fun n=>⟨aw [0] (ad b) Z ((0,.slice 0 0 n none)::Z),[.cells false 1 (iN .i64 A)],d⟩) id (fun n=>n<=A.length/\aW (A.take n)=aW A) (.exit 0) _ d _ (by simp) ?_ K A.length ⟨L9 _,by rw[P1]⟩ J;rintro n ⟨Z5,hn2⟩;clear S;subst H;cases n with
 |zero=>
  right;rw[<-hn2];simp[aW]
 |succ n=>
  have D:n<A.length:=by omega
  obtain⟨x,V⟩:∃x,A[n]? =some x:=⟨A[n],by simp[D]⟩
  have R:IntKind.i64.wrap (n:Int)=(n:Int):=af;have N:(n:Int)<(n:Int)+1:=by omega
  have M:0<(n:Int)+1:=by omega
  by_cases X:x=0
  .subst X
   left;refine⟨n,?_⟩;have h3:(n:Int)<=(n:Int)+1:=by omega
   have U:n+1<=A.length:=by omega
   simp[R,N,M,h3,U,V];exact⟨by omega,by rw[<-sf V];exact hn2⟩
  .right
   rw[<-hn2,se V X];have U:min (n+1) A.length=n+1:=by omega
   simp[R,N,M,U,V,X]
theorem Qe(A:List Nat)(H:A.length<=4000000000000):kO prog 267 [.slice 0 0 A.length none] [.cells false 1 (iN .i64 A)] (.slice 0 0 (aW A).length none) [.cells false 1 (iN .i64 A)]:=by
 have X:aX prog 267=some f267:=by kernel_rfl
 obtain⟨b,Z⟩:∃b,ah f267=[b]:=⟨_,rfl⟩
 obtain⟨F,V⟩:=DK (O:=cP) (K:=A.length+1) (lv:=fun _=>[0]) A H (by omega) Z rfl;simp[ah,aE,f267] at Z;subst Z;refine dj (lv:=(fun _=>[0])) (K:=(A.length+1)) (az _) ?_;simp[aa,X,f267,V]
theorem BC(A B:List Nat)(W:lok 10000 A=true)(Y:lok 10000 B=true)(hl:A.length<=1000000000)(H:A.length=B.length)(hK:A.length<K)(I:ah f228=[b])(J:lv b=[5]):
  ∃F:Env->Bool->Env,∀Z d,(ae Z 0=.slice 0 0 A.length none/\ae Z 1=.slice 1 0 A.length none/\ae Z 5=.int .i64 ((A.length:Int)-1))->
   aU (bd prog) lv O K 41 2 true (.loop b) ⟨Z,[.cells false 1 (iN .i64 A),.cells false 1 (iN .i64 B)],d⟩=some (if A=B then .exit 0 else .ret,⟨F Z d,[.cells false 1 (iN .i64 A),.cells false 1 (iN .i64 B)],d⟩)/\
    (A≠B->ae (F Z d) 4=.bool (decide (aq 10000 A<aq 10000 B))):=by
 refine bl J (fun Z=>ae Z 0=.slice 0 0 A.length none/\ae Z 1=.slice 1 0 A.length none/\ae Z 5=.int .i64 ((A.length:Int)-1)) (fun _ u =>A≠B->ae u 4=.bool (decide (aq 10000 A<aq 10000 B))) ?_;clear J;rintro Z d ⟨h0,h1,h5⟩;simp[ah,aE,f228] at I;have G:aw [5] (ad b) Z ((5,.int .i64 ((A.length:Int)-1))::Z)=aw [5] (ad b) Z Z:=by simp[aw,h5]
 rw[<-G];refine bG (α:=Nat) (fun n=>⟨aw [5] (ad b) Z ((5,.int .i64 ((n:Int)-1))::Z),[.cells false 1 (iN .i64 A),.cells false 1 (iN .i64 B)],d⟩) id (fun n=>n<=A.length/\A.drop n=B.drop n) (if A=B then .exit 0 else .ret) _ d _ (by split<;>simp) ?_ K A.length ⟨L9 _,by rw[List.drop_length,H,List.drop_length]⟩ hK;rintro n ⟨Z5,hn2⟩;clear G;subst I;cases n with
 |zero=>
  right;rw[List.drop_zero,List.drop_zero] at hn2;simp[hn2]
 |succ n=>
  have N:n<A.length:=by omega
  have V:n<B.length:=by omega
  obtain⟨x,M,D⟩:=dh N;obtain⟨y,R,C⟩:=dh V;have o:(((n+1:Nat):Int)-1)=(n:Int):=by omega
  have m:IntKind.i64.wrap ((n:Int)-1)=(n:Int)-1:=af;rw[o];by_cases U:x=y
  .left
   subst U;refine⟨n,?_⟩;simp[h0,h1,D,C,N,V,m];exact⟨by omega,Lm hn2 M R⟩
  .right
   have j:A≠B:=by rintro rfl;rw[M] at R;cases R;exact U rfl
   have S:=SH W Y H hn2 M R U;have hd:decide (aq 10000 A<aq 10000 B)=decide (x<y):=by
    unfold kx at S;by_cases X:x<y
    .rw[if_pos X] at S
     have:aq 10000 A<aq 10000 B:=by
      rcases Nat.lt_or_ge (aq 10000 A) (aq 10000 B) with h | h
      .exact h
      .rw[if_neg (by omega)] at S;split at S<;>omega
     simp[X,this]
    .rw[if_neg X] at S
     have:¬aq 10000 A<aq 10000 B:=by intro h;rw[if_pos h] at S;omega
     simp[X,this]
   have L :¬((x:Int)=(y:Int)):=by omega
   simp[h0,h1,D,C,N,V,L,j,hd]
theorem MY(A B:List Nat)(H:lok 10000 A=true)(I:lok 10000 B=true)(J:A.length<=1000000000)(tA:aW A=A)(W:aW B=B):
  kO prog 228 [.slice 0 0 A.length none,.slice 1 0 B.length none] [.cells false 1 (iN .i64 A),.cells false 1 (iN .i64 B)] (.bool (decide (aq 10000 A<aq 10000 B))) [.cells false 1 (iN .i64 A),.cells false 1 (iN .i64 B)]:=by
 have S:aX prog 228=some f228:=by kernel_rfl
 obtain⟨b,R⟩:∃b,ah f228=[b]:=⟨_,rfl⟩
 refine dj (lv:=(fun _=>[5])) (K:=(A.length+1)) (az _) ?_;have L:dig 10000 (aq 10000 A)=A:=by rw[dS (by omega) H,tA]
 have G:dig 10000 (aq 10000 B)=B:=by rw[dS (by omega) I,W]
 by_cases N:A.length=B.length
 .have Z:=BC (O:=cP) (K:=A.length+1) (lv:=fun _=>[5]) A B H I J N (by omega) R rfl
  simp[ah,aE,f228] at R;subst R;obtain⟨F,Z⟩:=Z;have D:IntKind.i64.wrap ((B.length:Int)-1)=(B.length:Int)-1:=af;by_cases X:A=B
  .subst X
   have V:¬aq 10000 A<aq 10000 A:=by omega
   rw[if_pos rfl] at Z;simp[aa,S,f228,Z,D,V]
  .rw[if_neg X] at Z
   simp only[N] at Z;simp[aa,S,f228,Z,N,D,X]
 .have U :¬((A.length:Int)=B.length):=by omega
  by_cases M:A.length<B.length
  .have C:aq 10000 A<aq 10000 B:=dR (B:=10000) (by omega) (by rw[L,G];exact M)
   have V:=C;simp[aa,S,f228,U,M,V]
  .have C:aq 10000 B<aq 10000 A:=dR (B:=10000) (by omega) (by rw[L,G];omega)
   have V:¬aq 10000 A<aq 10000 B:=by omega
   simp[aa,S,f228,U,M,V]
def caM(A:List Int):List Nat->Mem
 | []=>[.cells false 1 (iZ A)]
 |x::l=>[.cells false 1 (iZ A),.cells true 1 (iN .i64 (x::l))]
def caO:List Nat->AV
 | []=>.qF
 |_::l=>.slice 1 0 (l.length+1) none
def caC:Nat:=1000000000001
theorem Xw:1000000000000<caC:=by decide
theorem Ba(A:List Int)(hA:0<=jX 10000 A)(hb:∀d∈A,d.natAbs<=1000000000000)(hl:A.length<=10000000)(hK:A.length*caC+caC<K)(H:ah f269=[b]):
  ∃F:Env->Bool->Env×Mem×List Nat,∀V d,(ae V 0=.slice 0 0 A.length none/\ae V 3=.qF/\ae V 4=.int .i64 0/\ae V 5=.int .i64 0)->
   aU (bd prog) (fun _=>[3,4,5]) O K 43 1 true (.loop b) ⟨V,caM A [],d⟩=some (.exit 0,⟨(F V d).1,(F V d).2.1,d⟩)/\
   ((F V d).2.1=caM A (F V d).2.2/\ae (F V d).1 3=caO (F V d).2.2/\aW (F V d).2.2=dig 10000 (jX 10000 A).toNat/\A.length<=(F V d).2.2.length/\(F V d).2.2.length<=2000000000000):=by
 refine pK (β:=List Nat) rfl (fun V=>ae V 0=.slice 0 0 A.length none/\ae V 3=.qF/\ae V 4=.int .i64 0/\ae V 5=.int .i64 0)
  (fun _ AC o X=>o =caM A X/\ae AC 3=caO X/\aW X=dig 10000 (jX 10000 A).toNat/\A.length<=X.length/\X.length<=2000000000000) ?_
 rintro V d ⟨h0,h3,h4,h5⟩;have B:aw [3,4,5] (ad b) V ((3,caO [])::(4,.int .i64 0)::(5,.int .i64 ((0:Nat):Int))::V)=aw [3,4,5] (ad b) V V:=by simp[aw,h3,h4,h5,caO]
 rw[<-B];refine n8 (α:=Nat×Int×List Nat) (fun s=>⟨aw [3,4,5] (ad b) V ((3,caO s.2.2)::(4,.int .i64 s.2.1)::(5,.int .i64 (s.1:Int))::V),caM A s.2.2,d⟩)
  (fun s=>(A.length-s.1)*caC+s.2.1.natAbs) (fun s=>afN A s.1 s.2.1 s.2.2) (.exit 0) d _ (by simp) ?_ K (0,0,[]) (afN.start A) (by show(A.length-0)*caC+0<K;rw[QQi];omega)
 rintro ⟨i,Z,X⟩ hI;simp only at hI |-;clear B;have b1:=hI.b1;have b2:=hI.b2;have D:=hI.len;simp[ah,aE,f269] at H;by_cases u:i<A.length
 .left
  obtain⟨x,hx⟩:∃x,A[i]? =some x:=⟨A[i],by simp[u]⟩
  have Y :A[i]=x:=by have:=GT u;rw[hx] at this;exact(ZQ this).symm
  have Zp:=hb x (J1 hx);have C:=hI.next hx Zp;have L:=C.b1;refine⟨(i+1,(Z+x) / 10000,X++[((Z+x)%10000).toNat]),?_⟩;refine bU (show afN A (i+1) _ _/\_ from⟨C,by
   have:=Xw;show(A.length-(i+1))*caC+((Z+x) / 10000).natAbs<(A.length-i)*caC+Z.natAbs
   have e:A.length-i=A.length-(i+1)+1:=by omega
   rw[e,Nat.add_mul,Nat.one_mul];generalize (A.length-(i+1))*caC=p;omega⟩) ?_
  clear C;obtain⟨s,hs⟩:=xE (Z+x);have w1:IntKind.i64.wrap (Z+x)=s:=by rw[<-hs];exact af
  rw[<-hs] at L |-;have S:=zj s;have N:=Py s;obtain⟨n,B⟩:∃n:Nat,(n:Int)=s%10000:=⟨(s%10000).toNat,QQd (by omega)⟩
  rw[<-B] at S N |-;rw[Int.toNat_natCast];obtain⟨q,hq⟩:=xE (s / 10000);rw[<-hq] at L N |-;obtain⟨m,M⟩:=xE (s.tmod 10000);rw[<-M] at S;have hmb:m.natAbs<10000:=by rw[M,Int.natAbs_tmod];exact Nat.mod_lt _ (by decide)
  have w2:IntKind.i64.wrap (m+10000)=m+10000:=af;have w3:IntKind.i64.wrap (s-(n:Int))=s-(n:Int):=af;have w6:IntKind.i64.wrap (n:Int)=(n:Int):=af;have w4:IntKind.i64.wrap q=q:=af;have w5:IntKind.i64.wrap ((i:Int)+1)=((i+1:Nat):Int):=by rw[af];omega
  have U:(i:Int)<(A.length:Int):=by omega
  subst H;cases X with
  |nil=>
   simp only[List.length_nil] at D;by_cases G:m<0
   .rw[if_pos G] at S
    simp[caM,caO,h0,u,U,Y,w1,<-M,G,S,w3,N,w4,w5,w6,cr]
   .rw[if_neg G] at S
    have R:¬(n:Int)<0:=by omega
    simp[caM,caO,h0,u,U,Y,w1,<-M,R,S,w3,N,w4,w5,cr]
  |cons y l=>
   simp only[List.length_cons] at D;have W:(iN .i64 l).take l.length=iN .i64 l:=B5 (by simp);have J:(l.length+1+1)*8<=140737488355328:=by omega
   have I:l.length+1+1<=140737488355328:=by omega
   by_cases G:m<0
   .rw[if_pos G] at S
    simp[caM,caO,h0,u,U,Y,w1,<-M,G,S,w3,N,w4,w5,w6,W,J,I,cr,dC]
   .rw[if_neg G] at S
    have R:¬(n:Int)<0:=by omega
    simp[caM,caO,h0,u,U,Y,w1,<-M,R,S,w3,N,w4,w5,W,J,I,cr,dC]
 .have U:¬(i:Int)<(A.length:Int):=by omega
  by_cases ho:Z=0
  .right
   subst ho;have j:=hI.done (by omega);have Z2:A.length<=X.length:=by omega
   have Zc:X.length<=2000000000000:=by omega
   clear hI b1 b2;subst H;cases X with
   |nil=>
    simp only[List.length_nil] at D;subst D;have hA0:A.length=0:=by omega
    simp[caM,caO,h0,hA0];exact⟨_,_,⟨rfl,rfl⟩,[],rfl,rfl,j,Zc⟩
   |cons y l=>
    simp only[List.length_cons] at D;simp[caM,caO,h0,U];exact⟨_,_,⟨rfl,rfl⟩,y::l,rfl,rfl,j,Z2,Zc⟩
  .left
   have C:=hI.more (by omega) hA ho;have h00:=hI.ovr (by omega) hA;have L:=C.b1;refine⟨(i+1,Z / 10000,X++[(Z%10000).toNat]),?_⟩;refine bU (show afN A (i+1) _ _/\_ from⟨C,by
    show(A.length-(i+1))*caC+(Z / 10000).natAbs<(A.length-i)*caC+Z.natAbs
    have e:A.length-i=A.length-(i+1):=by omega
    rw[e];generalize (A.length-(i+1))*caC=p;omega⟩) ?_
   clear C;have S:=zj Z;have N:=Py Z;obtain⟨n,B⟩:∃n:Nat,(n:Int)=Z%10000:=⟨(Z%10000).toNat,QQd (by omega)⟩
   rw[<-B] at S N |-;rw[Int.toNat_natCast];obtain⟨q,hq⟩:=xE (Z / 10000);rw[<-hq] at L N |-;obtain⟨m,M⟩:=xE (Z.tmod 10000);rw[<-M] at S;have hmb:0<=m:=by rw[M];exact Int.tmod_nonneg _ h00
   have G:¬m<0:=by omega
   rw[if_neg G] at S;have R:¬(n:Int)<0:=by omega
   have w3:IntKind.i64.wrap (Z-(n:Int))=Z-(n:Int):=af;have w6:IntKind.i64.wrap (n:Int)=(n:Int):=af;have w4:IntKind.i64.wrap q=q:=af;have w5:IntKind.i64.wrap ((i:Int)+1)=((i+1:Nat):Int):=by rw[af];omega
   subst H;cases X with
   |nil=>
    simp only[List.length_nil] at D;simp[caM,caO,h0,U,ho,<-M,R,S,w3,N,w4,w5,cr]
   |cons y l=>
    simp only[List.length_cons] at D;have W:(iN .i64 l).take l.length=iN .i64 l:=B5 (by simp);have J:(l.length+1+1)*8<=140737488355328:=by omega
    have I:l.length+1+1<=140737488355328:=by omega
    simp[caM,caO,h0,U,ho,<-M,R,S,w3,N,w4,w5,W,J,I,cr,dC]
variable{M:Mem}{x:AV}
theorem MX{A:List Nat}(H:A.length<=4000000000000)(I:aft .i64 M x A):∃b,x=.slice b 0 A.length none/\kO prog 267 [x] M (.slice b 0 (aW A).length none) M:=by obtain⟨b,e,h⟩:=kO.agR (new:=[]) (rest:=[]) rfl rfl (Qe A H) I;refine⟨b,e,?_⟩;simpa [AV.ren,fa] using h
theorem Fw(M:Mem):kO prog 267 [.qF] M .qF M:=by
 have Z:aX prog 267=some f267:=by kernel_rfl
 refine de (az _) (lv:=fun _=>[0]) (K:=1) rfl rfl ?_ M;simp[aa,Z,f267,ba,ga]
variable{y:AV}
theorem HS{A B:List Nat}(H:lok 10000 A=true)(I:lok 10000 B=true)(J:A.length<=1000000000)(tA:aW A=A)(W:aW B=B)(Y:aft .i64 M x A)(hy:aft .i64 M y B):
  kO prog 228 [x,y] M (.bool (decide (aq 10000 A<aq 10000 B))) M:=by
 obtain⟨b,c,Z,X,h⟩:=kO.agc (new:=[]) rfl (MY A B H I J tA W) Y hy;simpa [AV.ren] using h
noncomputable def cW:y9:=fun c Z M=>match c,Z with
 |.fn 267,[.qF]=>some ⟨.qF,none,[]⟩
 |.fn 267,[x]=>match x,bh .i64 M x with
  |.slice b _ _ _,some A=>if A.length<=4000000000000 then some ⟨.slice b 0 (aW A).length none,none,[]⟩ else none
  |_,_=>none
 |.fn 228,[x,y]=>match bh .i64 M x,bh .i64 M y with
  |some A,some B=>if lok 10000 A=true/\lok 10000 B=true/\A.length<=1000000000/\aW A=A/\aW B=B then some ⟨.bool (decide (aq 10000 A<aq 10000 B)),none,[]⟩ else none
  |_,_=>none
 |_,_=>none
theorem yM:qS prog cW:=by
 refine cB fun c X M r h=>?_
 unfold cW at h;split at h
 .cases h
  refine aC ?_;rw[List.append_nil];exact Fw M
 .split at h
  .rename_i Z
   split at h
   .rename_i V
    cases h;obtain⟨b,e,h⟩:=MX V (bk Z);cases e;refine aC ?_;rw[List.append_nil];exact h
   .cases h
  .cases h
 .split at h
  .rename_i Z U
   split at h
   .rename_i S
    obtain⟨R,N,L,G,F⟩:=S;cases h;refine aC ?_;rw[List.append_nil];exact HS R N L G F (bk Z) (bk U)
   .cases h
  .cases h
 .cases h
theorem Ds(A:List Int)(H:A≠[])(I:0<=jX 10000 A)(J:∀d∈A,d.natAbs<=1000000000000)(W:A.length<=10000000):
  ∃X,aa (bd prog) (fun _=>[3,4,5]) (aX prog) cW (A.length*caC+caC+1) 269 [.slice 0 0 A.length none] [.cells false 1 (iZ A)]=
   some ⟨.slice 1 0 (dig 10000 (jX 10000 A).toNat).length none,none,[.cells true 1 (iN .i64 X)]⟩/\aW X=dig 10000 (jX 10000 A).toNat:=by
 have C:aX prog 269=some f269:=by kernel_rfl
 obtain⟨b,V⟩:∃b,ah f269=[b]:=⟨_,rfl⟩
 obtain⟨F,S⟩:=Ba (O:=cW) (K:=A.length*caC+caC+1) A I J W (by omega) V;have U:∀Z d,(ae Z 0=.slice 0 0 A.length none/\ae Z 3=.qF/\ae Z 4=.int .i64 0/\ae Z 5=.int .i64 0)->
   aU (bd prog) (fun _=>[3,4,5]) cW (A.length*caC+caC+1) 43 1 true (.loop b) ⟨Z,[.cells false 1 (iZ A)],d⟩=some (.exit 0,⟨(F Z d).1,[.cells false 1 (iZ A),.cells true 1 (iN .i64 (F Z d).2.2)],d⟩)/\
   ae (F Z d).1 3=.slice 1 0 (F Z d).2.2.length none/\aW (F Z d).2.2=dig 10000 (jX 10000 A).toNat/\(F Z d).2.2.length<=4000000000000:=by
  intro Z d B;obtain⟨R,u,h3,N,L,m⟩:=S Z d B;have G:=List.length_pos_iff.2 H;cases ho:(F Z d).2.2 with
  |nil=>rw[ho] at L;exact absurd (Mp (Nat.le_zero.1 L)) H
  |cons y l=>
   rw[u,ho] at R;rw[ho] at h3 N m;exact⟨R,h3,N,by omega⟩
 clear S;have j:∀(D:afl) (o:List Nat) l,bh .i64 (D::.cells true 1 (iN .i64 o)::l) (.slice 1 0 o.length none)=some o:=fun D o l=>aR rfl (by simp) (B5 (by simp))
 obtain⟨K,Y⟩:=xE (A.length*caC+caC+1);rw[<-Y] at U |-;simp[ah,aE,f269] at V;subst V;simp[aa,C,f269,cW,U,j];exact⟨_,rfl,(U _ _ ⟨rfl,rfl,rfl,rfl⟩).2.2.1⟩
theorem Hj{A:List Int}(I:A≠[])(J:0<=jX 10000 A)(H:∀d∈A,d.natAbs<=1000000000000)(W:A.length<=10000000)(Y:Yv M x A):
  kO prog 269 [x] M (.slice M.length 0 (dig 10000 (jX 10000 A).toNat).length none) (M++[.cells true 1 (iN .i64 (dig 10000 (jX 10000 A).toNat))]):=by
 obtain⟨Z,X,V⟩:=Ds A I J H W;have h3:=(ar aj (aJ _) yM (aM _) X).1;simp only[afh.mem,Option.getD_none,List.cons_append,List.nil_append] at h3;have U:=kO.agi (m2:=[.cells false 1 (iZ A),.cells true 1 (iN .i64 (dig 10000 (jX 10000 A).toNat))]) h3 rfl (fun b s H=>by
  match b with
  |0=>simp at H;subst H;exact⟨_,rfl,.inl rfl⟩
  |1=>simp at H;subst H;exact⟨_,rfl,.row (by rw[<-V];exact dD _)⟩
  |b+2=>simp at H)
 obtain⟨b,rfl,S⟩:=kO.ahr (new:=[.cells true 1 (iN .i64 (dig 10000 (jX 10000 A).toNat))]) (rest:=[]) rfl rfl U Y;simpa [AV.ren,fa] using S
def zsm(A:List Int):Bool:=A.all fun d=>decide (d.natAbs<=1000000000000)
noncomputable def cJ:y9:=fun c Z M=>match c,Z with
 |.fn 269,[x]=>match zi M x with
  |some A=>if A≠[]/\0<=jX 10000 A/\zsm A=true/\A.length<=10000000 then some ⟨.slice M.length 0 (dig 10000 (jX 10000 A).toNat).length none,none,[.cells true 1 (iN .i64 (dig 10000 (jX 10000 A).toNat))]⟩ else none
  |none=>none
 |c,Z=>cW c Z M
theorem mI:qS prog cJ:=by
 refine cB fun c Z M r h=>?_
 unfold cJ at h;split at h
 .split at h
  .rename_i X
   split at h
   .rename_i V
    obtain⟨U,S,R,N⟩:=V;cases h;exact aC (Hj U S (fun d L=>by simpa using List.all_eq_true.1 R d L) N (OJ X))
   .cases h
  .cases h
 .exact dZ yM h
def jM(H:afl)(A B:List Nat)(k:Int)(i:Nat):Mem:=
 if A.length<i then [H,.cells false 1 (iN .i64 B),.qK,.qK,.cells true 1 (iZ (jn k A (B.take i)))]
 else [H,.cells false 1 (iN .i64 B),.qK,.cells true 1 (iZ (jn k A (B.take i)))]
def jO(A:List Nat)(n i:Nat):AV:=if A.length<i then .slice 4 0 n none else .slice 3 0 n none
def j8(c:Code):List Nat:=if (ad c).contains 10 then [9,10] else [9]
theorem zH(X:List Nat)(A B:List Nat)(k:Int)(hA:lok 10000 A=true)(hB:lok 10000 B=true)(hk:k.natAbs<=10000)(hl:A.length<=1000000)(Zc:B.length<=1000000)(hK:B.length+1<K+2){b2:Code}(H:ah f227=[b,b2]):
  ∃F:Env->Bool->Env,∀Z d,(ae Z 1=.slice 1 0 B.length none/\ae Z 2=.int .i64 k/\ae Z 3=.int .i64 0/\ae Z 9=.slice 3 0 A.length none/\ae Z 10=.int .i64 0)->
   aU (bd prog) j8 O (K+2) 45 2 true (.loop b) ⟨Z,[.cells false 1 (iN .i64 X),.cells false 1 (iN .i64 B),.qK,.cells true 1 (iN .i64 A)],d⟩=some (.exit 0,⟨F Z d,jM (.cells false 1 (iN .i64 X)) A B k B.length,d⟩)/\
   ae (F Z d) 9=jO A (jn k A B).length B.length:=by
 have Zi:j8 b=[9,10]:=by simp[ah,aE,f227] at H;obtain⟨rfl,rfl⟩:=H;decide
 refine bl Zi (fun Z=>ae Z 1=.slice 1 0 B.length none/\ae Z 2=.int .i64 k/\ae Z 3=.int .i64 0/\ae Z 9=.slice 3 0 A.length none/\ae Z 10=.int .i64 0)
  (fun _ AC =>ae AC 9=jO A (jn k A B).length B.length) ?_
 rintro Z d ⟨h1,h2,h3,h9,ZS⟩;have hn:aw [9,10] (ad b) Z ((9,jO A (jn k A (B.take 0)).length 0)::(10,.int .i64 ((0:Nat):Int))::Z)=aw [9,10] (ad b) Z Z:=by simp[aw,h9,ZS,jO,EF,Uv]
 have ZC:jM (.cells false 1 (iN .i64 X)) A B k 0=[.cells false 1 (iN .i64 X),.cells false 1 (iN .i64 B),.qK,.cells true 1 (iN .i64 A)]:=by unfold jM;rw[if_neg (by omega),List.take_zero,EF];exact congrArg (fun r=>[_,_,_,afl.cells true 1 r]) (YD A).symm
 rw[<-hn,<-ZC];refine bG (α:=Nat) (fun i=>⟨aw [9,10] (ad b) Z ((9,jO A (jn k A (B.take i)).length i)::(10,.int .i64 (i:Int))::Z),jM (.cells false 1 (iN .i64 X)) A B k i,d⟩)
  (fun i=>B.length-i) (fun i=>i<=B.length) (.exit 0) _ d _ (by simp) ?_ (K+2) 0 (Nat.zero_le _) (by simp only[QQi];omega)
 intro i hi;clear hn ZC;simp[ah,aE,f227] at H;by_cases hib:i=B.length
 .right
  subst hib;rw[P1];obtain⟨rfl,rfl⟩:=H;by_cases j:A.length<B.length
  .simp[jM,jO,j,h1,P1]
  .simp[jM,jO,j,h1,P1]
 .left
  have Y:i<B.length:=by omega
  obtain⟨x,hx,Y9⟩:=dh Y;obtain⟨y,U,S⟩:=Of k A B i x hx;have W:=rX k A (B.take i);have I:=rX k A (B.take (i+1));rw[S2,Nat.min_eq_left (by omega)] at W I;have Zp:=ff hB hx;have G:=AF hk hA (jL hB i);obtain⟨J,hJ⟩:=xE (jn k A (B.take i));obtain⟨J2,N⟩:=xE (jn k A (B.take (i+1)));rw[<-hJ] at W U S G;rw[<-N] at I S;have hyb:y.natAbs<=1000000000:=by
   split at U
   .rcases List.mem_append.1 (J1 U) with h | h
    .exact G y h
    .simp at h;subst h;decide
   .exact G y (J1 U)
  have hkx:(k*(x:Int)).natAbs<=10000*10000:=by rw[QQg,Int.natAbs_natCast];exact Nat.mul_le_mul hk (by omega)
  obtain⟨p,hp⟩:=xE (k*(x:Int));have w1:IntKind.i64.wrap (k*(x:Int))=p:=by rw[<-hp];exact af
  rw[<-hp] at S hkx;have w2:IntKind.i64.wrap (y+p)=y+p:=af;have w3:IntKind.i64.wrap (i:Int)=(i:Int):=af;have w4:IntKind.i64.wrap ((i:Int)+1)=((i+1:Nat):Int):=by rw[af];omega
  have D:(i:Int)<(B.length:Int):=by omega
  obtain⟨R,V⟩:=xE (if J.length<=i then J++[0] else J);rw[<-V] at U S;have hi1:i<R.length:=gL U;have C :R[i]=y:=(Ns.1 U).2;have Za:(iZ R).take i++.int .i64 (y+p)::(iZ R).drop (i+1)=iZ J2:=by rw[O8 _ _ _ hi1,S]
  have aeg:R.length=J2.length:=by rw[<-S,QQc]
  have aeh:(i:Int)<(R.length:Int):=by omega
  obtain⟨rfl,rfl⟩:=H;refine⟨i+1,?_⟩;refine bC (show i+1<=B.length/\_ from⟨Y,by omega⟩) ?_;have hii:¬((i:Int)+1<=(i:Int)):=by omega
  have adx:(i:Int)<(i:Int)+1:=by omega
  have hc1:(i+1)*8<=140737488355328:=by omega
  have hc2:i<=140737488355327:=by omega
  rcases Nat.lt_trichotomy A.length i with j | j | j
  .have L:J.length=i:=by omega
   rw[if_pos (by omega)] at V;have u:iZ J++[AV.int .i64 0]=iZ R:=by rw[V,Ce];rfl
   have o:(iZ J).take i=iZ J:=B5 (by simp[L]);have Z2:R.length=i+1:=by rw[V];simp[L]
   have hs2:A.length<i+1:=by omega
   have m :J2.length=i+1:=by omega
   simp[jM,jO,j,hs2,<-hJ,<-N,L,Z2,m,h1,h2,h3,D,Y,w3,ba,ga,j8,u,o,Y9,C,w1,w2,Za,w4,hc1,hc2,hii,adx,Nat.testBit]
  .have L:J.length=i:=by omega
   rw[if_pos (by omega)] at V;have u:iZ J++[AV.int .i64 0]=iZ R:=by rw[V,Ce];rfl
   have o:(iZ J).take i=iZ J:=B5 (by simp[L]);have Z2:R.length=i+1:=by rw[V];simp[L]
   have hs1:¬A.length<i:=by omega
   have hs2:A.length<i+1:=by omega
   have m :J2.length=i+1:=by omega
   simp[jM,jO,hs1,hs2,<-hJ,<-N,L,Z2,m,h1,h2,h3,D,Y,w3,ba,ga,j8,u,o,Y9,C,w1,w2,Za,w4,hc1,hc2,hii,adx,Nat.testBit]
  .have L:¬J.length<=i:=by omega
   rw[if_neg L] at V;subst V;have hs1:¬A.length<i:=by omega
   have hs2:¬A.length<i+1:=by omega
   have ac2:¬(R.length:Int)<=(i:Int):=by omega
   have aei :i+1<=R.length:=by omega
   simp[jM,jO,hs1,hs2,<-hJ,<-N,ac2,<-aeg,h1,h2,h3,D,aeh,hi1,aei,Y,w3,ba,ga,j8,Y9,C,w1,w2,Za,w4,Nat.testBit]
theorem rB(X A B:List Nat)(k:Int)(p:AV)(hp:(p=.slice 0 0 A.length none/\X=A)\/(p=.qF/\A=[]))(I':A≠[]\/B≠[])(hA:lok 10000 A=true)(hB:lok 10000 B=true)(hk:k.natAbs<=10000)(hl:A.length<=1000000)(Zc:B.length<=1000000)(H:0<=(aq 10000 A:Int)+k*(aq 10000 B:Int)):
  aa (bd prog) j8 (aX prog) cJ (B.length+2) 227 [p,.slice 1 0 B.length none,.int .i64 k,.int .i64 0] [.cells false 1 (iN .i64 X),.cells false 1 (iN .i64 B)]=
   some ⟨.slice 2 0 (dig 10000 ((aq 10000 A:Int)+k*(aq 10000 B:Int)).toNat).length none,none,[.cells true 1 (iN .i64 (dig 10000 ((aq 10000 A:Int)+k*(aq 10000 B:Int)).toNat))]⟩:=by
 have Y:aX prog 227=some f227:=by kernel_rfl
 obtain⟨b,b2,W⟩:∃b b2,ah f227=[b,b2]:=⟨_,_,rfl⟩
 obtain⟨F,Z⟩:=zH (O:=cJ) (K:=B.length) X A B k hA hB hk hl Zc (by omega) W;have V:=rX k A B;have R:=OP k A B;have N:=AF hk hA hB;have m :zsm (jn k A B)=true:=List.all_eq_true.2 fun d hd=>by have:=N d hd;simp;omega
 have U:jn k A B≠[]:=by
  intro e;rw[e] at V;rcases I' with h | h
  .have:=List.length_pos_iff.2 h;simp at V;omega
  .have:=List.length_pos_iff.2 h;simp at V;omega
 rw[<-R] at H |-;unfold jM jO at Z;rw[P1] at Z;obtain⟨J,hJ⟩:=xE (jn k A B);rw[<-hJ] at Z V N U H m |-;have S:J.length<=10000000:=by omega
 have L:(iN .i64 A).take A.length=iN .i64 A:=B5 (by simp);have G:∀(C u o a3:afl) l,zi (C::u::o::a3::.cells true 1 (iZ J)::l) (.slice 4 0 J.length none)=some J:=fun C u o a3 l=>CY rfl (by simp) (B5 (by simp))
 have I:∀(C u o:afl) l,zi (C::u::o::.cells true 1 (iZ J)::l) (.slice 3 0 J.length none)=some J:=fun C u o l=>CY rfl (by simp) (B5 (by simp))
 have Zg:A.length*8<=140737488355328:=by omega
 have Z6:A.length<=140737488355328:=by omega
 obtain⟨D,j⟩:=xE (dig 10000 (jX 10000 J).toNat);rw[<-j];clear R hJ;simp[ah,aE,f227] at W;obtain⟨rfl,rfl⟩:=W;by_cases hs:A.length<B.length
 .simp only[if_pos hs] at Z
  rcases hp with⟨rfl,rfl⟩ | ⟨rfl,rfl⟩
  .simp[aa,Y,f227,L,Zg,Z6,Z,cJ,G,U,H,m,S,<-j]
  .simp only[List.length_nil,O7] at Z
   simp[aa,Y,f227,Z,cJ,G,U,H,m,S,<-j]
 .simp only[if_neg hs] at Z
  rcases hp with⟨rfl,rfl⟩ | ⟨rfl,rfl⟩
  .simp[aa,Y,f227,L,Zg,Z6,Z,cJ,I,U,H,m,S,<-j]
  .exfalso
   simp only[List.length_nil] at hs;rcases I' with h | h
   .exact h rfl
   .have:=List.length_pos_iff.2 h;omega
theorem vE{A B:List Nat}(k:Int)(hx:aft .i64 M x A\/(x=.qF/\A=[]))(hy:aft .i64 M y B)(H:A≠[]\/B≠[])(I:lok 10000 A=true)(J:lok 10000 B=true)(W:k.natAbs<=10000)(Y:A.length<=1000000)(Zc:B.length<=1000000)(hv:0<=(aq 10000 A:Int)+k*(aq 10000 B:Int)):
  kO prog 227 [x,y,.int .i64 k,.int .i64 0] M (.slice M.length 0 (dig 10000 ((aq 10000 A:Int)+k*(aq 10000 B:Int)).toNat).length none) (M++[.cells true 1 (iN .i64 (dig 10000 ((aq 10000 A:Int)+k*(aq 10000 B:Int)).toNat))]):=by
 obtain⟨D,U⟩:=xE (dig 10000 ((aq 10000 A:Int)+k*(aq 10000 B:Int)).toNat);obtain⟨c,G,F,rfl,V,X⟩:=hy;have S :=gL V;rw[<-U];rcases hx with⟨b,o,C,rfl,R,N⟩ | ⟨rfl,rfl⟩
 .have L:=gL R
  have h:=(ar aj (aJ _) mI (aM _) (rB A A B k _ (.inl ⟨rfl,rfl⟩) H I J W Y Zc hv)).1;rw[<-U] at h;have:=kO.frame (M:=M) [b,c] (m:=[.cells false 1 (iN .i64 A),.cells false 1 (iN .i64 B)]) (new:=[.cells true 1 (iN .i64 D)]) rfl (by simp[L,S]) (by simp) (fun i s Z=>by
   match i with
   |0=>simp at Z;subst Z;exact .row R N
   |1=>simp at Z;subst Z;exact .row V X
   |i+2=>simp at Z) rfl h
  simpa [AV.afz,AV.ren,fa] using this
 .have h:=(ar aj (aJ _) mI (aM _) (rB B [] B k _ (.inr ⟨rfl,rfl⟩) H I J W Y Zc hv)).1
  rw[<-U] at h;have:=kO.frame (M:=M) [c,c] (m:=[.cells false 1 (iN .i64 B),.cells false 1 (iN .i64 B)]) (new:=[.cells true 1 (iN .i64 D)]) rfl (by simp[S]) (by simp) (fun i s Z=>by
   match i with
   |0=>simp at Z;subst Z;exact .row V X
   |1=>simp at Z;subst Z;exact .row V X
   |i+2=>simp at Z) rfl h
  simpa [AV.afz,AV.ren,fa] using this
end Go.Proofs
