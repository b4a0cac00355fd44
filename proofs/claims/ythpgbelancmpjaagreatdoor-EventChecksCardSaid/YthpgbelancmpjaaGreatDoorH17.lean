/- See H38. -/
import Derived.Test.YthpgbelancmpjaaGreatDoorH16
import Derived.Test.YthpgbelancmpjaaGreatDoorH05
set_option linter.all false
set_option maxRecDepth 100000
set_option maxHeartbeats 40000000
namespace Go.Eng
def jL(B:Int):List Int->Int
 | []=>0
 |d::l=>d+B*jL B l
theorem vM(B:Int):∀(l r:List Int),jL B (l++r)=jL B l+B ^ l.length*jL B r
 | [],r=>by simp[jL]
 |d::l,r=>by rw[List.cons_append,jL,jL,vM B l r,List.length_cons,Int.pow_succ,Int.mul_add,Int.add_assoc];congr 2;rw[<-Int.mul_assoc,Int.mul_comm (B ^ l.length) B]
variable{d:Int}
theorem Vl{B:Int}{l:List Int}{j:Nat}(h:l[j]? =some d):jL B (l.drop j)=d+B*jL B (l.drop (j+1)):=by obtain⟨Z,rfl⟩:=Hi.1 h;rw[LU Z];rfl
def Vr(l:List Nat):List Int:=l.map fun n:Nat=>(n:Int)
theorem Mn(B:Nat):∀l:List Nat,jL B (Vr l)=(aq B l:Int)
 | []=>rfl
 |d::l=>by
  show(d:Int)+B*jL B (Vr l)=((d+B*aq B l:Nat):Int)
  rw[Mn B l];simp
theorem mC(B:Int):∀n,jL B (List.replicate n 0)=0
 |0=>rfl
 |n+1=>by rw[List.replicate_succ,jL,mC B n];simp
theorem zI(s:Int):(if s.tmod 10000<0 then s.tmod 10000+10000 else s.tmod 10000)=s%10000:=by rw[Int.tmod_eq_emod];split<;>split<;>omega
theorem Pb(s:Int):(s-s%10000).tdiv 10000=s / 10000:=by
 have h:s-s%10000=10000*(s / 10000):=by omega
 rw[h,Int.mul_comm,Int.mul_tdiv_cancel _ (by omega)]
structure af1 (A:List Int)(i:Nat)(over:Int)(out:List Nat):Prop where
 len:out.length=i
 ok:lok 10000 out=true
 val:(aq 10000 out:Int)+10000 ^ i*(jL 10000 (A.drop i)+over)=jL 10000 A
 b1:over.natAbs<=1000000000000
 b2:i+over.natAbs<=A.length+1000000000000
theorem af1.start(A:List Int):af1 A 0 0 []:=⟨rfl,rfl,by simp[aq],by simp,by simp⟩
variable{A:List Int}{i:Nat}{out:List Nat}{over:Int}
theorem La{s:Int}(h:af1 A i over out)(hs:jL 10000 (A.drop i)+over=s+10000*jL 10000 (A.drop (i+1))):
  (aq 10000 (out++[(s%10000).toNat]):Int)+10000 ^ (i+1)*(jL 10000 (A.drop (i+1))+s / 10000)=jL 10000 A:=by
 rw[<-h.val,hs,LI,h.len];have X:((s%10000).toNat:Int)=s%10000:=QQb (by omega);rw[Int.natCast_add,Int.natCast_mul,X,Int.natCast_pow];have Z:s=s%10000+10000*(s / 10000):=by omega
 have h3:(10000:Int) ^ (i+1)=10000 ^ i*10000:=Int.pow_succ ..;rw[h3];generalize (10000:Int) ^ i=p;generalize jL 10000 (A.drop (i+1))=z;generalize s%10000=m at Z;generalize s / 10000=q at Z;subst Z
 grind
section
variable (h:af1 A i over out)
include h
theorem af1.agZ(s:Int):lok 10000 (out++[(s%10000).toNat])=true:=by
 rw[oG,h.ok];have:(s%10000).toNat<10000:=by omega
 simp[lok,this]
theorem af1.next(hd:A[i]? =some d)(H:d.natAbs<=1000000000000):
  af1 A (i+1) ((over+d) / 10000) (out++[((over+d)%10000).toNat]):=by
 have Z:=gL hd;have:=h.b1;refine⟨by simp[h.len],h.agZ _,La h ?_,by omega,by omega⟩;rw[Vl hd];omega
section
variable (hi:A.length<=i)(hA:0<=jL 10000 A)
include hi hA
theorem af1.ovr:0<=over:=by
 have X:A.drop i=[]:=M6 hi;have Z:=h.val;rw[X] at Z;have V:jL 10000 []=0:=rfl;rw[V,Int.zero_add] at Z;have U:=gN h.ok;rw[h.len] at U;have S :(aq 10000 out:Int)<10000 ^ i:=by have:((10000 ^ i:Nat):Int)=(10000:Int) ^ i:=Int.natCast_pow ..;rw[<-this];omega
 rcases Int.lt_or_le over 0 with h0 | h0
 .exfalso
  have R:(0:Int)<10000 ^ i:=Int.pow_pos (by omega);generalize (10000:Int) ^ i=p at*;have:p*over<=p*(-1):=Int.mul_le_mul_of_nonneg_left (by omega) (by omega);omega
 .exact h0
theorem af1.more(H:over≠0):
  af1 A (i+1) (over / 10000) (out++[(over%10000).toNat]):=by
 have V:=h.ovr hi hA;have:=h.b1;have:=h.b2;have X:A.drop i=[]:=M6 hi;have Z:A.drop (i+1)=[]:=M6 (by omega);refine⟨by simp[h.len],h.agZ _,La h ?_,by omega,by omega⟩;rw[X,Z];show 0+over=over+10000*0
 omega
end
end
theorem af1.done(h:af1 A i 0 out)(H:A.length<=i):bd out=dig 10000 (jL 10000 A).toNat:=by have X:A.drop i=[]:=M6 H;have Z:=h.val;rw[X] at Z;have V:jL 10000 []=0:=rfl;rw[V,Int.zero_add,Int.mul_zero,Int.add_zero] at Z;rw[<-Z,Int.toNat_natCast,dW (by omega) h.ok]
def jn(k:Int):List Nat->List Nat->List Int
 |a,[]=>Vr a
 | [],b::bs=>(k*(b:Int))::jn k [] bs
 |a::al,b::bs=>((a:Int)+k*(b:Int))::jn k al bs
theorem Fq(k:Int)(a:List Nat):jn k a []=Vr a:=by cases a<;>rfl
theorem Ot(k:Int):∀(a b:List Nat),jL 10000 (jn k a b)=(aq 10000 a:Int)+k*(aq 10000 b:Int)
 |a,[]=>by rw[Fq];have:=Mn 10000 a;rw[show((10000:Nat):Int)=10000 from rfl] at this;rw[this];simp[aq]
 | [],b::Z=>by
  rw[jn,jL,Ot k [] Z];simp only[aq,Int.natCast_add,Int.natCast_mul];show k*(b:Int)+10000*(((0:Nat):Int)+k*(aq 10000 Z:Int))=((0:Nat):Int)+k*((b:Int)+(10000:Int)*(aq 10000 Z:Int))
  grind
 |a::X,b::Z=>by
  rw[jn,jL,Ot k X Z,aq,aq,Int.natCast_add,Int.natCast_mul,Int.natCast_add,Int.natCast_mul];show(a:Int)+k*(b:Int)+10000*((aq 10000 X:Int)+k*(aq 10000 Z:Int))=(a:Int)+(10000:Int)*(aq 10000 X:Int)+k*((b:Int)+(10000:Int)*(aq 10000 Z:Int))
  grind
theorem r9(k:Int):∀(a b:List Nat),(jn k a b).length=max a.length b.length
 |a,[]=>by rw[Fq];simp[Vr]
 | [],b::bs=>by rw[jn,List.length_cons,r9 k [] bs];simp
 |a::al,b::bs=>by rw[jn,List.length_cons,r9 k al bs];simp only[List.length_cons];omega
theorem AU{k:Int}(H:k.natAbs<=10000):∀{a b:List Nat},lok 10000 a=true->lok 10000 b=true->∀d∈jn k a b,d.natAbs<=1000000000
 |a,[],ha,_,d,hd=>by rw[Fq] at hd;simp only[Vr,QQd] at hd;obtain⟨x,Z,rfl⟩:=hd;have:=List.all_eq_true.1 ha x Z;simp at this;omega
 | [],b::bs,ha,hb,d,hd=>by
  rw[jn,List.mem_cons] at hd;rw[di,Ar,Cs] at hb;rcases hd with rfl | hd
  .rw[QQf,Int.natAbs_natCast]
   have:k.natAbs*b<=10000*10000:=Nat.mul_le_mul H (by omega);omega
  .exact AU H ha hb.2 d hd
 |a::al,b::bs,ha,hb,d,hd=>by
  rw[jn,List.mem_cons] at hd;rw[di,Ar,Cs] at hb ha;rcases hd with rfl | hd
  .have X:(k*(b:Int)).natAbs<=10000*10000:=by rw[QQf,Int.natAbs_natCast];exact Nat.mul_le_mul H (by omega)
   omega
  .exact AU H ha.2 hb.2 d hd
theorem AQ(H:Int)(J:List Int)(i:Nat):(if (H::J).length<=i+1 then H::J++[0] else H::J)=H::(if J.length<=i then J++[0] else J):=by simp only[List.length_cons,Nat.add_le_add_iff_right];split<;>rfl
theorem NT(k:Int):∀(A B:List Nat) (i b:Nat),B[i]? =some b->∃x,(if (jn k A (B.take i)).length<=i then jn k A (B.take i)++[0] else jn k A (B.take i))[i]? =some x/\
  (if (jn k A (B.take i)).length<=i then jn k A (B.take i)++[0] else jn k A (B.take i)).set i (x+k*(b:Int))=jn k A (B.take (i+1))
 |_,[],_,_,h=>by simp at h
 |A,c::B,0,b,h=>by
  simp only[List.getElem?_cons_zero,Mp] at h;subst h;rw[List.take_zero,Fq];cases A with
  |nil=>exact⟨0,rfl,by simp[jn,Vr]⟩
  |cons a A=>exact⟨a,by simp[Vr],by simp[jn,Vr]⟩
 |A,c::B,i+1,b,h=>by
  simp only[List.getElem?_cons_succ] at h;rw[List.take_succ_cons,List.take_succ_cons];cases A with
  |nil=>
   obtain⟨x,Z,X⟩:=NT k [] B i b h;refine⟨x,?_,?_⟩
   .rw[jn,AQ];simpa using Z
   .rw[jn,jn,<-X,AQ];simp
  |cons a A=>
   obtain⟨x,Z,X⟩:=NT k A B i b h;refine⟨x,?_,?_⟩
   .rw[jn,AQ];simpa using Z
   .rw[jn,jn,<-X,AQ];simp
def jd(x:Int):List Nat->List Int->List Int
 | [],o=>o
 |_::_,[]=>[]
 |b::bs,d::o=>(d+x*(b:Int))::jd x bs o
theorem nY(x:Int)(o:List Int):jd x [] o=o:=by cases o<;>rfl
theorem pQ(x:Int):∀(b:List Nat) (o:List Int),b.length<=o.length->(jd x b o).length=o.length
 | [],o,_=>by rw[nY]
 |b::bs,[],h=>by simp at h
 |b::bs,d::o,h=>by simp only[List.length_cons,Nat.add_le_add_iff_right] at h;rw[jd,List.length_cons,pQ x bs o h,List.length_cons]
theorem DN(x:Int):∀(b:List Nat) (o:List Int),b.length<=o.length->jL 10000 (jd x b o)=jL 10000 o+x*(aq 10000 b:Int)
 | [],o,_=>by rw[nY];simp[aq]
 |b::H,[],h=>by simp at h
 |b::H,d::o,h=>by
  simp only[List.length_cons,Nat.add_le_add_iff_right] at h;rw[jd,jL,DN x H o h,jL,aq,Int.natCast_add,Int.natCast_mul];show d+x*(b:Int)+10000*(jL 10000 o+x*(aq 10000 H:Int))=d+10000*jL 10000 o+x*((b:Int)+(10000:Int)*(aq 10000 H:Int))
  grind
theorem zg{x:Int}{m c:Nat}(hc:10000*10000<=c)(hx:x.natAbs<=10000):∀{b:List Nat} {o:List Int},lok 10000 b=true->(∀d∈o,d.natAbs<=m)->∀d∈jd x b o,d.natAbs<=m+c
 | [],o,_,ho,d,Z=>by rw[nY] at Z;have:=ho d Z;omega
 |b::bs,[],_,_,d,Z=>by simp[jd] at Z
 |b::bs,e::o,hb,ho,d,Z=>by
  rw[jd,List.mem_cons] at Z;rw[di,Ar,Cs] at hb;rcases Z with rfl | Z
  .have X:(x*(b:Int)).natAbs<=10000*10000:=by rw[QQf,Int.natAbs_natCast];exact Nat.mul_le_mul hx (by omega)
   have:=ho e (by simp);omega
  .exact zg hc hx hb.2 (fun d Z=>ho d (by simp[Z])) d Z
theorem Cy(x:Int):∀(B:List Nat) (o:List Int) (k b:Nat) (y:Int),B[k]? =some b->o[k]? =some y->(jd x (B.take k) o)[k]? =some y/\(jd x (B.take k) o).set k (y+x*(b:Int))=jd x (B.take (k+1)) o
 | [],_,_,_,_,h,_=>by simp at h
 |_::_,[],_,_,_,_,h=>by simp at h
 |c' ::B,d::o,0,b,y,h,hy=>by simp only[List.getElem?_cons_zero,Mp] at h hy;subst h hy;exact⟨rfl,by simp[jd,nY]⟩
 |c::B,d::o,k+1,b,y,h,hy=>by simp only[List.getElem?_cons_succ] at h hy;obtain⟨Z,X⟩:=Cy x B o k b y h hy;rw[List.take_succ_cons,List.take_succ_cons,jd,jd];exact⟨by simpa using Z,by simpa using X⟩
def tzR(A B:List Nat):Nat->List Int
 |0=>List.replicate (A.length+B.length) 0
 |i+1=>(tzR A B i).take i++jd ((A.getD i 0:Nat):Int) B ((tzR A B i).drop i)
theorem HF{A B:List Nat}{c:Nat}(hc:10000*10000<=c)(H:lok 10000 A=true)(I:lok 10000 B=true):∀i,i<=A.length->(tzR A B i).length=A.length+B.length/\jL 10000 (tzR A B i)=(aq 10000 (A.take i):Int)*(aq 10000 B:Int)/\∀d∈tzR A B i,d.natAbs<=i*c
 |0,_=>by refine⟨by simp[tzR],by rw[tzR,mC];simp[aq],fun d Z=>?_⟩;rw[tzR] at Z;rw[(List.mem_replicate.1 Z).2];simp
 |i+1,h=>by
  obtain⟨N,S,h3⟩:=HF hc H I i (by omega);obtain⟨x,V,X⟩:∃x,A[i]? =some x/\A.getD i 0=x:=⟨A[i],by simp,by simp[List.getD,show i<A.length by omega]⟩
  have R:=eK H V;have U:B.length<=((tzR A B i).drop i).length:=by rw[QQh];omega
  rw[tzR,X];refine⟨?_,?_,fun d Z=>?_⟩
  .rw[Nm,pQ _ _ _ U,M0,QQh];omega
  .rw[vM,DN _ _ _ U,M0,Nat.min_eq_left (by omega)]
   have Q:jL 10000 (tzR A B i)=jL 10000 ((tzR A B i).take i)+10000 ^ i*jL 10000 ((tzR A B i).drop i):=by
    conv=>lhs;rw[<-List.take_append_drop i (tzR A B i)]
    rw[vM,M0,Nat.min_eq_left (by omega)]
   have O:A.take (i+1)=A.take i++[x]:=by rw[List.take_add_one,V];rfl
   rw[O,LI,M0,Nat.min_eq_left (by omega),Int.natCast_add,Int.natCast_mul,Int.natCast_pow,Int.add_mul,<-S,Q];show _=_+(10000:Int) ^ i*(x:Int)*(aq 10000 B:Int)
   rw[Int.mul_add,Int.mul_assoc,Int.add_assoc]
  .rcases QXK.1 Z with Z | Z
   .have:=h3 d (List.mem_of_mem_take Z)
    rw[Nat.add_mul];omega
   .have:=zg (x:=(x:Int)) (m:=i*c) hc (by omega) I (fun d Z=>h3 d (List.mem_of_mem_drop Z)) d Z
    rw[Nat.add_mul,Nat.one_mul];exact this
end Go.Eng
namespace Go.Proofs
open Go.Eng
open Tryz
variable{K:Nat}{O:afu}{b:Code}{lv:Code->List Nat}
theorem Eu(A:List Nat)(W:A.length<=4000000000000)(J:A.length<K)(I:ah f267=[b])(H:lv b=[0]):
  ∃F:Env->Bool->Env,∀Z d,aa Z 0=.slice 0 0 A.length none->
   aO (aL prog) lv O K 21 1 true (.loop b) ⟨Z,[.cells false 1 (iN .i64 A)],d⟩=some (.exit 0,⟨F Z d,[.cells false 1 (iN .i64 A)],d⟩)/\aa (F Z d) 0=.slice 0 0 (bd A).length none:=by
 refine bG H (fun Z=>aa Z 0=.slice 0 0 A.length none) (fun _ M =>aa M 0=.slice 0 0 (bd A).length none) ?_;clear H;intro Z d G;simp[ah,aw,f267] at I;have S:au [0] (ae b) Z ((0,.slice 0 0 A.length none)::Z)=au [0] (ae b) Z Z:=by simp[au,G]
 rw[<-S];refine bZ (α:=Nat) (fun n=>⟨au [0] (ae b) Z ((0,.slice 0 0 n none)::Z),[.cells false 1 (iN .i64 A)],d⟩) id (fun n=>n<=A.length/\bd (A.take n)=bd A) (.exit 0) _ d _ (by simp) ?_ K A.length ⟨Es _,by rw[V1]⟩ J;rintro n ⟨hn1,hn2⟩;clear S;subst I;cases n with
 |zero=>
  right;rw[<-hn2];simp[bd]
 |succ n=>
  have D:n<A.length:=by omega
  obtain⟨x,V⟩:∃x,A[n]? =some x:=⟨A[n],by simp[D]⟩
  have R:IntKind.i64.wrap (n:Int)=(n:Int):=af;have Q:(n:Int)<(n:Int)+1:=by omega
  have N:0<(n:Int)+1:=by omega
  by_cases X:x=0
  .subst X
   left;refine⟨n,?_⟩;have h3:(n:Int)<=(n:Int)+1:=by omega
   have U:n+1<=A.length:=by omega
   simp[R,Q,N,h3,U,V];exact⟨by omega,by rw[<-sh V];exact hn2⟩
  .right
   rw[<-hn2,sg V X];have U:min (n+1) A.length=n+1:=by omega
   simp[R,Q,N,U,V,X]
theorem PY(A:List Nat)(H:A.length<=4000000000000):bz prog 267 [.slice 0 0 A.length none] [.cells false 1 (iN .i64 A)] (.slice 0 0 (bd A).length none) [.cells false 1 (iN .i64 A)]:=by
 have X:bq prog 267=some f267:=by kernel_rfl
 obtain⟨b,Z⟩:∃b,ah f267=[b]:=⟨_,rfl⟩
 obtain⟨F,V⟩:=Eu (O:=bC) (K:=A.length+1) (lv:=fun _=>[0]) A H (by omega) Z rfl;simp[ah,aw,f267] at Z;subst Z;refine fQ (lv:=(fun _=>[0])) (K:=(A.length+1)) (ar _) ?_;simp[ad,X,f267,V]
theorem Cc(A B:List Nat)(W:lok 10000 A=true)(Y:lok 10000 B=true)(hl:A.length<=1000000000)(I:A.length=B.length)(hK:A.length<K)(J:ah f228=[b])(H:lv b=[5]):
  ∃F:Env->Bool->Env,∀Z d,(aa Z 0=.slice 0 0 A.length none/\aa Z 1=.slice 1 0 A.length none/\aa Z 5=.int .i64 ((A.length:Int)-1))->
   aO (aL prog) lv O K 41 2 true (.loop b) ⟨Z,[.cells false 1 (iN .i64 A),.cells false 1 (iN .i64 B)],d⟩=some (if A=B then .exit 0 else .ret,⟨F Z d,[.cells false 1 (iN .i64 A),.cells false 1 (iN .i64 B)],d⟩)/\
    (A≠B->aa (F Z d) 4=.bool (decide (aq 10000 A<aq 10000 B))):=by
 refine bG H (fun Z=>aa Z 0=.slice 0 0 A.length none/\aa Z 1=.slice 1 0 A.length none/\aa Z 5=.int .i64 ((A.length:Int)-1)) (fun _ u =>A≠B->aa u 4=.bool (decide (aq 10000 A<aq 10000 B))) ?_;clear H;rintro Z d ⟨h0,h1,h5⟩;simp[ah,aw,f228] at J;have C:au [5] (ae b) Z ((5,.int .i64 ((A.length:Int)-1))::Z)=au [5] (ae b) Z Z:=by simp[au,h5]
 rw[<-C];refine bZ (α:=Nat) (fun n=>⟨au [5] (ae b) Z ((5,.int .i64 ((n:Int)-1))::Z),[.cells false 1 (iN .i64 A),.cells false 1 (iN .i64 B)],d⟩) id (fun n=>n<=A.length/\A.drop n=B.drop n) (if A=B then .exit 0 else .ret) _ d _ (by split<;>simp) ?_ K A.length ⟨Es _,by rw[List.drop_length,I,List.drop_length]⟩ hK;rintro n ⟨hn1,hn2⟩;clear C;subst J;cases n with
 |zero=>
  right;rw[List.drop_zero,List.drop_zero] at hn2;simp[hn2]
 |succ n=>
  have M:n<A.length:=by omega
  have V:n<B.length:=by omega
  obtain⟨x,G,R⟩:=dp M;obtain⟨y,N,Q⟩:=dp V;have o:(((n+1:Nat):Int)-1)=(n:Int):=by omega
  have m:IntKind.i64.wrap ((n:Int)-1)=(n:Int)-1:=af;rw[o];by_cases U:x=y
  .left
   subst U;refine⟨n,?_⟩;simp[h0,h1,R,Q,M,V,m];exact⟨by omega,Lp hn2 G N⟩
  .right
   have j:A≠B:=by rintro rfl;rw[G] at N;cases N;exact U rfl
   have S:=T2 W Y I hn2 G N U;have hd:decide (aq 10000 A<aq 10000 B)=decide (x<y):=by
    unfold j9 at S;by_cases X:x<y
    .rw[if_pos X] at S
     have:aq 10000 A<aq 10000 B:=by
      rcases Nat.lt_or_ge (aq 10000 A) (aq 10000 B) with h | h
      .exact h
      .rw[if_neg (by omega)] at S;split at S<;>omega
     simp[X,this]
    .rw[if_neg X] at S
     have:¬aq 10000 A<aq 10000 B:=by intro h;rw[if_pos h] at S;omega
     simp[X,this]
   have D :¬((x:Int)=(y:Int)):=by omega
   simp[h0,h1,R,Q,M,V,D,j,hd]
theorem MV(A B:List Nat)(H:lok 10000 A=true)(I:lok 10000 B=true)(J:A.length<=1000000000)(tA:bd A=A)(W:bd B=B):
  bz prog 228 [.slice 0 0 A.length none,.slice 1 0 B.length none] [.cells false 1 (iN .i64 A),.cells false 1 (iN .i64 B)] (.bool (decide (aq 10000 A<aq 10000 B))) [.cells false 1 (iN .i64 A),.cells false 1 (iN .i64 B)]:=by
 have S:bq prog 228=some f228:=by kernel_rfl
 obtain⟨b,R⟩:∃b,ah f228=[b]:=⟨_,rfl⟩
 refine fQ (lv:=(fun _=>[5])) (K:=(A.length+1)) (ar _) ?_;have M:dig 10000 (aq 10000 A)=A:=by rw[dW (by omega) H,tA]
 have G:dig 10000 (aq 10000 B)=B:=by rw[dW (by omega) I,W]
 by_cases Q:A.length=B.length
 .have Z:=Cc (O:=bC) (K:=A.length+1) (lv:=fun _=>[5]) A B H I J Q (by omega) R rfl
  simp[ah,aw,f228] at R;subst R;obtain⟨F,Z⟩:=Z;have D:IntKind.i64.wrap ((B.length:Int)-1)=(B.length:Int)-1:=af;by_cases X:A=B
  .subst X
   have V:¬aq 10000 A<aq 10000 A:=by omega
   rw[if_pos rfl] at Z;simp[ad,S,f228,Z,D,V]
  .rw[if_neg X] at Z
   simp only[Q] at Z;simp[ad,S,f228,Z,Q,D,X]
 .have U :¬((A.length:Int)=B.length):=by omega
  by_cases N:A.length<B.length
  .have C:aq 10000 A<aq 10000 B:=dV (B:=10000) (by omega) (by rw[M,G];exact N)
   have V:=C;simp[ad,S,f228,U,N,V]
  .have C:aq 10000 B<aq 10000 A:=dV (B:=10000) (by omega) (by rw[M,G];omega)
   have V:¬aq 10000 A<aq 10000 B:=by omega
   simp[ad,S,f228,U,N,V]
def caM(A:List Int):List Nat->Mem
 | []=>[.cells false 1 (iZ A)]
 |x::l=>[.cells false 1 (iZ A),.cells true 1 (iN .i64 (x::l))]
def caO:List Nat->AV
 | []=>.kO
 |_::l=>.slice 1 0 (l.length+1) none
def caC:Nat:=1000000000001
theorem YB:1000000000000<caC:=by decide
theorem Bs(A:List Int)(hA:0<=jL 10000 A)(hb:∀d∈A,d.natAbs<=1000000000000)(hl:A.length<=10000000)(hK:A.length*caC+caC<K)(H:ah f269=[b]):
  ∃F:Env->Bool->Env×Mem×List Nat,∀V d,(aa V 0=.slice 0 0 A.length none/\aa V 3=.kO/\aa V 4=.int .i64 0/\aa V 5=.int .i64 0)->
   aO (aL prog) (fun _=>[3,4,5]) O K 43 1 true (.loop b) ⟨V,caM A [],d⟩=some (.exit 0,⟨(F V d).1,(F V d).2.1,d⟩)/\
   ((F V d).2.1=caM A (F V d).2.2/\aa (F V d).1 3=caO (F V d).2.2/\bd (F V d).2.2=dig 10000 (jL 10000 A).toNat/\A.length<=(F V d).2.2.length/\(F V d).2.2.length<=2000000000000):=by
 refine vo (β:=List Nat) rfl (fun V=>aa V 0=.slice 0 0 A.length none/\aa V 3=.kO/\aa V 4=.int .i64 0/\aa V 5=.int .i64 0)
  (fun _ AC W X=>W =caM A X/\aa AC 3=caO X/\bd X=dig 10000 (jL 10000 A).toNat/\A.length<=X.length/\X.length<=2000000000000) ?_
 rintro V d ⟨h0,h3,h4,h5⟩;have j:au [3,4,5] (ae b) V ((3,caO [])::(4,.int .i64 0)::(5,.int .i64 ((0:Nat):Int))::V)=au [3,4,5] (ae b) V V:=by simp[au,h3,h4,h5,caO]
 rw[<-j];refine sW (α:=Nat×Int×List Nat) (fun s=>⟨au [3,4,5] (ae b) V ((3,caO s.2.2)::(4,.int .i64 s.2.1)::(5,.int .i64 (s.1:Int))::V),caM A s.2.2,d⟩)
  (fun s=>(A.length-s.1)*caC+s.2.1.natAbs) (fun s=>af1 A s.1 s.2.1 s.2.2) (.exit 0) d _ (by simp) ?_ K (0,0,[]) (af1.start A) (by show(A.length-0)*caC+0<K;rw[QQg];omega)
 rintro ⟨i,Z,X⟩ hI;simp only at hI |-;clear j;have b1:=hI.b1;have b2:=hI.b2;have u:=hI.len;simp[ah,aw,f269] at H;by_cases Y:i<A.length
 .left
  obtain⟨x,hx⟩:∃x,A[i]? =some x:=⟨A[i],by simp[Y]⟩
  have G :A[i]=x:=by have:=LB Y;rw[hx] at this;exact(QQc this).symm
  have hxb:=hb x (Lo hx);have o:=hI.next hx hxb;have D:=o.b1;refine⟨(i+1,(Z+x) / 10000,X++[((Z+x)%10000).toNat]),?_⟩;refine bS (show af1 A (i+1) _ _/\_ from⟨o,by
   have:=YB;show(A.length-(i+1))*caC+((Z+x) / 10000).natAbs<(A.length-i)*caC+Z.natAbs
   have e:A.length-i=A.length-(i+1)+1:=by omega
   rw[e,Nat.add_mul,Nat.one_mul];generalize (A.length-(i+1))*caC=p;omega⟩) ?_
  clear o;obtain⟨s,hs⟩:=xE (Z+x);have w1:IntKind.i64.wrap (Z+x)=s:=by rw[<-hs];exact af
  rw[<-hs] at D |-;have R:=zI s;have N:=Pb s;obtain⟨n,j⟩:∃n:Nat,(n:Int)=s%10000:=⟨(s%10000).toNat,QQb (by omega)⟩
  rw[<-j] at R N |-;rw[Int.toNat_natCast];obtain⟨q,hq⟩:=xE (s / 10000);rw[<-hq] at D N |-;obtain⟨m,M⟩:=xE (s.tmod 10000);rw[<-M] at R;have hmb:m.natAbs<10000:=by rw[M,Int.natAbs_tmod];exact Nat.mod_lt _ (by decide)
  have w2:IntKind.i64.wrap (m+10000)=m+10000:=af;have w3:IntKind.i64.wrap (s-(n:Int))=s-(n:Int):=af;have w6:IntKind.i64.wrap (n:Int)=(n:Int):=af;have w4:IntKind.i64.wrap q=q:=af;have w5:IntKind.i64.wrap ((i:Int)+1)=((i+1:Nat):Int):=by rw[af];omega
  have S:(i:Int)<(A.length:Int):=by omega
  subst H;cases X with
  |nil=>
   simp only[List.length_nil] at u;by_cases U:m<0
   .rw[if_pos U] at R
    simp[caM,caO,h0,Y,S,G,w1,<-M,U,R,w3,N,w4,w5,w6,cD]
   .rw[if_neg U] at R
    have Q:¬(n:Int)<0:=by omega
    simp[caM,caO,h0,Y,S,G,w1,<-M,Q,R,w3,N,w4,w5,cD]
  |cons y l=>
   simp only[List.length_cons] at u;have I:(iN .i64 l).take l.length=iN .i64 l:=An (by simp);have C:(l.length+1+1)*8<=140737488355328:=by omega
   have B:l.length+1+1<=140737488355328:=by omega
   by_cases U:m<0
   .rw[if_pos U] at R
    simp[caM,caO,h0,Y,S,G,w1,<-M,U,R,w3,N,w4,w5,w6,I,C,B,cD,dJ]
   .rw[if_neg U] at R
    have Q:¬(n:Int)<0:=by omega
    simp[caM,caO,h0,Y,S,G,w1,<-M,Q,R,w3,N,w4,w5,I,C,B,cD,dJ]
 .have S:¬(i:Int)<(A.length:Int):=by omega
  by_cases ho:Z=0
  .right
   subst ho;have J:=hI.done (by omega);have hl1:A.length<=X.length:=by omega
   have Z':X.length<=2000000000000:=by omega
   clear hI b1 b2;subst H;cases X with
   |nil=>
    simp only[List.length_nil] at u;subst u;have hA0:A.length=0:=by omega
    simp[caM,caO,h0,hA0];exact⟨_,_,⟨rfl,rfl⟩,[],rfl,rfl,J,Z'⟩
   |cons y l=>
    simp only[List.length_cons] at u;simp[caM,caO,h0,S];exact⟨_,_,⟨rfl,rfl⟩,y::l,rfl,rfl,J,hl1,Z'⟩
  .left
   have o:=hI.more (by omega) hA ho;have h00:=hI.ovr (by omega) hA;have D:=o.b1;refine⟨(i+1,Z / 10000,X++[(Z%10000).toNat]),?_⟩;refine bS (show af1 A (i+1) _ _/\_ from⟨o,by
    show(A.length-(i+1))*caC+(Z / 10000).natAbs<(A.length-i)*caC+Z.natAbs
    have e:A.length-i=A.length-(i+1):=by omega
    rw[e];generalize (A.length-(i+1))*caC=p;omega⟩) ?_
   clear o;have R:=zI Z;have N:=Pb Z;obtain⟨n,j⟩:∃n:Nat,(n:Int)=Z%10000:=⟨(Z%10000).toNat,QQb (by omega)⟩
   rw[<-j] at R N |-;rw[Int.toNat_natCast];obtain⟨q,hq⟩:=xE (Z / 10000);rw[<-hq] at D N |-;obtain⟨m,M⟩:=xE (Z.tmod 10000);rw[<-M] at R;have hmb:0<=m:=by rw[M];exact Int.tmod_nonneg _ h00
   have U:¬m<0:=by omega
   rw[if_neg U] at R;have Q:¬(n:Int)<0:=by omega
   have w3:IntKind.i64.wrap (Z-(n:Int))=Z-(n:Int):=af;have w6:IntKind.i64.wrap (n:Int)=(n:Int):=af;have w4:IntKind.i64.wrap q=q:=af;have w5:IntKind.i64.wrap ((i:Int)+1)=((i+1:Nat):Int):=by rw[af];omega
   subst H;cases X with
   |nil=>
    simp only[List.length_nil] at u;simp[caM,caO,h0,S,ho,<-M,Q,R,w3,N,w4,w5,cD]
   |cons y l=>
    simp only[List.length_cons] at u;have I:(iN .i64 l).take l.length=iN .i64 l:=An (by simp);have C:(l.length+1+1)*8<=140737488355328:=by omega
    have B:l.length+1+1<=140737488355328:=by omega
    simp[caM,caO,h0,S,ho,<-M,Q,R,w3,N,w4,w5,I,C,B,cD,dJ]
variable{M:Mem}{x:AV}
theorem MU{A:List Nat}(H:A.length<=4000000000000)(hx:afO .i64 M x A):∃b,x=.slice b 0 A.length none/\bz prog 267 [x] M (.slice b 0 (bd A).length none) M:=by obtain⟨b,e,h⟩:=bz.ag2 (new:=[]) (rest:=[]) rfl rfl (PY A H) hx;refine⟨b,e,?_⟩;simpa [AV.ren,back] using h
theorem F6(M:Mem):bz prog 267 [.kO] M .kO M:=by
 have Z:bq prog 267=some f267:=by kernel_rfl
 refine dE (ar _) (lv:=fun _=>[0]) (K:=1) rfl rfl ?_ M;simp[ad,Z,f267,bw,ga]
variable{y:AV}
theorem Ie{A B:List Nat}(H:lok 10000 A=true)(I:lok 10000 B=true)(J:A.length<=1000000000)(tA:bd A=A)(W:bd B=B)(hx:afO .i64 M x A)(Y:afO .i64 M y B):
  bz prog 228 [x,y] M (.bool (decide (aq 10000 A<aq 10000 B))) M:=by
 obtain⟨b,c,Z,X,h⟩:=bz.agq (new:=[]) rfl (MV A B H I J tA W) hx Y;simpa [AV.ren] using h
noncomputable def dh:afu:=fun c Z M=>match c,Z with
 |.fn 267,[.kO]=>some ⟨.kO,none,[]⟩
 |.fn 267,[x]=>match x,bl .i64 M x with
  |.slice b _ _ _,some A=>if A.length<=4000000000000 then some ⟨.slice b 0 (bd A).length none,none,[]⟩ else none
  |_,_=>none
 |.fn 228,[x,y]=>match bl .i64 M x,bl .i64 M y with
  |some A,some B=>if lok 10000 A=true/\lok 10000 B=true/\A.length<=1000000000/\bd A=A/\bd B=B then some ⟨.bool (decide (aq 10000 A<aq 10000 B)),none,[]⟩ else none
  |_,_=>none
 |_,_=>none
theorem ze:afs prog dh:=by
 refine cG fun c X M r h=>?_
 unfold dh at h;split at h
 .cases h
  refine aA ?_;rw[List.append_nil];exact F6 M
 .split at h
  .rename_i Z
   split at h
   .rename_i V
    cases h;obtain⟨b,e,h⟩:=MU V (br Z);cases e;refine aA ?_;rw[List.append_nil];exact h
   .cases h
  .cases h
 .split at h
  .rename_i Z U
   split at h
   .rename_i S
    obtain⟨R,Q,N,G,F⟩:=S;cases h;refine aA ?_;rw[List.append_nil];exact Ie R Q N G F (br Z) (br U)
   .cases h
  .cases h
 .cases h
theorem D9(A:List Int)(H:A≠[])(I:0<=jL 10000 A)(J:∀d∈A,d.natAbs<=1000000000000)(W:A.length<=10000000):
  ∃X,ad (aL prog) (fun _=>[3,4,5]) (bq prog) dh (A.length*caC+caC+1) 269 [.slice 0 0 A.length none] [.cells false 1 (iZ A)]=
   some ⟨.slice 1 0 (dig 10000 (jL 10000 A).toNat).length none,none,[.cells true 1 (iN .i64 X)]⟩/\bd X=dig 10000 (jL 10000 A).toNat:=by
 have C:bq prog 269=some f269:=by kernel_rfl
 obtain⟨b,V⟩:∃b,ah f269=[b]:=⟨_,rfl⟩
 obtain⟨F,S⟩:=Bs (O:=dh) (K:=A.length*caC+caC+1) A I J W (by omega) V;have U:∀Z d,(aa Z 0=.slice 0 0 A.length none/\aa Z 3=.kO/\aa Z 4=.int .i64 0/\aa Z 5=.int .i64 0)->
   aO (aL prog) (fun _=>[3,4,5]) dh (A.length*caC+caC+1) 43 1 true (.loop b) ⟨Z,[.cells false 1 (iZ A)],d⟩=some (.exit 0,⟨(F Z d).1,[.cells false 1 (iZ A),.cells true 1 (iN .i64 (F Z d).2.2)],d⟩)/\
   aa (F Z d).1 3=.slice 1 0 (F Z d).2.2.length none/\bd (F Z d).2.2=dig 10000 (jL 10000 A).toNat/\(F Z d).2.2.length<=4000000000000:=by
  intro Z d B;obtain⟨R,u,h3,Q,N,m⟩:=S Z d B;have G:=List.length_pos_iff.2 H;cases ho:(F Z d).2.2 with
  |nil=>rw[ho] at N;exact absurd (GT (Nat.le_zero.1 N)) H
  |cons y l=>
   rw[u,ho] at R;rw[ho] at h3 Q m;exact⟨R,h3,Q,by omega⟩
 clear S;have j:∀(D:afz) (o:List Nat) l,bl .i64 (D::.cells true 1 (iN .i64 o)::l) (.slice 1 0 o.length none)=some o:=fun D o l=>aW rfl (by simp) (An (by simp))
 obtain⟨K,Y⟩:=xE (A.length*caC+caC+1);rw[<-Y] at U |-;simp[ah,aw,f269] at V;subst V;simp[ad,C,f269,dh,U,j];exact⟨_,rfl,(U _ _ ⟨rfl,rfl,rfl,rfl⟩).2.2.1⟩
theorem HM{A:List Int}(I:A≠[])(J:0<=jL 10000 A)(H:∀d∈A,d.natAbs<=1000000000000)(W:A.length<=10000000)(hx:Zu M x A):
  bz prog 269 [x] M (.slice M.length 0 (dig 10000 (jL 10000 A).toNat).length none) (M++[.cells true 1 (iN .i64 (dig 10000 (jL 10000 A).toNat))]):=by
 obtain⟨Z,X,V⟩:=D9 A I J H W;have h3:=(aB ak (aI _) ze (aQ _) X).1;simp only[afw.mem,Option.getD_none,List.cons_append,List.nil_append] at h3;have U:=bz.agu (m2:=[.cells false 1 (iZ A),.cells true 1 (iN .i64 (dig 10000 (jL 10000 A).toNat))]) h3 rfl (fun b s H=>by
  match b with
  |0=>simp at H;subst H;exact⟨_,rfl,.inl rfl⟩
  |1=>simp at H;subst H;exact⟨_,rfl,.row (by rw[<-V];exact dK _)⟩
  |b+2=>simp at H)
 obtain⟨b,rfl,S⟩:=bz.ahK (new:=[.cells true 1 (iN .i64 (dig 10000 (jL 10000 A).toNat))]) (rest:=[]) rfl rfl U hx;simpa [AV.ren,back] using S
def zsm(A:List Int):Bool:=A.all fun d=>decide (d.natAbs<=1000000000000)
noncomputable def cN:afu:=fun c Z M=>match c,Z with
 |.fn 269,[x]=>match zG M x with
  |some A=>if A≠[]/\0<=jL 10000 A/\zsm A=true/\A.length<=10000000 then some ⟨.slice M.length 0 (dig 10000 (jL 10000 A).toNat).length none,none,[.cells true 1 (iN .i64 (dig 10000 (jL 10000 A).toNat))]⟩ else none
  |none=>none
 |c,Z=>dh c Z M
theorem mO:afs prog cN:=by
 refine cG fun c Z M r h=>?_
 unfold cN at h;split at h
 .split at h
  .rename_i X
   split at h
   .rename_i V
    obtain⟨U,S,R,Q⟩:=V;cases h;exact aA (HM U S (fun d N=>by simpa using List.all_eq_true.1 R d N) Q (Om X))
   .cases h
  .cases h
 .exact ee ze h
def jM(H:afz)(A B:List Nat)(k:Int)(i:Nat):Mem:=
 if A.length<i then [H,.cells false 1 (iN .i64 B),.y9,.y9,.cells true 1 (iZ (jn k A (B.take i)))]
 else [H,.cells false 1 (iN .i64 B),.y9,.cells true 1 (iZ (jn k A (B.take i)))]
def jO(A:List Nat)(n i:Nat):AV:=if A.length<i then .slice 4 0 n none else .slice 3 0 n none
def jP(c:Code):List Nat:=if (ae c).contains 10 then [9,10] else [9]
theorem Ad(X:List Nat)(A B:List Nat)(k:Int)(hA:lok 10000 A=true)(hB:lok 10000 B=true)(hk:k.natAbs<=10000)(hl:A.length<=1000000)(Z':B.length<=1000000)(hK:B.length+1<K+2){b2:Code}(H:ah f227=[b,b2]):
  ∃F:Env->Bool->Env,∀Z d,(aa Z 1=.slice 1 0 B.length none/\aa Z 2=.int .i64 k/\aa Z 3=.int .i64 0/\aa Z 9=.slice 3 0 A.length none/\aa Z 10=.int .i64 0)->
   aO (aL prog) jP O (K+2) 45 2 true (.loop b) ⟨Z,[.cells false 1 (iN .i64 X),.cells false 1 (iN .i64 B),.y9,.cells true 1 (iN .i64 A)],d⟩=some (.exit 0,⟨F Z d,jM (.cells false 1 (iN .i64 X)) A B k B.length,d⟩)/\
   aa (F Z d) 9=jO A (jn k A B).length B.length:=by
 have hlv:jP b=[9,10]:=by simp[ah,aw,f227] at H;obtain⟨rfl,rfl⟩:=H;decide
 refine bG hlv (fun Z=>aa Z 1=.slice 1 0 B.length none/\aa Z 2=.int .i64 k/\aa Z 3=.int .i64 0/\aa Z 9=.slice 3 0 A.length none/\aa Z 10=.int .i64 0)
  (fun _ AC =>aa AC 9=jO A (jn k A B).length B.length) ?_
 rintro Z d ⟨h1,h2,h3,h9,h10⟩;have hn:au [9,10] (ae b) Z ((9,jO A (jn k A (B.take 0)).length 0)::(10,.int .i64 ((0:Nat):Int))::Z)=au [9,10] (ae b) Z Z:=by simp[au,h9,h10,jO,Fq,Vr]
 have hm0:jM (.cells false 1 (iN .i64 X)) A B k 0=[.cells false 1 (iN .i64 X),.cells false 1 (iN .i64 B),.y9,.cells true 1 (iN .i64 A)]:=by unfold jM;rw[if_neg (by omega),List.take_zero,Fq];exact congrArg (fun r=>[_,_,_,afz.cells true 1 r]) (ZE A).symm
 rw[<-hn,<-hm0];refine bZ (α:=Nat) (fun i=>⟨au [9,10] (ae b) Z ((9,jO A (jn k A (B.take i)).length i)::(10,.int .i64 (i:Int))::Z),jM (.cells false 1 (iN .i64 X)) A B k i,d⟩)
  (fun i=>B.length-i) (fun i=>i<=B.length) (.exit 0) _ d _ (by simp) ?_ (K+2) 0 (Nat.zero_le _) (by simp only[QQg];omega)
 intro i hi;clear hn hm0;simp[ah,aw,f227] at H;by_cases hib:i=B.length
 .right
  subst hib;rw[V1];obtain⟨rfl,rfl⟩:=H;by_cases I:A.length<B.length
  .simp[jM,jO,I,h1,V1]
  .simp[jM,jO,I,h1,V1]
 .left
  have A':i<B.length:=by omega
  obtain⟨x,hx,G⟩:=dp A';obtain⟨y,U,S⟩:=NT k A B i x hx;have hjl:=r9 k A (B.take i);have ad5:=r9 k A (B.take (i+1));rw[M0,Nat.min_eq_left (by omega)] at hjl ad5;have hxb:=eK hB hx;have D:=AU hk hA (jx hB i);obtain⟨J,hJ⟩:=xE (jn k A (B.take i));obtain⟨J2,Q⟩:=xE (jn k A (B.take (i+1)));rw[<-hJ] at hjl U S D;rw[<-Q] at ad5 S;have hyb:y.natAbs<=1000000000:=by
   split at U
   .rcases QXK.1 (Lo U) with h | h
    .exact D y h
    .simp at h;subst h;decide
   .exact D y (Lo U)
  have hkx:(k*(x:Int)).natAbs<=10000*10000:=by rw[QQf,Int.natAbs_natCast];exact Nat.mul_le_mul hk (by omega)
  obtain⟨p,hp⟩:=xE (k*(x:Int));have w1:IntKind.i64.wrap (k*(x:Int))=p:=by rw[<-hp];exact af
  rw[<-hp] at S hkx;have w2:IntKind.i64.wrap (y+p)=y+p:=af;have w3:IntKind.i64.wrap (i:Int)=(i:Int):=af;have w4:IntKind.i64.wrap ((i:Int)+1)=((i+1:Nat):Int):=by rw[af];omega
  have C:(i:Int)<(B.length:Int):=by omega
  obtain⟨R,V⟩:=xE (if J.length<=i then J++[0] else J);rw[<-V] at U S;have hi1:i<R.length:=gL U;have u :R[i]=y:=(Hi.1 U).2;have o:(iZ R).take i++.int .i64 (y+p)::(iZ R).drop (i+1)=iZ J2:=by rw[OQ _ _ _ hi1,S]
  have aeN:R.length=J2.length:=by rw[<-S,QQZ]
  have aeO:(i:Int)<(R.length:Int):=by omega
  obtain⟨rfl,rfl⟩:=H;refine⟨i+1,?_⟩;refine bF (show i+1<=B.length/\_ from⟨A',by omega⟩) ?_;have hii:¬((i:Int)+1<=(i:Int)):=by omega
  have ad6:(i:Int)<(i:Int)+1:=by omega
  have hc1:(i+1)*8<=140737488355328:=by omega
  have hc2:i<=140737488355327:=by omega
  rcases Nat.lt_trichotomy A.length i with I | I | I
  .have N:J.length=i:=by omega
   rw[if_pos (by omega)] at V;have m:iZ J++[AV.int .i64 0]=iZ R:=by rw[V,CT];rfl
   have j:(iZ J).take i=iZ J:=An (by simp[N]);have Y:R.length=i+1:=by rw[V];simp[N]
   have hs2:A.length<i+1:=by omega
   have W :J2.length=i+1:=by omega
   simp[jM,jO,I,hs2,<-hJ,<-Q,N,Y,W,h1,h2,h3,C,A',w3,bw,ga,jP,m,j,G,u,w1,w2,o,w4,hc1,hc2,hii,ad6,Nat.testBit]
  .have N:J.length=i:=by omega
   rw[if_pos (by omega)] at V;have m:iZ J++[AV.int .i64 0]=iZ R:=by rw[V,CT];rfl
   have j:(iZ J).take i=iZ J:=An (by simp[N]);have Y:R.length=i+1:=by rw[V];simp[N]
   have hs1:¬A.length<i:=by omega
   have hs2:A.length<i+1:=by omega
   have W :J2.length=i+1:=by omega
   simp[jM,jO,hs1,hs2,<-hJ,<-Q,N,Y,W,h1,h2,h3,C,A',w3,bw,ga,jP,m,j,G,u,w1,w2,o,w4,hc1,hc2,hii,ad6,Nat.testBit]
  .have N:¬J.length<=i:=by omega
   rw[if_neg N] at V;subst V;have hs1:¬A.length<i:=by omega
   have hs2:¬A.length<i+1:=by omega
   have adD:¬(R.length:Int)<=(i:Int):=by omega
   have aeP :i+1<=R.length:=by omega
   simp[jM,jO,hs1,hs2,<-hJ,<-Q,adD,<-aeN,h1,h2,h3,C,aeO,hi1,aeP,A',w3,bw,ga,jP,G,u,w1,w2,o,w4,Nat.testBit]
theorem rB(X A B:List Nat)(k:Int)(p:AV)(hp:(p=.slice 0 0 A.length none/\X=A)\/(p=.kO/\A=[]))(G':A≠[]\/B≠[])(hA:lok 10000 A=true)(hB:lok 10000 B=true)(hk:k.natAbs<=10000)(hl:A.length<=1000000)(Z':B.length<=1000000)(H:0<=(aq 10000 A:Int)+k*(aq 10000 B:Int)):
  ad (aL prog) jP (bq prog) cN (B.length+2) 227 [p,.slice 1 0 B.length none,.int .i64 k,.int .i64 0] [.cells false 1 (iN .i64 X),.cells false 1 (iN .i64 B)]=
   some ⟨.slice 2 0 (dig 10000 ((aq 10000 A:Int)+k*(aq 10000 B:Int)).toNat).length none,none,[.cells true 1 (iN .i64 (dig 10000 ((aq 10000 A:Int)+k*(aq 10000 B:Int)).toNat))]⟩:=by
 have I:bq prog 227=some f227:=by kernel_rfl
 obtain⟨b,b2,P'⟩:∃b b2,ah f227=[b,b2]:=⟨_,_,rfl⟩
 obtain⟨F,Z⟩:=Ad (O:=cN) (K:=B.length) X A B k hA hB hk hl Z' (by omega) P';have V:=r9 k A B;have Q:=Ot k A B;have N:=AU hk hA hB;have U :zsm (jn k A B)=true:=List.all_eq_true.2 fun d hd=>by have:=N d hd;simp;omega
 have S:jn k A B≠[]:=by
  intro e;rw[e] at V;rcases G' with h | h
  .have:=List.length_pos_iff.2 h;simp at V;omega
  .have:=List.length_pos_iff.2 h;simp at V;omega
 rw[<-Q] at H |-;unfold jM jO at Z;rw[V1] at Z;obtain⟨J,hJ⟩:=xE (jn k A B);rw[<-hJ] at Z V N S H U |-;have R:J.length<=10000000:=by omega
 have G:(iN .i64 A).take A.length=iN .i64 A:=An (by simp);have C:∀(u o m a3:afz) l,zG (u::o::m::a3::.cells true 1 (iZ J)::l) (.slice 4 0 J.length none)=some J:=fun u o m a3 l=>DI rfl (by simp) (An (by simp))
 have hz3:∀(u o m:afz) l,zG (u::o::m::.cells true 1 (iZ J)::l) (.slice 3 0 J.length none)=some J:=fun u o m l=>DI rfl (by simp) (An (by simp))
 have j:A.length*8<=140737488355328:=by omega
 have Y:A.length<=140737488355328:=by omega
 obtain⟨D,W⟩:=xE (dig 10000 (jL 10000 J).toNat);rw[<-W];clear Q hJ;simp[ah,aw,f227] at P';obtain⟨rfl,rfl⟩:=P';by_cases hs:A.length<B.length
 .simp only[if_pos hs] at Z
  rcases hp with⟨rfl,rfl⟩ | ⟨rfl,rfl⟩
  .simp[ad,I,f227,G,j,Y,Z,cN,C,S,H,U,R,<-W]
  .simp only[List.length_nil,OP] at Z
   simp[ad,I,f227,Z,cN,C,S,H,U,R,<-W]
 .simp only[if_neg hs] at Z
  rcases hp with⟨rfl,rfl⟩ | ⟨rfl,rfl⟩
  .simp[ad,I,f227,G,j,Y,Z,cN,hz3,S,H,U,R,<-W]
  .exfalso
   simp only[List.length_nil] at hs;rcases G' with h | h
   .exact h rfl
   .have:=List.length_pos_iff.2 h;omega
theorem vQ{A B:List Nat}(k:Int)(hx:afO .i64 M x A\/(x=.kO/\A=[]))(hy:afO .i64 M y B)(H:A≠[]\/B≠[])(I:lok 10000 A=true)(J:lok 10000 B=true)(W:k.natAbs<=10000)(Y:A.length<=1000000)(Z':B.length<=1000000)(hv:0<=(aq 10000 A:Int)+k*(aq 10000 B:Int)):
  bz prog 227 [x,y,.int .i64 k,.int .i64 0] M (.slice M.length 0 (dig 10000 ((aq 10000 A:Int)+k*(aq 10000 B:Int)).toNat).length none) (M++[.cells true 1 (iN .i64 (dig 10000 ((aq 10000 A:Int)+k*(aq 10000 B:Int)).toNat))]):=by
 obtain⟨D,S⟩:=xE (dig 10000 ((aq 10000 A:Int)+k*(aq 10000 B:Int)).toNat);obtain⟨c,F,Q,rfl,U,X⟩:=hy;have V :=gL U;rw[<-S];rcases hx with⟨b,o,C,rfl,R,N⟩ | ⟨rfl,rfl⟩
 .have G:=gL R
  have h:=(aB ak (aI _) mO (aQ _) (rB A A B k _ (.inl ⟨rfl,rfl⟩) H I J W Y Z' hv)).1;rw[<-S] at h;have:=bz.frame (M:=M) [b,c] (m:=[.cells false 1 (iN .i64 A),.cells false 1 (iN .i64 B)]) (new:=[.cells true 1 (iN .i64 D)]) rfl (by simp[G,V]) (by simp) (fun i s Z=>by
   match i with
   |0=>simp at Z;subst Z;exact .row R N
   |1=>simp at Z;subst Z;exact .row U X
   |i+2=>simp at Z) rfl h
  simpa [AV.afR,AV.ren,back] using this
 .have h:=(aB ak (aI _) mO (aQ _) (rB B [] B k _ (.inr ⟨rfl,rfl⟩) H I J W Y Z' hv)).1
  rw[<-S] at h;have:=bz.frame (M:=M) [c,c] (m:=[.cells false 1 (iN .i64 B),.cells false 1 (iN .i64 B)]) (new:=[.cells true 1 (iN .i64 D)]) rfl (by simp[V]) (by simp) (fun i s Z=>by
   match i with
   |0=>simp at Z;subst Z;exact .row U X
   |1=>simp at Z;subst Z;exact .row U X
   |i+2=>simp at Z) rfl h
  simpa [AV.afR,AV.ren,back] using this
end Go.Proofs
