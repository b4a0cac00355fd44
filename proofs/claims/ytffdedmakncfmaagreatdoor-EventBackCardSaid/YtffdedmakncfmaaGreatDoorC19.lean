/- See C54. -/
import Derived.Test.YtffdedmakncfmaaGreatDoorC18
import Derived.Test.YtffdedmakncfmaaGreatDoorC05
set_option linter.all false
set_option maxRecDepth 100000
set_option maxHeartbeats 40000000
namespace Go.Eng
def jT(B:Int):List Int→Int
 | []=>0
 |d::l=>d+B*jT B l
theorem wH(B:Int):∀(l r:List Int),jT B (l++r)=jT B l+B ^ l.length*jT B r
 | [],r=>by simp[jT]
 |d::l,r=>by rw[List.cons_append,jT,jT,wH B l r,List.length_cons,Int.pow_succ,Int.mul_add,Int.add_assoc];congr 2;rw[←Int.mul_assoc,Int.mul_comm (B ^ l.length) B]
variable{d:Int}
theorem Vr{B:Int}{l:List Int}{j:Nat}(h:l[j]? =some d):jT B (l.drop j)=d+B*jT B (l.drop (j+1)):=by obtain⟨Z,rfl⟩:=List.getElem?_eq_some_iff.1 h;rw[List.drop_eq_getElem_cons Z];rfl
def Vv(l:List Nat):List Int:=l.map fun n:Nat=>(n:Int)
theorem M5(B:Nat):∀l:List Nat,jT B (Vv l)=(au B l:Int)
 | []=>rfl
 |d::l=>by
  show(d:Int)+B*jT B (Vv l)=((d+B*au B l:Nat):Int)
  rw[M5 B l];simp
theorem mD(B:Int):∀n,jT B (List.replicate n 0)=0
 |0=>rfl
 |n+1=>by rw[List.replicate_succ,jT,mD B n];simp
theorem zZ(s:Int):(if s.tmod 10000<0 then s.tmod 10000+10000 else s.tmod 10000)=s%10000:=by rw[Int.tmod_eq_emod];split<;>split<;>omega
theorem QB(s:Int):(s-s%10000).tdiv 10000=s / 10000:=by
 have h:s-s%10000=10000*(s / 10000):=by omega
 rw[h,Int.mul_comm,Int.mul_tdiv_cancel _ (by omega)]
structure agm (A:List Int)(i:Nat)(over:Int)(out:List Nat):Prop where
 len:out.length=i
 ok:lok 10000 out=true
 val:(au 10000 out:Int)+10000 ^ i*(jT 10000 (A.drop i)+over)=jT 10000 A
 b1:over.natAbs≤1000000000000
 b2:i+over.natAbs≤A.length+1000000000000
theorem agm.start(A:List Int):agm A 0 0 []:=⟨rfl,rfl,by simp[au],by simp,by simp⟩
variable{A:List Int}{i:Nat}{out:List Nat}{over:Int}
theorem LQ{s:Int}(h:agm A i over out)(hs:jT 10000 (A.drop i)+over=s+10000*jT 10000 (A.drop (i+1))):
  (au 10000 (out++[(s%10000).toNat]):Int)+10000 ^ (i+1)*(jT 10000 (A.drop (i+1))+s / 10000)=jT 10000 A:=by
 rw[←h.val,hs,Mo,h.len];have X:((s%10000).toNat:Int)=s%10000:=Int.toNat_of_nonneg (by omega);rw[Int.natCast_add,Int.natCast_mul,X,Int.natCast_pow];have Z:s=s%10000+10000*(s / 10000):=by omega
 have h3:(10000:Int) ^ (i+1)=10000 ^ i*10000:=Int.pow_succ ..;rw[h3];generalize (10000:Int) ^ i=p;generalize jT 10000 (A.drop (i+1))=z;generalize s%10000=m at Z;generalize s / 10000=q at Z;subst Z
 grind
section
variable (h:agm A i over out)
include h
theorem agm.ahk(s:Int):lok 10000 (out++[(s%10000).toNat])=true:=by
 rw[oS,h.ok];have:(s%10000).toNat<10000:=by omega
 simp[lok,this]
theorem agm.next(hd:A[i]? =some d)(y:d.natAbs≤1000000000000):
  agm A (i+1) ((over+d) / 10000) (out++[((over+d)%10000).toNat]):=by
 have Z:=gL hd;have:=h.b1;refine⟨by simp[h.len],h.ahk _,LQ h ?_,by omega,by omega⟩;rw[Vr hd];omega
section
variable (hi:A.length≤i)(hA:0≤jT 10000 A)
include hi hA
theorem agm.ovr:0≤over:=by
 have X:A.drop i=[]:=List.drop_of_length_le hi;have Z:=h.val;rw[X] at Z;have V:jT 10000 []=0:=rfl;rw[V,Int.zero_add] at Z;have U:=gK h.ok;rw[h.len] at U;have S :(au 10000 out:Int)<10000 ^ i:=by have:((10000 ^ i:Nat):Int)=(10000:Int) ^ i:=Int.natCast_pow ..;rw[←this];omega
 rcases Int.lt_or_le over 0 with h0 | h0
 ·exfalso
  have R:(0:Int)<10000 ^ i:=Int.pow_pos (by omega);generalize (10000:Int) ^ i=p at*;have:p*over≤p*(-1):=Int.mul_le_mul_of_nonneg_left (by omega) (by omega);omega
 ·exact h0
theorem agm.more(y:over≠0):
  agm A (i+1) (over / 10000) (out++[(over%10000).toNat]):=by
 have V:=h.ovr hi hA;have:=h.b1;have:=h.b2;have X:A.drop i=[]:=List.drop_of_length_le hi;have Z:A.drop (i+1)=[]:=List.drop_of_length_le (by omega);refine⟨by simp[h.len],h.ahk _,LQ h ?_,by omega,by omega⟩;rw[X,Z];show 0+over=over+10000*0
 omega
end
end
theorem agm.done(h:agm A i 0 out)(y:A.length≤i):aU out=dig 10000 (jT 10000 A).toNat:=by have X:A.drop i=[]:=List.drop_of_length_le y;have Z:=h.val;rw[X] at Z;have V:jT 10000 []=0:=rfl;rw[V,Int.zero_add,Int.mul_zero,Int.add_zero] at Z;rw[←Z,Int.toNat_natCast,dJ (by omega) h.ok]
def jn(k:Int):List Nat→List Nat→List Int
 |a,[]=>Vv a
 | [],b::bs=>(k*(b:Int))::jn k [] bs
 |a::al,b::bs=>((a:Int)+k*(b:Int))::jn k al bs
theorem Fz(k:Int)(a:List Nat):jn k a []=Vv a:=by cases a<;>rfl
theorem PJ(k:Int):∀(a b:List Nat),jT 10000 (jn k a b)=(au 10000 a:Int)+k*(au 10000 b:Int)
 |a,[]=>by rw[Fz];have:=M5 10000 a;rw[show((10000:Nat):Int)=10000 from rfl] at this;rw[this];simp[au]
 | [],b::Z=>by
  rw[jn,jT,PJ k [] Z];simp only[au,Int.natCast_add,Int.natCast_mul];show k*(b:Int)+10000*(((0:Nat):Int)+k*(au 10000 Z:Int))=((0:Nat):Int)+k*((b:Int)+(10000:Int)*(au 10000 Z:Int))
  grind
 |a::X,b::Z=>by
  rw[jn,jT,PJ k X Z,au,au,Int.natCast_add,Int.natCast_mul,Int.natCast_add,Int.natCast_mul];show(a:Int)+k*(b:Int)+10000*((au 10000 X:Int)+k*(au 10000 Z:Int))=(a:Int)+(10000:Int)*(au 10000 X:Int)+k*((b:Int)+(10000:Int)*(au 10000 Z:Int))
  grind
theorem sM(k:Int):∀(a b:List Nat),(jn k a b).length=max a.length b.length
 |a,[]=>by rw[Fz];simp[Vv]
 | [],b::bs=>by rw[jn,List.length_cons,sM k [] bs];simp
 |a::al,b::bs=>by rw[jn,List.length_cons,sM k al bs];simp only[List.length_cons];omega
theorem Bp{k:Int}(hk:k.natAbs≤10000):∀{a b:List Nat},lok 10000 a=true→lok 10000 b=true→∀d∈jn k a b,d.natAbs≤1000000000
 |a,[],ha,_,d,hd=>by rw[Fz] at hd;simp only[Vv,List.mem_map] at hd;obtain⟨x,Z,rfl⟩:=hd;have:=List.all_eq_true.1 ha x Z;simp at this;omega
 | [],b::bs,ha,hb,d,hd=>by
  rw[jn,List.mem_cons] at hd;rw[cL,Bool.and_eq_true,decide_eq_true_eq] at hb;rcases hd with rfl | hd
  ·rw[Int.natAbs_mul,Int.natAbs_natCast]
   have:k.natAbs*b≤10000*10000:=Nat.mul_le_mul hk (by omega);omega
  ·exact Bp hk ha hb.2 d hd
 |a::al,b::bs,ha,hb,d,hd=>by
  rw[jn,List.mem_cons] at hd;rw[cL,Bool.and_eq_true,decide_eq_true_eq] at hb ha;rcases hd with rfl | hd
  ·have X:(k*(b:Int)).natAbs≤10000*10000:=by rw[Int.natAbs_mul,Int.natAbs_natCast];exact Nat.mul_le_mul hk (by omega)
   omega
  ·exact Bp hk ha.2 hb.2 d hd
theorem Bk(y:Int)(J:List Int)(i:Nat):(if (y::J).length≤i+1 then y::J++[0] else y::J)=y::(if J.length≤i then J++[0] else J):=by simp only[List.length_cons,Nat.add_le_add_iff_right];split<;>rfl
theorem O9(k:Int):∀(A B:List Nat) (i b:Nat),B[i]? =some b→∃x,(if (jn k A (B.take i)).length≤i then jn k A (B.take i)++[0] else jn k A (B.take i))[i]? =some x∧
  (if (jn k A (B.take i)).length≤i then jn k A (B.take i)++[0] else jn k A (B.take i)).set i (x+k*(b:Int))=jn k A (B.take (i+1))
 |_,[],_,_,h=>by simp at h
 |A,c::B,0,b,h=>by
  simp only[List.getElem?_cons_zero,Option.some.injEq] at h;subst h;rw[List.take_zero,Fz];cases A with
  |nil=>exact⟨0,rfl,by simp[jn,Vv]⟩
  |cons a A=>exact⟨a,by simp[Vv],by simp[jn,Vv]⟩
 |A,c::B,i+1,b,h=>by
  simp only[List.getElem?_cons_succ] at h;rw[List.take_succ_cons,List.take_succ_cons];cases A with
  |nil=>
   obtain⟨x,Z,X⟩:=O9 k [] B i b h;refine⟨x,?_,?_⟩
   ·rw[jn,Bk];simpa using Z
   ·rw[jn,jn,←X,Bk];simp
  |cons a A=>
   obtain⟨x,Z,X⟩:=O9 k A B i b h;refine⟨x,?_,?_⟩
   ·rw[jn,Bk];simpa using Z
   ·rw[jn,jn,←X,Bk];simp
def jl(x:Int):List Nat→List Int→List Int
 | [],o=>o
 |_::_,[]=>[]
 |b::bs,d::o=>(d+x*(b:Int))::jl x bs o
theorem ov(x:Int)(o:List Int):jl x [] o=o:=by cases o<;>rfl
theorem qh(x:Int):∀(b:List Nat) (o:List Int),b.length≤o.length→(jl x b o).length=o.length
 | [],o,_=>by rw[ov]
 |b::bs,[],h=>by simp at h
 |b::bs,d::o,h=>by simp only[List.length_cons,Nat.add_le_add_iff_right] at h;rw[jl,List.length_cons,qh x bs o h,List.length_cons]
theorem DY(x:Int):∀(b:List Nat) (o:List Int),b.length≤o.length→jT 10000 (jl x b o)=jT 10000 o+x*(au 10000 b:Int)
 | [],o,_=>by rw[ov];simp[au]
 |b::y,[],h=>by simp at h
 |b::y,d::o,h=>by
  simp only[List.length_cons,Nat.add_le_add_iff_right] at h;rw[jl,jT,DY x y o h,jT,au,Int.natCast_add,Int.natCast_mul];show d+x*(b:Int)+10000*(jT 10000 o+x*(au 10000 y:Int))=d+10000*jT 10000 o+x*((b:Int)+(10000:Int)*(au 10000 y:Int))
  grind
theorem zC{x:Int}{m c:Nat}(hc:10000*10000≤c)(y:x.natAbs≤10000):∀{b:List Nat} {o:List Int},lok 10000 b=true→(∀d∈o,d.natAbs≤m)→∀d∈jl x b o,d.natAbs≤m+c
 | [],o,_,ho,d,Z=>by rw[ov] at Z;have:=ho d Z;omega
 |b::bs,[],_,_,d,Z=>by simp[jl] at Z
 |b::bs,e::o,hb,ho,d,Z=>by
  rw[jl,List.mem_cons] at Z;rw[cL,Bool.and_eq_true,decide_eq_true_eq] at hb;rcases Z with rfl | Z
  ·have X:(x*(b:Int)).natAbs≤10000*10000:=by rw[Int.natAbs_mul,Int.natAbs_natCast];exact Nat.mul_le_mul y (by omega)
   have:=ho e (by simp);omega
  ·exact zC hc y hb.2 (fun d Z=>ho d (by simp[Z])) d Z
theorem CF(x:Int):∀(B:List Nat) (o:List Int) (k b:Nat) (y:Int),B[k]? =some b→o[k]? =some y→(jl x (B.take k) o)[k]? =some y∧(jl x (B.take k) o).set k (y+x*(b:Int))=jl x (B.take (k+1)) o
 | [],_,_,_,_,h,_=>by simp at h
 |_::_,[],_,_,_,_,h=>by simp at h
 |c' ::B,d::o,0,b,y,h,hy=>by simp only[List.getElem?_cons_zero,Option.some.injEq] at h hy;subst h hy;exact⟨rfl,by simp[jl,ov]⟩
 |c::B,d::o,k+1,b,y,h,hy=>by simp only[List.getElem?_cons_succ] at h hy;obtain⟨Z,X⟩:=CF x B o k b y h hy;rw[List.take_succ_cons,List.take_succ_cons,jl,jl];exact⟨by simpa using Z,by simpa using X⟩
def tzR(A B:List Nat):Nat→List Int
 |0=>List.replicate (A.length+B.length) 0
 |i+1=>(tzR A B i).take i++jl ((A.getD i 0:Nat):Int) B ((tzR A B i).drop i)
theorem HU{A B:List Nat}{c:Nat}(hc:10000*10000≤c)(y:lok 10000 A=true)(H:lok 10000 B=true):∀i,i≤A.length→(tzR A B i).length=A.length+B.length∧jT 10000 (tzR A B i)=(au 10000 (A.take i):Int)*(au 10000 B:Int)∧∀d∈tzR A B i,d.natAbs≤i*c
 |0,_=>by refine⟨by simp[tzR],by rw[tzR,mD];simp[au],fun d Z=>?_⟩;rw[tzR] at Z;rw[(List.mem_replicate.1 Z).2];simp
 |i+1,h=>by
  obtain⟨N,U,h3⟩:=HU hc y H i (by omega);obtain⟨x,X,S⟩:∃x,A[i]? =some x∧A.getD i 0=x:=⟨A[i],by simp,by simp[List.getD,show i<A.length by omega]⟩
  have R:=eh y X;have V:B.length≤((tzR A B i).drop i).length:=by rw[List.length_drop];omega
  rw[tzR,S];refine⟨?_,?_,fun d Z=>?_⟩
  ·rw[List.length_append,qh _ _ _ V,List.length_take,List.length_drop];omega
  ·rw[wH,DY _ _ _ V,List.length_take,Nat.min_eq_left (by omega)]
   have Q:jT 10000 (tzR A B i)=jT 10000 ((tzR A B i).take i)+10000 ^ i*jT 10000 ((tzR A B i).drop i):=by
    conv=>lhs;rw[←List.take_append_drop i (tzR A B i)]
    rw[wH,List.length_take,Nat.min_eq_left (by omega)]
   have O:A.take (i+1)=A.take i++[x]:=by rw[List.take_add_one,X];rfl
   rw[O,Mo,List.length_take,Nat.min_eq_left (by omega),Int.natCast_add,Int.natCast_mul,Int.natCast_pow,Int.add_mul,←U,Q];show _=_+(10000:Int) ^ i*(x:Int)*(au 10000 B:Int)
   rw[Int.mul_add,Int.mul_assoc,Int.add_assoc]
  ·rcases List.mem_append.1 Z with Z | Z
   ·have:=h3 d (List.mem_of_mem_take Z)
    rw[Nat.add_mul];omega
   ·have:=zC (x:=(x:Int)) (m:=i*c) hc (by omega) H (fun d Z=>h3 d (List.mem_of_mem_drop Z)) d Z
    rw[Nat.add_mul,Nat.one_mul];exact this
end Go.Eng
namespace Go.Proofs
open Go.Eng
open Tryz
variable{K:Nat}{O:afF}{b:Code}{lv:Code→List Nat}
theorem EE(A:List Nat)(J:A.length≤4000000000000)(I:A.length<K)(H:ah f190=[b])(y:lv b=[0]):
  ∃F:Env→Bool→Env,∀Z d,ad Z 0=.slice 0 0 A.length none→
   aW (bh prog) lv O K 21 1 true (.loop b) ⟨Z,[.cells false 1 (iN .i64 A)],d⟩=some (.exit 0,⟨F Z d,[.cells false 1 (iN .i64 A)],d⟩)∧ad (F Z d) 0=.slice 0 0 (aU A).length none:=by
 refine bj y (fun Z=>ad Z 0=.slice 0 0 A.length none) (fun _ M =>ad M 0=.slice 0 0 (aU A).length none) ?_;clear y;intro Z d L;simp[ah,aE,f190] at H;have S:aA [0] (ae b) Z ((0,.slice 0 0 A.length none)::Z)=aA [0] (ae b) Z Z:=by simp[aA,L]
 rw[←S];refine bz (α:=Nat) (fun n=>⟨aA [0] (ae b) Z ((0,.slice 0 0 n none)::Z),[.cells false 1 (iN .i64 A)],d⟩) id (fun n=>n≤A.length∧aU (A.take n)=aU A) (.exit 0) _ d _ (by simp) ?_ K A.length ⟨Nat.le_refl _,by rw[List.take_length]⟩ I;rintro n ⟨hn1,hn2⟩;clear S;subst H;cases n with
 |zero=>
  right;rw[←hn2];simp[aU]
 |succ n=>
  have G:n<A.length:=by omega
  obtain⟨x,V⟩:∃x,A[n]? =some x:=⟨A[n],by simp[G]⟩
  have R:IntKind.i64.wrap (n:Int)=(n:Int):=af;have Q:(n:Int)<(n:Int)+1:=by omega
  have N:0<(n:Int)+1:=by omega
  by_cases X:x=0
  ·subst X
   left;refine⟨n,?_⟩;have h3:(n:Int)≤(n:Int)+1:=by omega
   have U:n+1≤A.length:=by omega
   simp[R,Q,N,h3,U,V];exact⟨by omega,by rw[←sQ V];exact hn2⟩
  ·right
   rw[←hn2,sP V X];have U:min (n+1) A.length=n+1:=by omega
   simp[R,Q,N,U,V,X]
theorem Rg(A:List Nat)(y:A.length≤4000000000000):kO prog 190 [.slice 0 0 A.length none] [.cells false 1 (iN .i64 A)] (.slice 0 0 (aU A).length none) [.cells false 1 (iN .i64 A)]:=by
 have X:aS prog 190=some f190:=by kernel_rfl
 obtain⟨b,Z⟩:∃b,ah f190=[b]:=⟨_,rfl⟩
 obtain⟨F,V⟩:=EE (O:=cF) (K:=A.length+1) (lv:=fun _=>[0]) A y (by omega) Z rfl;simp[ah,aE,f190] at Z;subst Z;refine cE (lv:=(fun _=>[0])) (K:=(A.length+1)) (aw _) ?_;simp[aa,X,f190,V]
theorem Cl(A B:List Nat)(W:lok 10000 A=true)(Y:lok 10000 B=true)(hl:A.length≤1000000000)(I:A.length=B.length)(hK:A.length<K)(J:ah f184=[b])(H:lv b=[5]):
  ∃F:Env→Bool→Env,∀Z d,(ad Z 0=.slice 0 0 A.length none∧ad Z 1=.slice 1 0 A.length none∧ad Z 5=.int .i64 ((A.length:Int)-1))→
   aW (bh prog) lv O K 41 2 true (.loop b) ⟨Z,[.cells false 1 (iN .i64 A),.cells false 1 (iN .i64 B)],d⟩=some (if A=B then .exit 0 else .ret,⟨F Z d,[.cells false 1 (iN .i64 A),.cells false 1 (iN .i64 B)],d⟩)∧
    (A≠B→ad (F Z d) 4=.bool (decide (au 10000 A<au 10000 B))):=by
 refine bj H (fun Z=>ad Z 0=.slice 0 0 A.length none∧ad Z 1=.slice 1 0 A.length none∧ad Z 5=.int .i64 ((A.length:Int)-1)) (fun _ C =>A≠B→ad C 4=.bool (decide (au 10000 A<au 10000 B))) ?_;clear H;rintro Z d ⟨h0,h1,h5⟩;simp[ah,aE,f184] at J;have G:aA [5] (ae b) Z ((5,.int .i64 ((A.length:Int)-1))::Z)=aA [5] (ae b) Z Z:=by simp[aA,h5]
 rw[←G];refine bz (α:=Nat) (fun n=>⟨aA [5] (ae b) Z ((5,.int .i64 ((n:Int)-1))::Z),[.cells false 1 (iN .i64 A),.cells false 1 (iN .i64 B)],d⟩) id (fun n=>n≤A.length∧A.drop n=B.drop n) (if A=B then .exit 0 else .ret) _ d _ (by split<;>simp) ?_ K A.length ⟨Nat.le_refl _,by rw[List.drop_length,I,List.drop_length]⟩ hK;rintro n ⟨hn1,hn2⟩;clear G;subst J;cases n with
 |zero=>
  right;rw[List.drop_zero,List.drop_zero] at hn2;simp[hn2]
 |succ n=>
  have N:n<A.length:=by omega
  have V:n<B.length:=by omega
  obtain⟨x,M,D⟩:=cO N;obtain⟨y,Q,R⟩:=cO V;have u:(((n+1:Nat):Int)-1)=(n:Int):=by omega
  have o:IntKind.i64.wrap ((n:Int)-1)=(n:Int)-1:=af;rw[u];by_cases U:x=y
  ·left
   subst U;refine⟨n,?_⟩;simp[h0,h1,D,R,N,V,o];exact⟨by omega,L3 hn2 M Q⟩
  ·right
   have m:A≠B:=by rintro rfl;rw[M] at Q;cases Q;exact U rfl
   have S:=T0 W Y I hn2 M Q U;have j:decide (au 10000 A<au 10000 B)=decide (x<y):=by
    unfold kq at S;by_cases X:x<y
    ·rw[if_pos X] at S
     have:au 10000 A<au 10000 B:=by
      rcases Nat.lt_or_ge (au 10000 A) (au 10000 B) with h | h
      ·exact h
      ·rw[if_neg (by omega)] at S;split at S<;>omega
     simp[X,this]
    ·rw[if_neg X] at S
     have:¬au 10000 A<au 10000 B:=by intro h;rw[if_pos h] at S;omega
     simp[X,this]
   have L :¬((x:Int)=(y:Int)):=by omega
   simp[h0,h1,D,R,N,V,L,m,j]
theorem NJ(A B:List Nat)(y:lok 10000 A=true)(H:lok 10000 B=true)(I:A.length≤1000000000)(tA:aU A=A)(J:aU B=B):
  kO prog 184 [.slice 0 0 A.length none,.slice 1 0 B.length none] [.cells false 1 (iN .i64 A),.cells false 1 (iN .i64 B)] (.bool (decide (au 10000 A<au 10000 B))) [.cells false 1 (iN .i64 A),.cells false 1 (iN .i64 B)]:=by
 have S:aS prog 184=some f184:=by kernel_rfl
 obtain⟨b,R⟩:∃b,ah f184=[b]:=⟨_,rfl⟩
 refine cE (lv:=(fun _=>[5])) (K:=(A.length+1)) (aw _) ?_;have M:dig 10000 (au 10000 A)=A:=by rw[dJ (by omega) y,tA]
 have L:dig 10000 (au 10000 B)=B:=by rw[dJ (by omega) H,J]
 by_cases Q:A.length=B.length
 ·have Z:=Cl (O:=cF) (K:=A.length+1) (lv:=fun _=>[5]) A B y H I Q (by omega) R rfl
  simp[ah,aE,f184] at R;subst R;obtain⟨F,Z⟩:=Z;have G:IntKind.i64.wrap ((B.length:Int)-1)=(B.length:Int)-1:=af;by_cases X:A=B
  ·subst X
   have V:¬au 10000 A<au 10000 A:=by omega
   rw[if_pos rfl] at Z;simp[aa,S,f184,Z,G,V]
  ·rw[if_neg X] at Z
   simp only[Q] at Z;simp[aa,S,f184,Z,Q,G,X]
 ·have U :¬((A.length:Int)=B.length):=by omega
  by_cases N:A.length<B.length
  ·have D:au 10000 A<au 10000 B:=dI (B:=10000) (by omega) (by rw[M,L];exact N)
   have V:=D;simp[aa,S,f184,U,N,V]
  ·have D:au 10000 B<au 10000 A:=dI (B:=10000) (by omega) (by rw[M,L];omega)
   have V:¬au 10000 A<au 10000 B:=by omega
   simp[aa,S,f184,U,N,V]
def caM(A:List Int):List Nat→Mem
 | []=>[.cells false 1 (iZ A)]
 |x::l=>[.cells false 1 (iZ A),.cells true 1 (iN .i64 (x::l))]
def caO:List Nat→AV
 | []=>.qF
 |_::l=>.slice 1 0 (l.length+1) none
def caC:Nat:=1000000000001
theorem YJ:1000000000000<caC:=by decide
theorem BR(A:List Int)(hA:0≤jT 10000 A)(hb:∀d∈A,d.natAbs≤1000000000000)(hl:A.length≤10000000)(hK:A.length*caC+caC<K)(H:ah f192=[b]):
  ∃F:Env→Bool→Env×Mem×List Nat,∀V d,(ad V 0=.slice 0 0 A.length none∧ad V 3=.qF∧ad V 4=.int .i64 0∧ad V 5=.int .i64 0)→
   aW (bh prog) (fun _=>[3,4,5]) O K 43 1 true (.loop b) ⟨V,caM A [],d⟩=some (.exit 0,⟨(F V d).1,(F V d).2.1,d⟩)∧
   ((F V d).2.1=caM A (F V d).2.2∧ad (F V d).1 3=caO (F V d).2.2∧aU (F V d).2.2=dig 10000 (jT 10000 A).toNat∧A.length≤(F V d).2.2.length∧(F V d).2.2.length≤2000000000000):=by
 refine qu (β:=List Nat) rfl (fun V=>ad V 0=.slice 0 0 A.length none∧ad V 3=.qF∧ad V 4=.int .i64 0∧ad V 5=.int .i64 0)
  (fun _ AC j X=>j =caM A X∧ad AC 3=caO X∧aU X=dig 10000 (jT 10000 A).toNat∧A.length≤X.length∧X.length≤2000000000000) ?_
 rintro V d ⟨h0,h3,h4,h5⟩;have u:aA [3,4,5] (ae b) V ((3,caO [])::(4,.int .i64 0)::(5,.int .i64 ((0:Nat):Int))::V)=aA [3,4,5] (ae b) V V:=by simp[aA,h3,h4,h5,caO]
 rw[←u];refine oP (α:=Nat×Int×List Nat) (fun s=>⟨aA [3,4,5] (ae b) V ((3,caO s.2.2)::(4,.int .i64 s.2.1)::(5,.int .i64 (s.1:Int))::V),caM A s.2.2,d⟩)
  (fun s=>(A.length-s.1)*caC+s.2.1.natAbs) (fun s=>agm A s.1 s.2.1 s.2.2) (.exit 0) d _ (by simp) ?_ K (0,0,[]) (agm.start A) (by show(A.length-0)*caC+0<K;rw[Nat.sub_zero];omega)
 rintro ⟨i,Z,X⟩ hI;simp only at hI ⊢;clear u;have b1:=hI.b1;have b2:=hI.b2;have C:=hI.len;simp[ah,aE,f192] at H;by_cases o:i<A.length
 ·left
  obtain⟨x,hx⟩:∃x,A[i]? =some x:=⟨A[i],by simp[o]⟩
  have J :A[i]=x:=by have:=List.getElem?_eq_getElem o;rw[hx] at this;exact(Option.some.inj this).symm
  have hxb:=hb x (List.mem_of_getElem? hx);have B:=hI.next hx hxb;have L:=B.b1;refine⟨(i+1,(Z+x) / 10000,X++[((Z+x)%10000).toNat]),?_⟩;refine bP (show agm A (i+1) _ _∧_ from⟨B,by
   have:=YJ;show(A.length-(i+1))*caC+((Z+x) / 10000).natAbs<(A.length-i)*caC+Z.natAbs
   have e:A.length-i=A.length-(i+1)+1:=by omega
   rw[e,Nat.add_mul,Nat.one_mul];generalize (A.length-(i+1))*caC=p;omega⟩) ?_
  clear B;obtain⟨s,hs⟩:=xE (Z+x);have w1:IntKind.i64.wrap (Z+x)=s:=by rw[←hs];exact af
  rw[←hs] at L ⊢;have R:=zZ s;have N:=QB s;obtain⟨n,u⟩:∃n:Nat,(n:Int)=s%10000:=⟨(s%10000).toNat,Int.toNat_of_nonneg (by omega)⟩
  rw[←u] at R N ⊢;rw[Int.toNat_natCast];obtain⟨q,hq⟩:=xE (s / 10000);rw[←hq] at L N ⊢;obtain⟨m,M⟩:=xE (s.tmod 10000);rw[←M] at R;have hmb:m.natAbs<10000:=by rw[M,Int.natAbs_tmod];exact Nat.mod_lt _ (by decide)
  have w2:IntKind.i64.wrap (m+10000)=m+10000:=af;have w3:IntKind.i64.wrap (s-(n:Int))=s-(n:Int):=af;have w6:IntKind.i64.wrap (n:Int)=(n:Int):=af;have w4:IntKind.i64.wrap q=q:=af;have w5:IntKind.i64.wrap ((i:Int)+1)=((i+1:Nat):Int):=by rw[af];omega
  have S:(i:Int)<(A.length:Int):=by omega
  subst H;cases X with
  |nil=>
   simp only[List.length_nil] at C;by_cases U:m<0
   ·rw[if_pos U] at R
    simp[caM,caO,h0,o,S,J,w1,←M,U,R,w3,N,w4,w5,w6,ca]
   ·rw[if_neg U] at R
    have Q:¬(n:Int)<0:=by omega
    simp[caM,caO,h0,o,S,J,w1,←M,Q,R,w3,N,w4,w5,ca]
  |cons y l=>
   simp only[List.length_cons] at C;have I:(iN .i64 l).take l.length=iN .i64 l:=List.take_of_length_le (by simp);have G:(l.length+1+1)*8≤140737488355328:=by omega
   have D:l.length+1+1≤140737488355328:=by omega
   by_cases U:m<0
   ·rw[if_pos U] at R
    simp[caM,caO,h0,o,S,J,w1,←M,U,R,w3,N,w4,w5,w6,I,G,D,ca,dn]
   ·rw[if_neg U] at R
    have Q:¬(n:Int)<0:=by omega
    simp[caM,caO,h0,o,S,J,w1,←M,Q,R,w3,N,w4,w5,I,G,D,ca,dn]
 ·have S:¬(i:Int)<(A.length:Int):=by omega
  by_cases ho:Z=0
  ·right
   subst ho;have Y:=hI.done (by omega);have hl1:A.length≤X.length:=by omega
   have W:X.length≤2000000000000:=by omega
   clear hI b1 b2;subst H;cases X with
   |nil=>
    simp only[List.length_nil] at C;subst C;have hA0:A.length=0:=by omega
    simp[caM,caO,h0,hA0];exact⟨_,_,⟨rfl,rfl⟩,[],rfl,rfl,Y,W⟩
   |cons y l=>
    simp only[List.length_cons] at C;simp[caM,caO,h0,S];exact⟨_,_,⟨rfl,rfl⟩,y::l,rfl,rfl,Y,hl1,W⟩
  ·left
   have B:=hI.more (by omega) hA ho;have h00:=hI.ovr (by omega) hA;have L:=B.b1;refine⟨(i+1,Z / 10000,X++[(Z%10000).toNat]),?_⟩;refine bP (show agm A (i+1) _ _∧_ from⟨B,by
    show(A.length-(i+1))*caC+(Z / 10000).natAbs<(A.length-i)*caC+Z.natAbs
    have e:A.length-i=A.length-(i+1):=by omega
    rw[e];generalize (A.length-(i+1))*caC=p;omega⟩) ?_
   clear B;have R:=zZ Z;have N:=QB Z;obtain⟨n,u⟩:∃n:Nat,(n:Int)=Z%10000:=⟨(Z%10000).toNat,Int.toNat_of_nonneg (by omega)⟩
   rw[←u] at R N ⊢;rw[Int.toNat_natCast];obtain⟨q,hq⟩:=xE (Z / 10000);rw[←hq] at L N ⊢;obtain⟨m,M⟩:=xE (Z.tmod 10000);rw[←M] at R;have hmb:0≤m:=by rw[M];exact Int.tmod_nonneg _ h00
   have U:¬m<0:=by omega
   rw[if_neg U] at R;have Q:¬(n:Int)<0:=by omega
   have w3:IntKind.i64.wrap (Z-(n:Int))=Z-(n:Int):=af;have w6:IntKind.i64.wrap (n:Int)=(n:Int):=af;have w4:IntKind.i64.wrap q=q:=af;have w5:IntKind.i64.wrap ((i:Int)+1)=((i+1:Nat):Int):=by rw[af];omega
   subst H;cases X with
   |nil=>
    simp only[List.length_nil] at C;simp[caM,caO,h0,S,ho,←M,Q,R,w3,N,w4,w5,ca]
   |cons y l=>
    simp only[List.length_cons] at C;have I:(iN .i64 l).take l.length=iN .i64 l:=List.take_of_length_le (by simp);have G:(l.length+1+1)*8≤140737488355328:=by omega
    have D:l.length+1+1≤140737488355328:=by omega
    simp[caM,caO,h0,S,ho,←M,Q,R,w3,N,w4,w5,I,G,D,ca,dn]
variable{M:Mem}{x:AV}
theorem NI{A:List Nat}(y:A.length≤4000000000000)(H:af0 .i64 M x A):∃b,x=.slice b 0 A.length none∧kO prog 190 [x] M (.slice b 0 (aU A).length none) M:=by obtain⟨b,e,h⟩:=kO.ahp (new:=[]) (rest:=[]) rfl rfl (Rg A y) H;refine⟨b,e,?_⟩;simpa [AV.ren,fj] using h
theorem Gk(M:Mem):kO prog 190 [.qF] M .qF M:=by
 have Z:aS prog 190=some f190:=by kernel_rfl
 refine cK (aw _) (lv:=fun _=>[0]) (K:=1) rfl rfl ?_ M;simp[aa,Z,f190,aT,ga]
variable{y:AV}
theorem IE{A B:List Nat}(H:lok 10000 A=true)(I:lok 10000 B=true)(J:A.length≤1000000000)(tA:aU A=A)(W:aU B=B)(Y:af0 .i64 M x A)(hy:af0 .i64 M y B):
  kO prog 184 [x,y] M (.bool (decide (au 10000 A<au 10000 B))) M:=by
 obtain⟨b,c,Z,X,h⟩:=kO.agM (new:=[]) rfl (NJ A B H I J tA W) Y hy;simpa [AV.ren] using h
noncomputable def cI:afF:=fun c Z M=>match c,Z with
 |.fn 190,[.qF]=>some ⟨.qF,none,[]⟩
 |.fn 190,[x]=>match x,aZ .i64 M x with
  |.slice b _ _ _,some A=>if A.length≤4000000000000 then some ⟨.slice b 0 (aU A).length none,none,[]⟩ else none
  |_,_=>none
 |.fn 184,[x,y]=>match aZ .i64 M x,aZ .i64 M y with
  |some A,some B=>if lok 10000 A=true∧lok 10000 B=true∧A.length≤1000000000∧aU A=A∧aU B=B then some ⟨.bool (decide (au 10000 A<au 10000 B)),none,[]⟩ else none
  |_,_=>none
 |_,_=>none
theorem zx:qS prog cI:=by
 refine cf fun c X M r h=>?_
 unfold cI at h;split at h
 ·cases h
  refine aC ?_;rw[List.append_nil];exact Gk M
 ·split at h
  ·rename_i Z
   split at h
   ·rename_i V
    cases h;obtain⟨b,e,h⟩:=NI V (ba Z);cases e;refine aC ?_;rw[List.append_nil];exact h
   ·cases h
  ·cases h
 ·split at h
  ·rename_i Z U
   split at h
   ·rename_i S
    obtain⟨R,Q,N,L,G⟩:=S;cases h;refine aC ?_;rw[List.append_nil];exact IE R Q N L G (ba Z) (ba U)
   ·cases h
  ·cases h
 ·cases h
theorem Ej(A:List Int)(H:A≠[])(I:0≤jT 10000 A)(J:∀d∈A,d.natAbs≤1000000000000)(W:A.length≤10000000):
  ∃V,aa (bh prog) (fun _=>[3,4,5]) (aS prog) cI (A.length*caC+caC+1) 192 [.slice 0 0 A.length none] [.cells false 1 (iZ A)]=
   some ⟨.slice 1 0 (dig 10000 (jT 10000 A).toNat).length none,none,[.cells true 1 (iN .i64 V)]⟩∧aU V=dig 10000 (jT 10000 A).toNat:=by
 have D:aS prog 192=some f192:=by kernel_rfl
 obtain⟨b,U⟩:∃b,ah f192=[b]:=⟨_,rfl⟩
 obtain⟨F,S⟩:=BR (O:=cI) (K:=A.length*caC+caC+1) A I J W (by omega) U;have X:∀Z d,(ad Z 0=.slice 0 0 A.length none∧ad Z 3=.qF∧ad Z 4=.int .i64 0∧ad Z 5=.int .i64 0)→
   aW (bh prog) (fun _=>[3,4,5]) cI (A.length*caC+caC+1) 43 1 true (.loop b) ⟨Z,[.cells false 1 (iZ A)],d⟩=some (.exit 0,⟨(F Z d).1,[.cells false 1 (iZ A),.cells true 1 (iN .i64 (F Z d).2.2)],d⟩)∧
   ad (F Z d).1 3=.slice 1 0 (F Z d).2.2.length none∧aU (F Z d).2.2=dig 10000 (jT 10000 A).toNat∧(F Z d).2.2.length≤4000000000000:=by
  intro Z d C;obtain⟨R,B,h3,Q,N,u⟩:=S Z d C;have L:=List.length_pos_iff.2 H;cases ho:(F Z d).2.2 with
  |nil=>rw[ho] at N;exact absurd (List.eq_nil_of_length_eq_zero (Nat.le_zero.1 N)) H
  |cons y l=>
   rw[B,ho] at R;rw[ho] at h3 Q u;exact⟨R,h3,Q,by omega⟩
 clear S;have m:∀(G:afU) (o:List Nat) l,aZ .i64 (G::.cells true 1 (iN .i64 o)::l) (.slice 1 0 o.length none)=some o:=fun G o l=>aP rfl (by simp) (List.take_of_length_le (by simp))
 obtain⟨K,j⟩:=xE (A.length*caC+caC+1);rw[←j] at X ⊢;simp[ah,aE,f192] at U;subst U;simp[aa,D,f192,cI,X,m];exact⟨_,rfl,(X _ _ ⟨rfl,rfl,rfl,rfl⟩).2.2.1⟩
theorem H5{A:List Int}(I:A≠[])(J:0≤jT 10000 A)(H:∀d∈A,d.natAbs≤1000000000000)(W:A.length≤10000000)(Y:Zr M x A):
  kO prog 192 [x] M (.slice M.length 0 (dig 10000 (jT 10000 A).toNat).length none) (M++[.cells true 1 (iN .i64 (dig 10000 (jT 10000 A).toNat))]):=by
 obtain⟨Z,X,V⟩:=Ej A I J H W;have h3:=(ar aj (aK _) zx (aR _) X).1;simp only[y9.mem,Option.getD_none,List.cons_append,List.nil_append] at h3;have U:=kO.agQ (m2:=[.cells false 1 (iZ A),.cells true 1 (iN .i64 (dig 10000 (jT 10000 A).toNat))]) h3 rfl (fun b s H=>by
  match b with
  |0=>simp at H;subst H;exact⟨_,rfl,.inl rfl⟩
  |1=>simp at H;subst H;exact⟨_,rfl,.row (by rw[←V];exact dp _)⟩
  |b+2=>simp at H)
 obtain⟨b,rfl,S⟩:=kO.ahZ (new:=[.cells true 1 (iN .i64 (dig 10000 (jT 10000 A).toNat))]) (rest:=[]) rfl rfl U Y;simpa [AV.ren,fj] using S
def zsm(A:List Int):Bool:=A.all fun d=>decide (d.natAbs≤1000000000000)
noncomputable def cq:afF:=fun c Z M=>match c,Z with
 |.fn 192,[x]=>match zY M x with
  |some A=>if A≠[]∧0≤jT 10000 A∧zsm A=true∧A.length≤10000000 then some ⟨.slice M.length 0 (dig 10000 (jT 10000 A).toNat).length none,none,[.cells true 1 (iN .i64 (dig 10000 (jT 10000 A).toNat))]⟩ else none
  |none=>none
 |c,Z=>cI c Z M
theorem mU:qS prog cq:=by
 refine cf fun c Z M r h=>?_
 unfold cq at h;split at h
 ·split at h
  ·rename_i X
   split at h
   ·rename_i V
    obtain⟨U,S,R,Q⟩:=V;cases h;exact aC (H5 U S (fun d N=>by simpa using List.all_eq_true.1 R d N) Q (PD X))
   ·cases h
  ·cases h
 ·exact dN zx h
def jM(H:afU)(A B:List Nat)(k:Int)(i:Nat):Mem:=
 if A.length<i then [H,.cells false 1 (iN .i64 B),.qK,.qK,.cells true 1 (iZ (jn k A (B.take i)))]
 else [H,.cells false 1 (iN .i64 B),.qK,.cells true 1 (iZ (jn k A (B.take i)))]
def jO(A:List Nat)(n i:Nat):AV:=if A.length<i then .slice 4 0 n none else .slice 3 0 n none
def jW(c:Code):List Nat:=if (ae c).contains 10 then [9,10] else [9]
theorem Ay(X:List Nat)(A B:List Nat)(k:Int)(hA:lok 10000 A=true)(hB:lok 10000 B=true)(hk:k.natAbs≤10000)(hl:A.length≤1000000)(hl2:B.length≤1000000)(hK:B.length+1<K+2){b2:Code}(H:ah f183=[b,b2]):
  ∃F:Env→Bool→Env,∀Z d,(ad Z 1=.slice 1 0 B.length none∧ad Z 2=.int .i64 k∧ad Z 3=.int .i64 0∧ad Z 9=.slice 3 0 A.length none∧ad Z 10=.int .i64 0)→
   aW (bh prog) jW O (K+2) 45 2 true (.loop b) ⟨Z,[.cells false 1 (iN .i64 X),.cells false 1 (iN .i64 B),.qK,.cells true 1 (iN .i64 A)],d⟩=some (.exit 0,⟨F Z d,jM (.cells false 1 (iN .i64 X)) A B k B.length,d⟩)∧
   ad (F Z d) 9=jO A (jn k A B).length B.length:=by
 have hlv:jW b=[9,10]:=by simp[ah,aE,f183] at H;obtain⟨rfl,rfl⟩:=H;decide
 refine bj hlv (fun Z=>ad Z 1=.slice 1 0 B.length none∧ad Z 2=.int .i64 k∧ad Z 3=.int .i64 0∧ad Z 9=.slice 3 0 A.length none∧ad Z 10=.int .i64 0)
  (fun _ AC =>ad AC 9=jO A (jn k A B).length B.length) ?_
 rintro Z d ⟨h1,h2,h3,h9,h10⟩;have hn:aA [9,10] (ae b) Z ((9,jO A (jn k A (B.take 0)).length 0)::(10,.int .i64 ((0:Nat):Int))::Z)=aA [9,10] (ae b) Z Z:=by simp[aA,h9,h10,jO,Fz,Vv]
 have Y:jM (.cells false 1 (iN .i64 X)) A B k 0=[.cells false 1 (iN .i64 X),.cells false 1 (iN .i64 B),.qK,.cells true 1 (iN .i64 A)]:=by unfold jM;rw[if_neg (by omega),List.take_zero,Fz];exact congrArg (fun r=>[_,_,_,afU.cells true 1 r]) (ZD A).symm
 rw[←hn,←Y];refine bz (α:=Nat) (fun i=>⟨aA [9,10] (ae b) Z ((9,jO A (jn k A (B.take i)).length i)::(10,.int .i64 (i:Int))::Z),jM (.cells false 1 (iN .i64 X)) A B k i,d⟩)
  (fun i=>B.length-i) (fun i=>i≤B.length) (.exit 0) _ d _ (by simp) ?_ (K+2) 0 (Nat.zero_le _) (by simp only[Nat.sub_zero];omega)
 intro i hi;clear hn Y;simp[ah,aE,f183] at H;by_cases hib:i=B.length
 ·right
  subst hib;rw[List.take_length];obtain⟨rfl,rfl⟩:=H;by_cases j:A.length<B.length
  ·simp[jM,jO,j,h1,List.take_length]
  ·simp[jM,jO,j,h1,List.take_length]
 ·left
  have W:i<B.length:=by omega
  obtain⟨x,hx,Z7⟩:=cO W;obtain⟨y,U,S⟩:=O9 k A B i x hx;have I:=sM k A (B.take i);have adY:=sM k A (B.take (i+1));rw[List.length_take,Nat.min_eq_left (by omega)] at I adY;have hxb:=eh hB hx;have L:=Bp hk hA (jC hB i);obtain⟨J,hJ⟩:=xE (jn k A (B.take i));obtain⟨J2,Q⟩:=xE (jn k A (B.take (i+1)));rw[←hJ] at I U S L;rw[←Q] at adY S;have hyb:y.natAbs≤1000000000:=by
   split at U
   ·rcases List.mem_append.1 (List.mem_of_getElem? U) with h | h
    ·exact L y h
    ·simp at h;subst h;decide
   ·exact L y (List.mem_of_getElem? U)
  have hkx:(k*(x:Int)).natAbs≤10000*10000:=by rw[Int.natAbs_mul,Int.natAbs_natCast];exact Nat.mul_le_mul hk (by omega)
  obtain⟨p,hp⟩:=xE (k*(x:Int));have w1:IntKind.i64.wrap (k*(x:Int))=p:=by rw[←hp];exact af
  rw[←hp] at S hkx;have w2:IntKind.i64.wrap (y+p)=y+p:=af;have w3:IntKind.i64.wrap (i:Int)=(i:Int):=af;have w4:IntKind.i64.wrap ((i:Int)+1)=((i+1:Nat):Int):=by rw[af];omega
  have G:(i:Int)<(B.length:Int):=by omega
  obtain⟨R,V⟩:=xE (if J.length≤i then J++[0] else J);rw[←V] at U S;have hi1:i<R.length:=gL U;have D :R[i]=y:=(List.getElem?_eq_some_iff.1 U).2;have Z6:(iZ R).take i++.int .i64 (y+p)::(iZ R).drop (i+1)=iZ J2:=by rw[P8 _ _ _ hi1,S]
  have aeG:R.length=J2.length:=by rw[←S,List.length_set]
  have aeH:(i:Int)<(R.length:Int):=by omega
  obtain⟨rfl,rfl⟩:=H;refine⟨i+1,?_⟩;refine br (show i+1≤B.length∧_ from⟨W,by omega⟩) ?_;have hii:¬((i:Int)+1≤(i:Int)):=by omega
  have adZ:(i:Int)<(i:Int)+1:=by omega
  have hc1:(i+1)*8≤140737488355328:=by omega
  have hc2:i≤140737488355327:=by omega
  rcases Nat.lt_trichotomy A.length i with j | j | j
  ·have N:J.length=i:=by omega
   rw[if_pos (by omega)] at V;have C:iZ J++[AV.int .i64 0]=iZ R:=by rw[V,C9];rfl
   have u:(iZ J).take i=iZ J:=List.take_of_length_le (by simp[N]);have o:R.length=i+1:=by rw[V];simp[N]
   have hs2:A.length<i+1:=by omega
   have m :J2.length=i+1:=by omega
   simp[jM,jO,j,hs2,←hJ,←Q,N,o,m,h1,h2,h3,G,W,w3,aT,ga,jW,C,u,Z7,D,w1,w2,Z6,w4,hc1,hc2,hii,adZ,Nat.testBit]
  ·have N:J.length=i:=by omega
   rw[if_pos (by omega)] at V;have C:iZ J++[AV.int .i64 0]=iZ R:=by rw[V,C9];rfl
   have u:(iZ J).take i=iZ J:=List.take_of_length_le (by simp[N]);have o:R.length=i+1:=by rw[V];simp[N]
   have hs1:¬A.length<i:=by omega
   have hs2:A.length<i+1:=by omega
   have m :J2.length=i+1:=by omega
   simp[jM,jO,hs1,hs2,←hJ,←Q,N,o,m,h1,h2,h3,G,W,w3,aT,ga,jW,C,u,Z7,D,w1,w2,Z6,w4,hc1,hc2,hii,adZ,Nat.testBit]
  ·have N:¬J.length≤i:=by omega
   rw[if_neg N] at V;subst V;have hs1:¬A.length<i:=by omega
   have hs2:¬A.length<i+1:=by omega
   have adt:¬(R.length:Int)≤(i:Int):=by omega
   have aeI :i+1≤R.length:=by omega
   simp[jM,jO,hs1,hs2,←hJ,←Q,adt,←aeG,h1,h2,h3,G,aeH,hi1,aeI,W,w3,aT,ga,jW,Z7,D,w1,w2,Z6,w4,Nat.testBit]
theorem rZ(X A B:List Nat)(k:Int)(p:AV)(hp:(p=.slice 0 0 A.length none∧X=A)∨(p=.qF∧A=[]))(I':A≠[]∨B≠[])(hA:lok 10000 A=true)(hB:lok 10000 B=true)(hk:k.natAbs≤10000)(hl:A.length≤1000000)(I:B.length≤1000000)(H:0≤(au 10000 A:Int)+k*(au 10000 B:Int)):
  aa (bh prog) jW (aS prog) cq (B.length+2) 183 [p,.slice 1 0 B.length none,.int .i64 k,.int .i64 0] [.cells false 1 (iN .i64 X),.cells false 1 (iN .i64 B)]=
   some ⟨.slice 2 0 (dig 10000 ((au 10000 A:Int)+k*(au 10000 B:Int)).toNat).length none,none,[.cells true 1 (iN .i64 (dig 10000 ((au 10000 A:Int)+k*(au 10000 B:Int)).toNat))]⟩:=by
 have W:aS prog 183=some f183:=by kernel_rfl
 obtain⟨b,b2,P'⟩:∃b b2,ah f183=[b,b2]:=⟨_,_,rfl⟩
 obtain⟨F,Z⟩:=Ay (O:=cq) (K:=B.length) X A B k hA hB hk hl I (by omega) P';have V:=sM k A B;have R:=PJ k A B;have Q:=Bp hk hA hB;have j :zsm (jn k A B)=true:=List.all_eq_true.2 fun d hd=>by have:=Q d hd;simp;omega
 have U:jn k A B≠[]:=by
  intro e;rw[e] at V;rcases I' with h | h
  ·have:=List.length_pos_iff.2 h;simp at V;omega
  ·have:=List.length_pos_iff.2 h;simp at V;omega
 rw[←R] at H ⊢;unfold jM jO at Z;rw[List.take_length] at Z;obtain⟨J,hJ⟩:=xE (jn k A B);rw[←hJ] at Z V Q U H j ⊢;have S:J.length≤10000000:=by omega
 have N:(iN .i64 A).take A.length=iN .i64 A:=List.take_of_length_le (by simp);have L:∀(G C u a3:afU) l,zY (G::C::u::a3::.cells true 1 (iZ J)::l) (.slice 4 0 J.length none)=some J:=fun G C u a3 l=>DP rfl (by simp) (List.take_of_length_le (by simp))
 have hz3:∀(G C u:afU) l,zY (G::C::u::.cells true 1 (iZ J)::l) (.slice 3 0 J.length none)=some J:=fun G C u l=>DP rfl (by simp) (List.take_of_length_le (by simp))
 have o:A.length*8≤140737488355328:=by omega
 have m:A.length≤140737488355328:=by omega
 obtain⟨D,Y⟩:=xE (dig 10000 (jT 10000 J).toNat);rw[←Y];clear R hJ;simp[ah,aE,f183] at P';obtain⟨rfl,rfl⟩:=P';by_cases hs:A.length<B.length
 ·simp only[if_pos hs] at Z
  rcases hp with⟨rfl,rfl⟩ | ⟨rfl,rfl⟩
  ·simp[aa,W,f183,N,o,m,Z,cq,L,U,H,j,S,←Y]
  ·simp only[List.length_nil,P7] at Z
   simp[aa,W,f183,Z,cq,L,U,H,j,S,←Y]
 ·simp only[if_neg hs] at Z
  rcases hp with⟨rfl,rfl⟩ | ⟨rfl,rfl⟩
  ·simp[aa,W,f183,N,o,m,Z,cq,hz3,U,H,j,S,←Y]
  ·exfalso
   simp only[List.length_nil] at hs;rcases I' with h | h
   ·exact h rfl
   ·have:=List.length_pos_iff.2 h;omega
theorem wL{A B:List Nat}(k:Int)(hx:af0 .i64 M x A∨(x=.qF∧A=[]))(hy:af0 .i64 M y B)(I:A≠[]∨B≠[])(J:lok 10000 A=true)(W:lok 10000 B=true)(hk:k.natAbs≤10000)(Y:A.length≤1000000)(H:B.length≤1000000)(hv:0≤(au 10000 A:Int)+k*(au 10000 B:Int)):
  kO prog 183 [x,y,.int .i64 k,.int .i64 0] M (.slice M.length 0 (dig 10000 ((au 10000 A:Int)+k*(au 10000 B:Int)).toNat).length none) (M++[.cells true 1 (iN .i64 (dig 10000 ((au 10000 A:Int)+k*(au 10000 B:Int)).toNat))]):=by
 obtain⟨D,U⟩:=xE (dig 10000 ((au 10000 A:Int)+k*(au 10000 B:Int)).toNat);obtain⟨c,G,Q,rfl,V,X⟩:=hy;have S :=gL V;rw[←U];rcases hx with⟨b,o,F,rfl,R,N⟩ | ⟨rfl,rfl⟩
 ·have L:=gL R
  have h:=(ar aj (aK _) mU (aR _) (rZ A A B k _ (.inl ⟨rfl,rfl⟩) I J W hk Y H hv)).1;rw[←U] at h;have:=kO.frame (M:=M) [b,c] (m:=[.cells false 1 (iN .i64 A),.cells false 1 (iN .i64 B)]) (new:=[.cells true 1 (iN .i64 D)]) rfl (by simp[L,S]) (by simp) (fun i s Z=>by
   match i with
   |0=>simp at Z;subst Z;exact .row R N
   |1=>simp at Z;subst Z;exact .row V X
   |i+2=>simp at Z) rfl h
  simpa [AV.af9,AV.ren,fj] using this
 ·have h:=(ar aj (aK _) mU (aR _) (rZ B [] B k _ (.inr ⟨rfl,rfl⟩) I J W hk Y H hv)).1
  rw[←U] at h;have:=kO.frame (M:=M) [c,c] (m:=[.cells false 1 (iN .i64 B),.cells false 1 (iN .i64 B)]) (new:=[.cells true 1 (iN .i64 D)]) rfl (by simp[S]) (by simp) (fun i s Z=>by
   match i with
   |0=>simp at Z;subst Z;exact .row V X
   |1=>simp at Z;subst Z;exact .row V X
   |i+2=>simp at Z) rfl h
  simpa [AV.af9,AV.ren,fj] using this
end Go.Proofs
