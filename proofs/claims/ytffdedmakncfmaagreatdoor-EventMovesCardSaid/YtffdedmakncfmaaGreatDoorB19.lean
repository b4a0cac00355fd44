/- See B54. -/
import Derived.Test.YtffdedmakncfmaaGreatDoorB18
import Derived.Test.YtffdedmakncfmaaGreatDoorB05
set_option linter.all false
set_option maxRecDepth 100000
set_option maxHeartbeats 40000000
namespace Go.Eng
def jq(B:Int):List Int→Int
 | []=>0
 |d::l=>d+B*jq B l
theorem uY(B:Int):∀(l r:List Int),jq B (l++r)=jq B l+B ^ l.length*jq B r
 | [],r=>by simp[jq]
 |d::l,r=>by rw[List.cons_append,jq,jq,uY B l r,List.length_cons,Int.pow_succ,Int.mul_add,Int.add_assoc];congr 2;rw[←Int.mul_assoc,Int.mul_comm (B ^ l.length) B]
variable{d:Int}
theorem TU{B:Int}{l:List Int}{j:Nat}(h:l[j]? =some d):jq B (l.drop j)=d+B*jq B (l.drop (j+1)):=by obtain⟨Z,rfl⟩:=List.getElem?_eq_some_iff.1 h;rw[List.drop_eq_getElem_cons Z];rfl
def TY(l:List Nat):List Int:=l.map fun n:Nat=>(n:Int)
theorem L8(B:Nat):∀l:List Nat,jq B (TY l)=(au B l:Int)
 | []=>rfl
 |d::l=>by
  show(d:Int)+B*jq B (TY l)=((d+B*au B l:Nat):Int)
  rw[L8 B l];simp
theorem lN(B:Int):∀n,jq B (List.replicate n 0)=0
 |0=>rfl
 |n+1=>by rw[List.replicate_succ,jq,lN B n];simp
theorem zf(s:Int):(if s.tmod 10000<0 then s.tmod 10000+10000 else s.tmod 10000)=s%10000:=by rw[Int.tmod_eq_emod];split<;>split<;>omega
theorem Pd(s:Int):(s-s%10000).tdiv 10000=s / 10000:=by
 have h:s-s%10000=10000*(s / 10000):=by omega
 rw[h,Int.mul_comm,Int.mul_tdiv_cancel _ (by omega)]
structure afD (A:List Int)(i:Nat)(over:Int)(out:List Nat):Prop where
 len:out.length=i
 ok:lok 10000 out=true
 val:(au 10000 out:Int)+10000 ^ i*(jq 10000 (A.drop i)+over)=jq 10000 A
 b1:over.natAbs≤1000000000000
 b2:i+over.natAbs≤A.length+1000000000000
theorem afD.start(A:List Int):afD A 0 0 []:=⟨rfl,rfl,by simp[au],by simp,by simp⟩
variable{A:List Int}{i:Nat}{out:List Nat}{over:Int}
theorem KG{s:Int}(h:afD A i over out)(hs:jq 10000 (A.drop i)+over=s+10000*jq 10000 (A.drop (i+1))):
  (au 10000 (out++[(s%10000).toNat]):Int)+10000 ^ (i+1)*(jq 10000 (A.drop (i+1))+s / 10000)=jq 10000 A:=by
 rw[←h.val,hs,Ln,h.len];have X:((s%10000).toNat:Int)=s%10000:=Int.toNat_of_nonneg (by omega);rw[Int.natCast_add,Int.natCast_mul,X,Int.natCast_pow];have Z:s=s%10000+10000*(s / 10000):=by omega
 have h3:(10000:Int) ^ (i+1)=10000 ^ i*10000:=Int.pow_succ ..;rw[h3];generalize (10000:Int) ^ i=p;generalize jq 10000 (A.drop (i+1))=z;generalize s%10000=m at Z;generalize s / 10000=q at Z;subst Z
 grind
section
variable (h:afD A i over out)
include h
theorem afD.agB(s:Int):lok 10000 (out++[(s%10000).toNat])=true:=by
 rw[nt,h.ok];have:(s%10000).toNat<10000:=by omega
 simp[lok,this]
theorem afD.next(hd:A[i]? =some d)(y:d.natAbs≤1000000000000):
  afD A (i+1) ((over+d) / 10000) (out++[((over+d)%10000).toNat]):=by
 have Z:=gL hd;have:=h.b1;refine⟨by simp[h.len],h.agB _,KG h ?_,by omega,by omega⟩;rw[TU hd];omega
section
variable (hi:A.length≤i)(hA:0≤jq 10000 A)
include hi hA
theorem afD.ovr:0≤over:=by
 have X:A.drop i=[]:=List.drop_of_length_le hi;have Z:=h.val;rw[X] at Z;have V:jq 10000 []=0:=rfl;rw[V,Int.zero_add] at Z;have U:=gd h.ok;rw[h.len] at U;have S :(au 10000 out:Int)<10000 ^ i:=by have:((10000 ^ i:Nat):Int)=(10000:Int) ^ i:=Int.natCast_pow ..;rw[←this];omega
 rcases Int.lt_or_le over 0 with h0 | h0
 ·exfalso
  have R:(0:Int)<10000 ^ i:=Int.pow_pos (by omega);generalize (10000:Int) ^ i=p at*;have:p*over≤p*(-1):=Int.mul_le_mul_of_nonneg_left (by omega) (by omega);omega
 ·exact h0
theorem afD.more(y:over≠0):
  afD A (i+1) (over / 10000) (out++[(over%10000).toNat]):=by
 have V:=h.ovr hi hA;have:=h.b1;have:=h.b2;have X:A.drop i=[]:=List.drop_of_length_le hi;have Z:A.drop (i+1)=[]:=List.drop_of_length_le (by omega);refine⟨by simp[h.len],h.agB _,KG h ?_,by omega,by omega⟩;rw[X,Z];show 0+over=over+10000*0
 omega
end
end
theorem afD.done(h:afD A i 0 out)(y:A.length≤i):aU out=dig 10000 (jq 10000 A).toNat:=by have X:A.drop i=[]:=List.drop_of_length_le y;have Z:=h.val;rw[X] at Z;have V:jq 10000 []=0:=rfl;rw[V,Int.zero_add,Int.mul_zero,Int.add_zero] at Z;rw[←Z,Int.toNat_natCast,dC (by omega) h.ok]
def jn(k:Int):List Nat→List Nat→List Int
 |a,[]=>TY a
 | [],b::bs=>(k*(b:Int))::jn k [] bs
 |a::az,b::bs=>((a:Int)+k*(b:Int))::jn k az bs
theorem EH(k:Int)(a:List Nat):jn k a []=TY a:=by cases a<;>rfl
theorem Ow(k:Int):∀(a b:List Nat),jq 10000 (jn k a b)=(au 10000 a:Int)+k*(au 10000 b:Int)
 |a,[]=>by rw[EH];have:=L8 10000 a;rw[show((10000:Nat):Int)=10000 from rfl] at this;rw[this];simp[au]
 | [],b::Z=>by
  rw[jn,jq,Ow k [] Z];simp only[au,Int.natCast_add,Int.natCast_mul];show k*(b:Int)+10000*(((0:Nat):Int)+k*(au 10000 Z:Int))=((0:Nat):Int)+k*((b:Int)+(10000:Int)*(au 10000 Z:Int))
  grind
 |a::X,b::Z=>by
  rw[jn,jq,Ow k X Z,au,au,Int.natCast_add,Int.natCast_mul,Int.natCast_add,Int.natCast_mul];show(a:Int)+k*(b:Int)+10000*((au 10000 X:Int)+k*(au 10000 Z:Int))=(a:Int)+(10000:Int)*(au 10000 X:Int)+k*((b:Int)+(10000:Int)*(au 10000 Z:Int))
  grind
theorem rE(k:Int):∀(a b:List Nat),(jn k a b).length=max a.length b.length
 |a,[]=>by rw[EH];simp[TY]
 | [],b::bs=>by rw[jn,List.length_cons,rE k [] bs];simp
 |a::az,b::bs=>by rw[jn,List.length_cons,rE k az bs];simp only[List.length_cons];omega
theorem AF{k:Int}(hk:k.natAbs≤10000):∀{a b:List Nat},lok 10000 a=true→lok 10000 b=true→∀d∈jn k a b,d.natAbs≤1000000000
 |a,[],ha,_,d,hd=>by rw[EH] at hd;simp only[TY,List.mem_map] at hd;obtain⟨x,Z,rfl⟩:=hd;have:=List.all_eq_true.1 ha x Z;simp at this;omega
 | [],b::bs,ha,hb,d,hd=>by
  rw[jn,List.mem_cons] at hd;rw[cI,Bool.and_eq_true,decide_eq_true_eq] at hb;rcases hd with rfl | hd
  ·rw[Int.natAbs_mul,Int.natAbs_natCast]
   have:k.natAbs*b≤10000*10000:=Nat.mul_le_mul hk (by omega);omega
  ·exact AF hk ha hb.2 d hd
 |a::az,b::bs,ha,hb,d,hd=>by
  rw[jn,List.mem_cons] at hd;rw[cI,Bool.and_eq_true,decide_eq_true_eq] at hb ha;rcases hd with rfl | hd
  ·have X:(k*(b:Int)).natAbs≤10000*10000:=by rw[Int.natAbs_mul,Int.natAbs_natCast];exact Nat.mul_le_mul hk (by omega)
   omega
  ·exact AF hk ha.2 hb.2 d hd
theorem AA(y:Int)(J:List Int)(i:Nat):(if (y::J).length≤i+1 then y::J++[0] else y::J)=y::(if J.length≤i then J++[0] else J):=by simp only[List.length_cons,Nat.add_le_add_iff_right];split<;>rfl
theorem NX(k:Int):∀(A B:List Nat) (i b:Nat),B[i]? =some b→∃x,(if (jn k A (B.take i)).length≤i then jn k A (B.take i)++[0] else jn k A (B.take i))[i]? =some x∧
  (if (jn k A (B.take i)).length≤i then jn k A (B.take i)++[0] else jn k A (B.take i)).set i (x+k*(b:Int))=jn k A (B.take (i+1))
 |_,[],_,_,h=>by simp at h
 |A,c::B,0,b,h=>by
  simp only[List.getElem?_cons_zero,Option.some.injEq] at h;subst h;rw[List.take_zero,EH];cases A with
  |nil=>exact⟨0,rfl,by simp[jn,TY]⟩
  |cons a A=>exact⟨a,by simp[TY],by simp[jn,TY]⟩
 |A,c::B,i+1,b,h=>by
  simp only[List.getElem?_cons_succ] at h;rw[List.take_succ_cons,List.take_succ_cons];cases A with
  |nil=>
   obtain⟨x,Z,X⟩:=NX k [] B i b h;refine⟨x,?_,?_⟩
   ·rw[jn,AA];simpa using Z
   ·rw[jn,jn,←X,AA];simp
  |cons a A=>
   obtain⟨x,Z,X⟩:=NX k A B i b h;refine⟨x,?_,?_⟩
   ·rw[jn,AA];simpa using Z
   ·rw[jn,jn,←X,AA];simp
def iE(x:Int):List Nat→List Int→List Int
 | [],o=>o
 |_::_,[]=>[]
 |b::bs,d::o=>(d+x*(b:Int))::iE x bs o
theorem mX(x:Int)(o:List Int):iE x [] o=o:=by cases o<;>rfl
theorem oZ(x:Int):∀(b:List Nat) (o:List Int),b.length≤o.length→(iE x b o).length=o.length
 | [],o,_=>by rw[mX]
 |b::bs,[],h=>by simp at h
 |b::bs,d::o,h=>by simp only[List.length_cons,Nat.add_le_add_iff_right] at h;rw[iE,List.length_cons,oZ x bs o h,List.length_cons]
theorem Dg(x:Int):∀(b:List Nat) (o:List Int),b.length≤o.length→jq 10000 (iE x b o)=jq 10000 o+x*(au 10000 b:Int)
 | [],o,_=>by rw[mX];simp[au]
 |b::y,[],h=>by simp at h
 |b::y,d::o,h=>by
  simp only[List.length_cons,Nat.add_le_add_iff_right] at h;rw[iE,jq,Dg x y o h,jq,au,Int.natCast_add,Int.natCast_mul];show d+x*(b:Int)+10000*(jq 10000 o+x*(au 10000 y:Int))=d+10000*jq 10000 o+x*((b:Int)+(10000:Int)*(au 10000 y:Int))
  grind
theorem yK{x:Int}{m c:Nat}(hc:10000*10000≤c)(y:x.natAbs≤10000):∀{b:List Nat} {o:List Int},lok 10000 b=true→(∀d∈o,d.natAbs≤m)→∀d∈iE x b o,d.natAbs≤m+c
 | [],o,_,ho,d,Z=>by rw[mX] at Z;have:=ho d Z;omega
 |b::bs,[],_,_,d,Z=>by simp[iE] at Z
 |b::bs,e::o,hb,ho,d,Z=>by
  rw[iE,List.mem_cons] at Z;rw[cI,Bool.and_eq_true,decide_eq_true_eq] at hb;rcases Z with rfl | Z
  ·have X:(x*(b:Int)).natAbs≤10000*10000:=by rw[Int.natAbs_mul,Int.natAbs_natCast];exact Nat.mul_le_mul y (by omega)
   have:=ho e (by simp);omega
  ·exact yK hc y hb.2 (fun d Z=>ho d (by simp[Z])) d Z
theorem BS(x:Int):∀(B:List Nat) (o:List Int) (k b:Nat) (y:Int),B[k]? =some b→o[k]? =some y→(iE x (B.take k) o)[k]? =some y∧(iE x (B.take k) o).set k (y+x*(b:Int))=iE x (B.take (k+1)) o
 | [],_,_,_,_,h,_=>by simp at h
 |_::_,[],_,_,_,_,h=>by simp at h
 |c' ::B,d::o,0,b,y,h,hy=>by simp only[List.getElem?_cons_zero,Option.some.injEq] at h hy;subst h hy;exact⟨rfl,by simp[iE,mX]⟩
 |c::B,d::o,k+1,b,y,h,hy=>by simp only[List.getElem?_cons_succ] at h hy;obtain⟨Z,X⟩:=BS x B o k b y h hy;rw[List.take_succ_cons,List.take_succ_cons,iE,iE];exact⟨by simpa using Z,by simpa using X⟩
def tzR(A B:List Nat):Nat→List Int
 |0=>List.replicate (A.length+B.length) 0
 |i+1=>(tzR A B i).take i++iE ((A.getD i 0:Nat):Int) B ((tzR A B i).drop i)
theorem G5{A B:List Nat}{c:Nat}(hc:10000*10000≤c)(y:lok 10000 A=true)(H:lok 10000 B=true):∀i,i≤A.length→(tzR A B i).length=A.length+B.length∧jq 10000 (tzR A B i)=(au 10000 (A.take i):Int)*(au 10000 B:Int)∧∀d∈tzR A B i,d.natAbs≤i*c
 |0,_=>by refine⟨by simp[tzR],by rw[tzR,lN];simp[au],fun d Z=>?_⟩;rw[tzR] at Z;rw[(List.mem_replicate.1 Z).2];simp
 |i+1,h=>by
  obtain⟨O,U,h3⟩:=G5 hc y H i (by omega);obtain⟨x,X,S⟩:∃x,A[i]? =some x∧A.getD i 0=x:=⟨A[i],by simp,by simp[List.getD,show i<A.length by omega]⟩
  have N:=ed y X;have V:B.length≤((tzR A B i).drop i).length:=by rw[List.length_drop];omega
  rw[tzR,S];refine⟨?_,?_,fun d Z=>?_⟩
  ·rw[List.length_append,oZ _ _ _ V,List.length_take,List.length_drop];omega
  ·rw[uY,Dg _ _ _ V,List.length_take,Nat.min_eq_left (by omega)]
   have R:jq 10000 (tzR A B i)=jq 10000 ((tzR A B i).take i)+10000 ^ i*jq 10000 ((tzR A B i).drop i):=by
    conv=>lhs;rw[←List.take_append_drop i (tzR A B i)]
    rw[uY,List.length_take,Nat.min_eq_left (by omega)]
   have Q:A.take (i+1)=A.take i++[x]:=by rw[List.take_add_one,X];rfl
   rw[Q,Ln,List.length_take,Nat.min_eq_left (by omega),Int.natCast_add,Int.natCast_mul,Int.natCast_pow,Int.add_mul,←U,R];show _=_+(10000:Int) ^ i*(x:Int)*(au 10000 B:Int)
   rw[Int.mul_add,Int.mul_assoc,Int.add_assoc]
  ·rcases List.mem_append.1 Z with Z | Z
   ·have:=h3 d (List.mem_of_mem_take Z)
    rw[Nat.add_mul];omega
   ·have:=yK (x:=(x:Int)) (m:=i*c) hc (by omega) H (fun d Z=>h3 d (List.mem_of_mem_drop Z)) d Z
    rw[Nat.add_mul,Nat.one_mul];exact this
end Go.Eng
namespace Go.Proofs
open Go.Eng
open Tryz
variable{K:Nat}{O:ae3}{b:Code}{lv:Code→List Nat}
theorem DP(A:List Nat)(J:A.length≤4000000000000)(I:A.length<K)(y:ah f190=[b])(H:lv b=[0]):
  ∃F:Env→Bool→Env,∀Z d,ab Z 0=.slice 0 0 A.length none→
   bh (ba prog) lv O K 21 1 true (.loop b) ⟨Z,[.cells false 1 (iN .i64 A)],d⟩=some (.exit 0,⟨F Z d,[.cells false 1 (iN .i64 A)],d⟩)∧ab (F Z d) 0=.slice 0 0 (aU A).length none:=by
 refine bj H (fun Z=>ab Z 0=.slice 0 0 A.length none) (fun _ M =>ab M 0=.slice 0 0 (aU A).length none) ?_;clear H;intro Z d L;simp[ah,aE,f190] at y;have S:ay [0] (ad b) Z ((0,.slice 0 0 A.length none)::Z)=ay [0] (ad b) Z Z:=by simp[ay,L]
 rw[←S];refine bx (α:=Nat) (fun n=>⟨ay [0] (ad b) Z ((0,.slice 0 0 n none)::Z),[.cells false 1 (iN .i64 A)],d⟩) id (fun n=>n≤A.length∧aU (A.take n)=aU A) (.exit 0) _ d _ (by simp) ?_ K A.length ⟨Nat.le_refl _,by rw[List.take_length]⟩ I;rintro n ⟨Zg,Zu⟩;clear S;subst y;cases n with
 |zero=>
  right;rw[←Zu];simp[aU]
 |succ n=>
  have G:n<A.length:=by omega
  obtain⟨x,V⟩:∃x,A[n]? =some x:=⟨A[n],by simp[G]⟩
  have R:IntKind.i64.wrap (n:Int)=(n:Int):=ae;have Q:(n:Int)<(n:Int)+1:=by omega
  have N:0<(n:Int)+1:=by omega
  by_cases X:x=0
  ·subst X
   left;refine⟨n,?_⟩;have h3:(n:Int)≤(n:Int)+1:=by omega
   have U:n+1≤A.length:=by omega
   simp[R,Q,N,h3,U,V];exact⟨by omega,by rw[←rI V];exact Zu⟩
  ·right
   rw[←Zu,rH V X];have U:min (n+1) A.length=n+1:=by omega
   simp[R,Q,N,U,V,X]
theorem PQ(A:List Nat)(y:A.length≤4000000000000):kO prog 190 [.slice 0 0 A.length none] [.cells false 1 (iN .i64 A)] (.slice 0 0 (aU A).length none) [.cells false 1 (iN .i64 A)]:=by
 have X:aT prog 190=some f190:=by kernel_rfl
 obtain⟨b,Z⟩:∃b,ah f190=[b]:=⟨_,rfl⟩
 obtain⟨F,V⟩:=DP (O:=cN) (K:=A.length+1) (lv:=fun _=>[0]) A y (by omega) Z rfl;simp[ah,aE,f190] at Z;subst Z;refine cv (lv:=(fun _=>[0])) (K:=(A.length+1)) (ax _) ?_;simp[aa,X,f190,V]
theorem By(A B:List Nat)(W:lok 10000 A=true)(Y:lok 10000 B=true)(hl:A.length≤1000000000)(H:A.length=B.length)(hK:A.length<K)(I:ah f184=[b])(J:lv b=[5]):
  ∃F:Env→Bool→Env,∀Z d,(ab Z 0=.slice 0 0 A.length none∧ab Z 1=.slice 1 0 A.length none∧ab Z 5=.int .i64 ((A.length:Int)-1))→
   bh (ba prog) lv O K 41 2 true (.loop b) ⟨Z,[.cells false 1 (iN .i64 A),.cells false 1 (iN .i64 B)],d⟩=some (if A=B then .exit 0 else .ret,⟨F Z d,[.cells false 1 (iN .i64 A),.cells false 1 (iN .i64 B)],d⟩)∧
    (A≠B→ab (F Z d) 4=.bool (decide (au 10000 A<au 10000 B))):=by
 refine bj J (fun Z=>ab Z 0=.slice 0 0 A.length none∧ab Z 1=.slice 1 0 A.length none∧ab Z 5=.int .i64 ((A.length:Int)-1)) (fun _ C =>A≠B→ab C 4=.bool (decide (au 10000 A<au 10000 B))) ?_;clear J;rintro Z d ⟨h0,h1,h5⟩;simp[ah,aE,f184] at I;have L:ay [5] (ad b) Z ((5,.int .i64 ((A.length:Int)-1))::Z)=ay [5] (ad b) Z Z:=by simp[ay,h5]
 rw[←L];refine bx (α:=Nat) (fun n=>⟨ay [5] (ad b) Z ((5,.int .i64 ((n:Int)-1))::Z),[.cells false 1 (iN .i64 A),.cells false 1 (iN .i64 B)],d⟩) id (fun n=>n≤A.length∧A.drop n=B.drop n) (if A=B then .exit 0 else .ret) _ d _ (by split<;>simp) ?_ K A.length ⟨Nat.le_refl _,by rw[List.drop_length,H,List.drop_length]⟩ hK;rintro n ⟨Zg,Zu⟩;clear L;subst I;cases n with
 |zero=>
  right;rw[List.drop_zero,List.drop_zero] at Zu;simp[Zu]
 |succ n=>
  have R:n<A.length:=by omega
  have V:n<B.length:=by omega
  obtain⟨x,Q,G⟩:=cM R;obtain⟨y,S,D⟩:=cM V;have u:(((n+1:Nat):Int)-1)=(n:Int):=by omega
  have o:IntKind.i64.wrap ((n:Int)-1)=(n:Int)-1:=ae;rw[u];by_cases N:x=y
  ·left
   subst N;refine⟨n,?_⟩;simp[h0,h1,G,D,R,V,o];exact⟨by omega,KS Zu Q S⟩
  ·right
   have m:A≠B:=by rintro rfl;rw[Q] at S;cases S;exact N rfl
   have U:=Sk W Y H Zu Q S N;have j:decide (au 10000 A<au 10000 B)=decide (x<y):=by
    unfold jH at U;by_cases X:x<y
    ·rw[if_pos X] at U
     have:au 10000 A<au 10000 B:=by
      rcases Nat.lt_or_ge (au 10000 A) (au 10000 B) with h | h
      ·exact h
      ·rw[if_neg (by omega)] at U;split at U<;>omega
     simp[X,this]
    ·rw[if_neg X] at U
     have:¬au 10000 A<au 10000 B:=by intro h;rw[if_pos h] at U;omega
     simp[X,this]
   have M :¬((x:Int)=(y:Int)):=by omega
   simp[h0,h1,G,D,R,V,M,m,j]
theorem MF(A B:List Nat)(y:lok 10000 A=true)(H:lok 10000 B=true)(I:A.length≤1000000000)(tA:aU A=A)(J:aU B=B):
  kO prog 184 [.slice 0 0 A.length none,.slice 1 0 B.length none] [.cells false 1 (iN .i64 A),.cells false 1 (iN .i64 B)] (.bool (decide (au 10000 A<au 10000 B))) [.cells false 1 (iN .i64 A),.cells false 1 (iN .i64 B)]:=by
 have U:aT prog 184=some f184:=by kernel_rfl
 obtain⟨b,S⟩:∃b,ah f184=[b]:=⟨_,rfl⟩
 refine cv (lv:=(fun _=>[5])) (K:=(A.length+1)) (ax _) ?_;have N:dig 10000 (au 10000 A)=A:=by rw[dC (by omega) y,tA]
 have M:dig 10000 (au 10000 B)=B:=by rw[dC (by omega) H,J]
 by_cases R:A.length=B.length
 ·have Z:=By (O:=cN) (K:=A.length+1) (lv:=fun _=>[5]) A B y H I R (by omega) S rfl
  simp[ah,aE,f184] at S;subst S;obtain⟨F,Z⟩:=Z;have L:IntKind.i64.wrap ((B.length:Int)-1)=(B.length:Int)-1:=ae;by_cases X:A=B
  ·subst X
   have V:¬au 10000 A<au 10000 A:=by omega
   rw[if_pos rfl] at Z;simp[aa,U,f184,Z,L,V]
  ·rw[if_neg X] at Z
   simp only[R] at Z;simp[aa,U,f184,Z,R,L,X]
 ·have G :¬((A.length:Int)=B.length):=by omega
  by_cases Q:A.length<B.length
  ·have D:au 10000 A<au 10000 B:=dz (B:=10000) (by omega) (by rw[N,M];exact Q)
   have V:=D;simp[aa,U,f184,G,Q,V]
  ·have D:au 10000 B<au 10000 A:=dz (B:=10000) (by omega) (by rw[N,M];omega)
   have V:¬au 10000 A<au 10000 B:=by omega
   simp[aa,U,f184,G,Q,V]
def caM(A:List Int):List Nat→Mem
 | []=>[.cells false 1 (iZ A)]
 |x::l=>[.cells false 1 (iZ A),.cells true 1 (iN .i64 (x::l))]
def caO:List Nat→AV
 | []=>.qF
 |_::l=>.slice 1 0 (l.length+1) none
def caC:Nat:=1000000000001
theorem WQ:1000000000000<caC:=by decide
theorem A8(A:List Int)(hA:0≤jq 10000 A)(hb:∀d∈A,d.natAbs≤1000000000000)(hl:A.length≤10000000)(hK:A.length*caC+caC<K)(H:ah f192=[b]):
  ∃F:Env→Bool→Env×Mem×List Nat,∀X d,(ab X 0=.slice 0 0 A.length none∧ab X 3=.qF∧ab X 4=.int .i64 0∧ab X 5=.int .i64 0)→
   bh (ba prog) (fun _=>[3,4,5]) O K 43 1 true (.loop b) ⟨X,caM A [],d⟩=some (.exit 0,⟨(F X d).1,(F X d).2.1,d⟩)∧
   ((F X d).2.1=caM A (F X d).2.2∧ab (F X d).1 3=caO (F X d).2.2∧aU (F X d).2.2=dig 10000 (jq 10000 A).toNat∧A.length≤(F X d).2.2.length∧(F X d).2.2.length≤2000000000000):=by
 refine uJ (β:=List Nat) rfl (fun X=>ab X 0=.slice 0 0 A.length none∧ab X 3=.qF∧ab X 4=.int .i64 0∧ab X 5=.int .i64 0)
  (fun _ AC B Z=>B =caM A Z∧ab AC 3=caO Z∧aU Z=dig 10000 (jq 10000 A).toNat∧A.length≤Z.length∧Z.length≤2000000000000) ?_
 rintro X d ⟨h0,h3,h4,h5⟩;have D:ay [3,4,5] (ad b) X ((3,caO [])::(4,.int .i64 0)::(5,.int .i64 ((0:Nat):Int))::X)=ay [3,4,5] (ad b) X X:=by simp[ay,h3,h4,h5,caO]
 rw[←D];refine sG (α:=Nat×Int×List Nat) (fun s=>⟨ay [3,4,5] (ad b) X ((3,caO s.2.2)::(4,.int .i64 s.2.1)::(5,.int .i64 (s.1:Int))::X),caM A s.2.2,d⟩)
  (fun s=>(A.length-s.1)*caC+s.2.1.natAbs) (fun s=>afD A s.1 s.2.1 s.2.2) (.exit 0) d _ (by simp) ?_ K (0,0,[]) (afD.start A) (by show(A.length-0)*caC+0<K;rw[Nat.sub_zero];omega)
 rintro ⟨i,over,Z⟩ hI;simp only at hI ⊢;clear D;have b1:=hI.b1;have b2:=hI.b2;have L:=hI.len;simp[ah,aE,f192] at H;by_cases C:i<A.length
 ·left
  obtain⟨x,J⟩:∃x,A[i]? =some x:=⟨A[i],by simp[C]⟩
  have u :A[i]=x:=by have:=List.getElem?_eq_getElem C;rw[J] at this;exact(Option.some.inj this).symm
  have Ym:=hb x (List.mem_of_getElem? J);have G:=hI.next J Ym;have N:=G.b1;refine⟨(i+1,(over+x) / 10000,Z++[((over+x)%10000).toNat]),?_⟩;refine bL (show afD A (i+1) _ _∧_ from⟨G,by
   have:=WQ;show(A.length-(i+1))*caC+((over+x) / 10000).natAbs<(A.length-i)*caC+over.natAbs
   have e:A.length-i=A.length-(i+1)+1:=by omega
   rw[e,Nat.add_mul,Nat.one_mul];generalize (A.length-(i+1))*caC=p;omega⟩) ?_
  clear G;obtain⟨s,hs⟩:=xE (over+x);have w1:IntKind.i64.wrap (over+x)=s:=by rw[←hs];exact ae
  rw[←hs] at N ⊢;have U:=zf s;have R:=Pd s;obtain⟨n,D⟩:∃n:Nat,(n:Int)=s%10000:=⟨(s%10000).toNat,Int.toNat_of_nonneg (by omega)⟩
  rw[←D] at U R ⊢;rw[Int.toNat_natCast];obtain⟨q,I⟩:=xE (s / 10000);rw[←I] at N R ⊢;obtain⟨m,Q⟩:=xE (s.tmod 10000);rw[←Q] at U;have hmb:m.natAbs<10000:=by rw[Q,Int.natAbs_tmod];exact Nat.mod_lt _ (by decide)
  have w2:IntKind.i64.wrap (m+10000)=m+10000:=ae;have w3:IntKind.i64.wrap (s-(n:Int))=s-(n:Int):=ae;have w6:IntKind.i64.wrap (n:Int)=(n:Int):=ae;have w4:IntKind.i64.wrap q=q:=ae;have w5:IntKind.i64.wrap ((i:Int)+1)=((i+1:Nat):Int):=by rw[ae];omega
  have V:(i:Int)<(A.length:Int):=by omega
  subst H;cases Z with
  |nil=>
   simp only[List.length_nil] at L;by_cases M:m<0
   ·rw[if_pos M] at U
    simp[caM,caO,h0,C,V,u,w1,←Q,M,U,w3,R,w4,w5,w6,ca]
   ·rw[if_neg M] at U
    have S:¬(n:Int)<0:=by omega
    simp[caM,caO,h0,C,V,u,w1,←Q,S,U,w3,R,w4,w5,ca]
  |cons y l=>
   simp only[List.length_cons] at L;have o:(iN .i64 l).take l.length=iN .i64 l:=List.take_of_length_le (by simp);have j:(l.length+1+1)*8≤140737488355328:=by omega
   have Y:l.length+1+1≤140737488355328:=by omega
   by_cases M:m<0
   ·rw[if_pos M] at U
    simp[caM,caO,h0,C,V,u,w1,←Q,M,U,w3,R,w4,w5,w6,o,j,Y,ca,dh]
   ·rw[if_neg M] at U
    have S:¬(n:Int)<0:=by omega
    simp[caM,caO,h0,C,V,u,w1,←Q,S,U,w3,R,w4,w5,o,j,Y,ca,dh]
 ·have V:¬(i:Int)<(A.length:Int):=by omega
  by_cases W:over=0
  ·right
   subst W;have ZG:=hI.done (by omega);have Y4:A.length≤Z.length:=by omega
   have Yb:Z.length≤2000000000000:=by omega
   clear hI b1 b2;subst H;cases Z with
   |nil=>
    simp only[List.length_nil] at L;subst L;have ZN:A.length=0:=by omega
    simp[caM,caO,h0,ZN];exact⟨_,_,⟨rfl,rfl⟩,[],rfl,rfl,ZG,Yb⟩
   |cons y l=>
    simp only[List.length_cons] at L;simp[caM,caO,h0,V];exact⟨_,_,⟨rfl,rfl⟩,y::l,rfl,rfl,ZG,Y4,Yb⟩
  ·left
   have G:=hI.more (by omega) hA W;have h00:=hI.ovr (by omega) hA;have N:=G.b1;refine⟨(i+1,over / 10000,Z++[(over%10000).toNat]),?_⟩;refine bL (show afD A (i+1) _ _∧_ from⟨G,by
    show(A.length-(i+1))*caC+(over / 10000).natAbs<(A.length-i)*caC+over.natAbs
    have e:A.length-i=A.length-(i+1):=by omega
    rw[e];generalize (A.length-(i+1))*caC=p;omega⟩) ?_
   clear G;have U:=zf over;have R:=Pd over;obtain⟨n,D⟩:∃n:Nat,(n:Int)=over%10000:=⟨(over%10000).toNat,Int.toNat_of_nonneg (by omega)⟩
   rw[←D] at U R ⊢;rw[Int.toNat_natCast];obtain⟨q,I⟩:=xE (over / 10000);rw[←I] at N R ⊢;obtain⟨m,Q⟩:=xE (over.tmod 10000);rw[←Q] at U;have hmb:0≤m:=by rw[Q];exact Int.tmod_nonneg _ h00
   have M:¬m<0:=by omega
   rw[if_neg M] at U;have S:¬(n:Int)<0:=by omega
   have w3:IntKind.i64.wrap (over-(n:Int))=over-(n:Int):=ae;have w6:IntKind.i64.wrap (n:Int)=(n:Int):=ae;have w4:IntKind.i64.wrap q=q:=ae;have w5:IntKind.i64.wrap ((i:Int)+1)=((i+1:Nat):Int):=by rw[ae];omega
   subst H;cases Z with
   |nil=>
    simp only[List.length_nil] at L;simp[caM,caO,h0,V,W,←Q,S,U,w3,R,w4,w5,ca]
   |cons y l=>
    simp only[List.length_cons] at L;have o:(iN .i64 l).take l.length=iN .i64 l:=List.take_of_length_le (by simp);have j:(l.length+1+1)*8≤140737488355328:=by omega
    have Y:l.length+1+1≤140737488355328:=by omega
    simp[caM,caO,h0,V,W,←Q,S,U,w3,R,w4,w5,o,j,Y,ca,dh]
variable{M:Mem}{x:AV}
theorem ME{A:List Nat}(y:A.length≤4000000000000)(H:afi .i64 M x A):∃b,x=.slice b 0 A.length none∧kO prog 190 [x] M (.slice b 0 (aU A).length none) M:=by obtain⟨b,e,h⟩:=kO.agJ (new:=[]) (rest:=[]) rfl rfl (PQ A y) H;refine⟨b,e,?_⟩;simpa [AV.ren,eL] using h
theorem Fw(M:Mem):kO prog 190 [.qF] M .qF M:=by
 have Z:aT prog 190=some f190:=by kernel_rfl
 refine cH (ax _) (lv:=fun _=>[0]) (K:=1) rfl rfl ?_ M;simp[aa,Z,f190,bp,gi]
variable{y:AV}
theorem HK{A B:List Nat}(H:lok 10000 A=true)(I:lok 10000 B=true)(J:A.length≤1000000000)(tA:aU A=A)(W:aU B=B)(Y:afi .i64 M x A)(hy:afi .i64 M y B):
  kO prog 184 [x,y] M (.bool (decide (au 10000 A<au 10000 B))) M:=by
 obtain⟨b,c,Z,X,h⟩:=kO.af1 (new:=[]) rfl (MF A B H I J tA W) Y hy;simpa [AV.ren] using h
noncomputable def cF:ae3:=fun c Z M=>match c,Z with
 |.fn 190,[.qF]=>some ⟨.qF,none,[]⟩
 |.fn 190,[x]=>match x,aW .i64 M x with
  |.slice b _ _ _,some A=>if A.length≤4000000000000 then some ⟨.slice b 0 (aU A).length none,none,[]⟩ else none
  |_,_=>none
 |.fn 184,[x,y]=>match aW .i64 M x,aW .i64 M y with
  |some A,some B=>if lok 10000 A=true∧lok 10000 B=true∧A.length≤1000000000∧aU A=A∧aU B=B then some ⟨.bool (decide (au 10000 A<au 10000 B)),none,[]⟩ else none
  |_,_=>none
 |_,_=>none
theorem yH:qS prog cF:=by
 refine bZ fun c X M r h=>?_
 unfold cF at h;split at h
 ·cases h
  refine aw ?_;rw[List.append_nil];exact Fw M
 ·split at h
  ·rename_i Z
   split at h
   ·rename_i V
    cases h;obtain⟨b,e,h⟩:=ME V (aY Z);cases e;refine aw ?_;rw[List.append_nil];exact h
   ·cases h
  ·cases h
 ·split at h
  ·rename_i Z U
   split at h
   ·rename_i S
    obtain⟨R,Q,N,L,G⟩:=S;cases h;refine aw ?_;rw[List.append_nil];exact HK R Q N L G (aY Z) (aY U)
   ·cases h
  ·cases h
 ·cases h
theorem Dx(A:List Int)(H:A≠[])(I:0≤jq 10000 A)(J:∀d∈A,d.natAbs≤1000000000000)(W:A.length≤10000000):
  ∃X,aa (ba prog) (fun _=>[3,4,5]) (aT prog) cF (A.length*caC+caC+1) 192 [.slice 0 0 A.length none] [.cells false 1 (iZ A)]=
   some ⟨.slice 1 0 (dig 10000 (jq 10000 A).toNat).length none,none,[.cells true 1 (iN .i64 X)]⟩∧aU X=dig 10000 (jq 10000 A).toNat:=by
 have D:aT prog 192=some f192:=by kernel_rfl
 obtain⟨b,V⟩:∃b,ah f192=[b]:=⟨_,rfl⟩
 obtain⟨F,S⟩:=A8 (O:=cF) (K:=A.length*caC+caC+1) A I J W (by omega) V;have U:∀Z d,(ab Z 0=.slice 0 0 A.length none∧ab Z 3=.qF∧ab Z 4=.int .i64 0∧ab Z 5=.int .i64 0)→
   bh (ba prog) (fun _=>[3,4,5]) cF (A.length*caC+caC+1) 43 1 true (.loop b) ⟨Z,[.cells false 1 (iZ A)],d⟩=some (.exit 0,⟨(F Z d).1,[.cells false 1 (iZ A),.cells true 1 (iN .i64 (F Z d).2.2)],d⟩)∧
   ab (F Z d).1 3=.slice 1 0 (F Z d).2.2.length none∧aU (F Z d).2.2=dig 10000 (jq 10000 A).toNat∧(F Z d).2.2.length≤4000000000000:=by
  intro Z d C;obtain⟨R,B,h3,Q,N,u⟩:=S Z d C;have L:=List.length_pos_iff.2 H;cases ho:(F Z d).2.2 with
  |nil=>rw[ho] at N;exact absurd (List.eq_nil_of_length_eq_zero (Nat.le_zero.1 N)) H
  |cons y l=>
   rw[B,ho] at R;rw[ho] at h3 Q u;exact⟨R,h3,Q,by omega⟩
 clear S;have m:∀(G:afb) (o:List Nat) l,aW .i64 (G::.cells true 1 (iN .i64 o)::l) (.slice 1 0 o.length none)=some o:=fun G o l=>aR rfl (by simp) (List.take_of_length_le (by simp))
 obtain⟨K,j⟩:=xE (A.length*caC+caC+1);rw[←j] at U ⊢;simp[ah,aE,f192] at V;subst V;simp[aa,D,f192,cF,U,m];exact⟨_,rfl,(U _ _ ⟨rfl,rfl,rfl,rfl⟩).2.2.1⟩
theorem He{A:List Int}(I:A≠[])(J:0≤jq 10000 A)(H:∀d∈A,d.natAbs≤1000000000000)(W:A.length≤10000000)(Y:Xr M x A):
  kO prog 192 [x] M (.slice M.length 0 (dig 10000 (jq 10000 A).toNat).length none) (M++[.cells true 1 (iN .i64 (dig 10000 (jq 10000 A).toNat))]):=by
 obtain⟨Z,X,V⟩:=Dx A I J H W;have h3:=(ar aj (aI _) yH (aP _) X).1;simp only[y9.mem,Option.getD_none,List.cons_append,List.nil_append] at h3;have U:=kO.af5 (m2:=[.cells false 1 (iZ A),.cells true 1 (iN .i64 (dig 10000 (jq 10000 A).toNat))]) h3 rfl (fun b s H=>by
  match b with
  |0=>simp at H;subst H;exact⟨_,rfl,.inl rfl⟩
  |1=>simp at H;subst H;exact⟨_,rfl,.row (by rw[←V];exact di _)⟩
  |b+2=>simp at H)
 obtain⟨b,rfl,S⟩:=kO.ahj (new:=[.cells true 1 (iN .i64 (dig 10000 (jq 10000 A).toNat))]) (rest:=[]) rfl rfl U Y;simpa [AV.ren,eL] using S
def zsm(A:List Int):Bool:=A.all fun d=>decide (d.natAbs≤1000000000000)
noncomputable def cn:ae3:=fun c Z M=>match c,Z with
 |.fn 192,[x]=>match zd M x with
  |some A=>if A≠[]∧0≤jq 10000 A∧zsm A=true∧A.length≤10000000 then some ⟨.slice M.length 0 (dig 10000 (jq 10000 A).toNat).length none,none,[.cells true 1 (iN .i64 (dig 10000 (jq 10000 A).toNat))]⟩ else none
  |none=>none
 |c,Z=>cF c Z M
theorem mg:qS prog cn:=by
 refine bZ fun c Z M r h=>?_
 unfold cn at h;split at h
 ·split at h
  ·rename_i X
   split at h
   ·rename_i V
    obtain⟨U,S,R,Q⟩:=V;cases h;exact aw (He U S (fun d N=>by simpa using List.all_eq_true.1 R d N) Q (Oo X))
   ·cases h
  ·cases h
 ·exact dr yH h
def jM(H:afb)(A B:List Nat)(k:Int)(i:Nat):Mem:=
 if A.length<i then [H,.cells false 1 (iN .i64 B),.qK,.qK,.cells true 1 (iZ (jn k A (B.take i)))]
 else [H,.cells false 1 (iN .i64 B),.qK,.cells true 1 (iZ (jn k A (B.take i)))]
def jO(A:List Nat)(n i:Nat):AV:=if A.length<i then .slice 4 0 n none else .slice 3 0 n none
def ju(c:Code):List Nat:=if (ad c).contains 10 then [9,10] else [9]
theorem zH(X:List Nat)(A B:List Nat)(k:Int)(hA:lok 10000 A=true)(hB:lok 10000 B=true)(hk:k.natAbs≤10000)(hl:A.length≤1000000)(Yb:B.length≤1000000)(hK:B.length+1<K+2){b2:Code}(H:ah f183=[b,b2]):
  ∃F:Env→Bool→Env,∀Z d,(ab Z 1=.slice 1 0 B.length none∧ab Z 2=.int .i64 k∧ab Z 3=.int .i64 0∧ab Z 9=.slice 3 0 A.length none∧ab Z 10=.int .i64 0)→
   bh (ba prog) ju O (K+2) 45 2 true (.loop b) ⟨Z,[.cells false 1 (iN .i64 X),.cells false 1 (iN .i64 B),.qK,.cells true 1 (iN .i64 A)],d⟩=some (.exit 0,⟨F Z d,jM (.cells false 1 (iN .i64 X)) A B k B.length,d⟩)∧
   ab (F Z d) 9=jO A (jn k A B).length B.length:=by
 have Yg:ju b=[9,10]:=by simp[ah,aE,f183] at H;obtain⟨rfl,rfl⟩:=H;decide
 refine bj Yg (fun Z=>ab Z 1=.slice 1 0 B.length none∧ab Z 2=.int .i64 k∧ab Z 3=.int .i64 0∧ab Z 9=.slice 3 0 A.length none∧ab Z 10=.int .i64 0)
  (fun _ AC =>ab AC 9=jO A (jn k A B).length B.length) ?_
 rintro Z d ⟨h1,h2,h3,h9,YT⟩;have hn:ay [9,10] (ad b) Z ((9,jO A (jn k A (B.take 0)).length 0)::(10,.int .i64 ((0:Nat):Int))::Z)=ay [9,10] (ad b) Z Z:=by simp[ay,h9,YT,jO,EH,TY]
 have Yn:jM (.cells false 1 (iN .i64 X)) A B k 0=[.cells false 1 (iN .i64 X),.cells false 1 (iN .i64 B),.qK,.cells true 1 (iN .i64 A)]:=by unfold jM;rw[if_neg (by omega),List.take_zero,EH];exact congrArg (fun r=>[_,_,_,afb.cells true 1 r]) (XD A).symm
 rw[←hn,←Yn];refine bx (α:=Nat) (fun i=>⟨ay [9,10] (ad b) Z ((9,jO A (jn k A (B.take i)).length i)::(10,.int .i64 (i:Int))::Z),jM (.cells false 1 (iN .i64 X)) A B k i,d⟩)
  (fun i=>B.length-i) (fun i=>i≤B.length) (.exit 0) _ d _ (by simp) ?_ (K+2) 0 (Nat.zero_le _) (by simp only[Nat.sub_zero];omega)
 intro i hi;clear hn Yn;simp[ah,aE,f183] at H;by_cases hib:i=B.length
 ·right
  subst hib;rw[List.take_length];obtain⟨rfl,rfl⟩:=H;by_cases o:A.length<B.length
  ·simp[jM,jO,o,h1,List.take_length]
  ·simp[jM,jO,o,h1,List.take_length]
 ·left
  have m:i<B.length:=by omega
  obtain⟨x,hx,X9⟩:=cM m;obtain⟨y,V,U⟩:=NX k A B i x hx;have j:=rE k A (B.take i);have Y:=rE k A (B.take (i+1));rw[List.length_take,Nat.min_eq_left (by omega)] at j Y;have Ym:=ed hB hx;have L:=AF hk hA (iV hB i);obtain⟨J,hJ⟩:=xE (jn k A (B.take i));obtain⟨J2,R⟩:=xE (jn k A (B.take (i+1)));rw[←hJ] at j V U L;rw[←R] at Y U;have hyb:y.natAbs≤1000000000:=by
   split at V
   ·rcases List.mem_append.1 (List.mem_of_getElem? V) with h | h
    ·exact L y h
    ·simp at h;subst h;decide
   ·exact L y (List.mem_of_getElem? V)
  have hkx:(k*(x:Int)).natAbs≤10000*10000:=by rw[Int.natAbs_mul,Int.natAbs_natCast];exact Nat.mul_le_mul hk (by omega)
  obtain⟨p,hp⟩:=xE (k*(x:Int));have w1:IntKind.i64.wrap (k*(x:Int))=p:=by rw[←hp];exact ae
  rw[←hp] at U hkx;have w2:IntKind.i64.wrap (y+p)=y+p:=ae;have w3:IntKind.i64.wrap (i:Int)=(i:Int):=ae;have w4:IntKind.i64.wrap ((i:Int)+1)=((i+1:Nat):Int):=by rw[ae];omega
  have G:(i:Int)<(B.length:Int):=by omega
  obtain⟨S,Q⟩:=xE (if J.length≤i then J++[0] else J);rw[←Q] at V U;have W:i<S.length:=gL V;have D :S[i]=y:=(List.getElem?_eq_some_iff.1 V).2;have UV:(iZ S).take i++.int .i64 (y+p)::(iZ S).drop (i+1)=iZ J2:=by rw[OQ _ _ _ W,U]
  have adX:S.length=J2.length:=by rw[←U,List.length_set]
  have adY:(i:Int)<(S.length:Int):=by omega
  obtain⟨rfl,rfl⟩:=H;refine⟨i+1,?_⟩;refine bt (show i+1≤B.length∧_ from⟨m,by omega⟩) ?_;have I:¬((i:Int)+1≤(i:Int)):=by omega
  have ade:(i:Int)<(i:Int)+1:=by omega
  have hc1:(i+1)*8≤140737488355328:=by omega
  have Z9:i≤140737488355327:=by omega
  rcases Nat.lt_trichotomy A.length i with o | o | o
  ·have N:J.length=i:=by omega
   rw[if_pos (by omega)] at Q;have C:iZ J++[AV.int .i64 0]=iZ S:=by rw[Q,Cc];rfl
   have Zy:(iZ J).take i=iZ J:=List.take_of_length_le (by simp[N]);have Y4:S.length=i+1:=by rw[Q];simp[N]
   have hs2:A.length<i+1:=by omega
   have u :J2.length=i+1:=by omega
   simp[jM,jO,o,hs2,←hJ,←R,N,Y4,u,h1,h2,h3,G,m,w3,bp,gi,ju,C,Zy,X9,D,w1,w2,UV,w4,hc1,Z9,I,ade,Nat.testBit]
  ·have N:J.length=i:=by omega
   rw[if_pos (by omega)] at Q;have C:iZ J++[AV.int .i64 0]=iZ S:=by rw[Q,Cc];rfl
   have Zy:(iZ J).take i=iZ J:=List.take_of_length_le (by simp[N]);have Y4:S.length=i+1:=by rw[Q];simp[N]
   have hs1:¬A.length<i:=by omega
   have hs2:A.length<i+1:=by omega
   have u :J2.length=i+1:=by omega
   simp[jM,jO,hs1,hs2,←hJ,←R,N,Y4,u,h1,h2,h3,G,m,w3,bp,gi,ju,C,Zy,X9,D,w1,w2,UV,w4,hc1,Z9,I,ade,Nat.testBit]
  ·have N:¬J.length≤i:=by omega
   rw[if_neg N] at Q;subst Q;have hs1:¬A.length<i:=by omega
   have hs2:¬A.length<i+1:=by omega
   have acI:¬(S.length:Int)≤(i:Int):=by omega
   have adZ :i+1≤S.length:=by omega
   simp[jM,jO,hs1,hs2,←hJ,←R,acI,←adX,h1,h2,h3,G,adY,W,adZ,m,w3,bp,gi,ju,X9,D,w1,w2,UV,w4,Nat.testBit]
theorem qR(X A B:List Nat)(k:Int)(p:AV)(hp:(p=.slice 0 0 A.length none∧X=A)∨(p=.qF∧A=[]))(G':A≠[]∨B≠[])(hA:lok 10000 A=true)(hB:lok 10000 B=true)(hk:k.natAbs≤10000)(hl:A.length≤1000000)(Yb:B.length≤1000000)(H:0≤(au 10000 A:Int)+k*(au 10000 B:Int)):
  aa (ba prog) ju (aT prog) cn (B.length+2) 183 [p,.slice 1 0 B.length none,.int .i64 k,.int .i64 0] [.cells false 1 (iN .i64 X),.cells false 1 (iN .i64 B)]=
   some ⟨.slice 2 0 (dig 10000 ((au 10000 A:Int)+k*(au 10000 B:Int)).toNat).length none,none,[.cells true 1 (iN .i64 (dig 10000 ((au 10000 A:Int)+k*(au 10000 B:Int)).toNat))]⟩:=by
 have j:aT prog 183=some f183:=by kernel_rfl
 obtain⟨b,b2,Y⟩:∃b b2,ah f183=[b,b2]:=⟨_,_,rfl⟩
 obtain⟨F,Z⟩:=zH (O:=cn) (K:=B.length) X A B k hA hB hk hl Yb (by omega) Y;have V:=rE k A B;have R:=Ow k A B;have Q:=AF hk hA hB;have o :zsm (jn k A B)=true:=List.all_eq_true.2 fun d hd=>by have:=Q d hd;simp;omega
 have U:jn k A B≠[]:=by
  intro e;rw[e] at V;rcases G' with h | h
  ·have:=List.length_pos_iff.2 h;simp at V;omega
  ·have:=List.length_pos_iff.2 h;simp at V;omega
 rw[←R] at H ⊢;unfold jM jO at Z;rw[List.take_length] at Z;obtain⟨J,hJ⟩:=xE (jn k A B);rw[←hJ] at Z V Q U H o ⊢;have S:J.length≤10000000:=by omega
 have N:(iN .i64 A).take A.length=iN .i64 A:=List.take_of_length_le (by simp);have L:∀(G C u a3:afb) l,zd (G::C::u::a3::.cells true 1 (iZ J)::l) (.slice 4 0 J.length none)=some J:=fun G C u a3 l=>CY rfl (by simp) (List.take_of_length_le (by simp))
 have W:∀(G C u:afb) l,zd (G::C::u::.cells true 1 (iZ J)::l) (.slice 3 0 J.length none)=some J:=fun G C u l=>CY rfl (by simp) (List.take_of_length_le (by simp))
 have Yu:A.length*8≤140737488355328:=by omega
 have Zo:A.length≤140737488355328:=by omega
 obtain⟨D,m⟩:=xE (dig 10000 (jq 10000 J).toNat);rw[←m];clear R hJ;simp[ah,aE,f183] at Y;obtain⟨rfl,rfl⟩:=Y;by_cases I:A.length<B.length
 ·simp only[if_pos I] at Z
  rcases hp with⟨rfl,rfl⟩ | ⟨rfl,rfl⟩
  ·simp[aa,j,f183,N,Yu,Zo,Z,cn,L,U,H,o,S,←m]
  ·simp only[List.length_nil,OP] at Z
   simp[aa,j,f183,Z,cn,L,U,H,o,S,←m]
 ·simp only[if_neg I] at Z
  rcases hp with⟨rfl,rfl⟩ | ⟨rfl,rfl⟩
  ·simp[aa,j,f183,N,Yu,Zo,Z,cn,W,U,H,o,S,←m]
  ·exfalso
   simp only[List.length_nil] at I;rcases G' with h | h
   ·exact h rfl
   ·have:=List.length_pos_iff.2 h;omega
theorem vh{A B:List Nat}(k:Int)(hx:afi .i64 M x A∨(x=.qF∧A=[]))(hy:afi .i64 M y B)(H:A≠[]∨B≠[])(I:lok 10000 A=true)(J:lok 10000 B=true)(hk:k.natAbs≤10000)(W:A.length≤1000000)(Y:B.length≤1000000)(hv:0≤(au 10000 A:Int)+k*(au 10000 B:Int)):
  kO prog 183 [x,y,.int .i64 k,.int .i64 0] M (.slice M.length 0 (dig 10000 ((au 10000 A:Int)+k*(au 10000 B:Int)).toNat).length none) (M++[.cells true 1 (iN .i64 (dig 10000 ((au 10000 A:Int)+k*(au 10000 B:Int)).toNat))]):=by
 obtain⟨D,U⟩:=xE (dig 10000 ((au 10000 A:Int)+k*(au 10000 B:Int)).toNat);obtain⟨c,L,G,rfl,V,X⟩:=hy;have S :=gL V;rw[←U];rcases hx with⟨b,o,F,rfl,R,Q⟩ | ⟨rfl,rfl⟩
 ·have N:=gL R
  have h:=(ar aj (aI _) mg (aP _) (qR A A B k _ (.inl ⟨rfl,rfl⟩) H I J hk W Y hv)).1;rw[←U] at h;have:=kO.frame (M:=M) [b,c] (m:=[.cells false 1 (iN .i64 A),.cells false 1 (iN .i64 B)]) (new:=[.cells true 1 (iN .i64 D)]) rfl (by simp[N,S]) (by simp) (fun i s Z=>by
   match i with
   |0=>simp at Z;subst Z;exact .row R Q
   |1=>simp at Z;subst Z;exact .row V X
   |i+2=>simp at Z) rfl h
  simpa [AV.afp,AV.ren,eL] using this
 ·have h:=(ar aj (aI _) mg (aP _) (qR B [] B k _ (.inr ⟨rfl,rfl⟩) H I J hk W Y hv)).1
  rw[←U] at h;have:=kO.frame (M:=M) [c,c] (m:=[.cells false 1 (iN .i64 B),.cells false 1 (iN .i64 B)]) (new:=[.cells true 1 (iN .i64 D)]) rfl (by simp[S]) (by simp) (fun i s Z=>by
   match i with
   |0=>simp at Z;subst Z;exact .row V X
   |1=>simp at Z;subst Z;exact .row V X
   |i+2=>simp at Z) rfl h
  simpa [AV.afp,AV.ren,eL] using this
end Go.Proofs
