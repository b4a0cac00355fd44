/- See C54. -/
import Derived.Test.YtffdedmakncfmaaGreatDoorC21
set_option linter.all false
set_option maxRecDepth 100000
set_option maxHeartbeats 40000000
namespace Go.Proofs
open Go.Eng
open Tryz
theorem Q8(n:Int)(d:Nat)(hd:d≠0)(H:(ai n.natAbs).length≤10000)(y:(ai d).length≤10000)(mem:Mem):
  kO prog 113 [.str (bB n),.str (ai d)] mem (.tuple [.str (ax (mkRat n d)),.int .i64 0]) mem:=by
 have Z:aS prog 113=some f113:=by kernel_rfl
 refine ao kD ?_ mem;have X:kf (d:Int)=1:=HQ hd;have V:(ai n.natAbs).length≤100000:=by omega
 have h3:(ai d).length≤100000:=by omega
 simp[aa,Z,f113,ag,bL,bD,ct,aM,aN,cn,bk,aB,X,hd,V,h3]
noncomputable def Cf(f:FuncId)(args:List AV):Option AV:=
 match f,args with
 |113,[.str s,.str t]=>match jP s,xX t with
  |some n,some d=>if d≠0∧(ai n.natAbs).length≤10000∧(ai d).length≤10000 then some (.tuple [.str (ax (mkRat n d)),.int .i64 0]) else none
  |_,_=>none
 |f,args=>bn f args
theorem OA:qS prog (ag Cf):=bF fun f X v h mem=>by
 unfold Cf at h;split at h
 ·split at h
  ·rename_i m n V U
   split at h
   next Z=>cases h;rw[bS V,gw U];exact Q8 m n Z.1 Z.2.1 Z.2.2 mem
   ·cases h
  ·cases h
 ·have:=cP.fn _ _ mem ⟨v,none,[]⟩ (by unfold ag;simp only;rw[h])
  simpa [y9.mem] using this
theorem gE{n:Nat}(h:n<10 ^ 19):(ai n).length≤20:=by exact aI (by omega) (by omega)
theorem Is(n:Int)(d:Nat)(hd:d≠0)(H:dL n=true)(y:dL (d:Int)=true)(mem:Mem):
  kO prog 66 [.int .i64 n,.int .i64 d] mem (.tuple [.str (ax (mkRat n d)),.int .i64 0]) mem:=by
 have X:aS prog 66=some f66:=by kernel_rfl
 refine ao OA ?_ mem;have V:n.natAbs<10 ^ 19:=by unfold dL at H;simp at H;omega
 have Z:d<10 ^ 19:=by unfold dL at y;simp at y;omega
 have U:(ai n.natAbs).length≤10000:=by have:=gE V;omega
 have h3:(ai d).length≤10000:=by have:=gE Z;omega
 have S:bB (d:Int)=ai d:=rfl;simp[aa,X,f66,ag,Cf,bn,bw,bL,bD,ct,aM,bk,aB,H,y,S,hd,U,h3]
end Go.Proofs
namespace Go.Eng
theorem ze{a:Int}{b:Nat}(y:0<b)(h:0≤a∨a.natAbs%b=0):a.tdiv b=a / b∧a.tmod b=((a.natAbs%b:Nat):Int):=by
 by_cases S:0≤a
 ·obtain⟨n,rfl⟩:∃n:Nat,a=n:=⟨a.toNat,by omega⟩
  rw[xN,xO,Int.natAbs_natCast,Int.natCast_ediv];exact⟨rfl,rfl⟩
 ·have Z:a.natAbs%b=0:=by rcases h with h | h<;>omega
  have X:a= -((a.natAbs / b*b:Nat):Int):=by have:=Nat.div_add_mod a.natAbs b;rw[Z,Nat.add_zero,Nat.mul_comm] at this;omega
  obtain⟨q,U⟩:=xE (a.natAbs / b);rw[←U] at X;rw[Z,X,Int.natCast_mul,←Int.neg_mul];have V :(b:Int)≠0:=by omega
  exact⟨by rw[Int.mul_tdiv_cancel _ V,Int.mul_ediv_cancel _ V],by rw[Int.mul_tmod_left];rfl⟩
def Sm(D V:Nat)(q:Rat):Prop:=0<D∧(∃n:Int,q*(D:Rat)=(n:Rat))∧ -(V:Rat)≤q∧q≤(V:Rat)
end Go.Eng
namespace Go.Proofs
open Go.Eng
open Tryz
variable{a:Rat}
theorem Yh:0≤fL a↔0≤a:=by
 have h:0≤fL a↔0≤a.num:=by
  unfold fL kf;split
  ·omega
  ·split<;>omega
 rw[h,Rat.num_nonneg]
theorem W7(h:0<fL a):0<a:=by
 have Z:=Yh.1 (show 0≤fL a by omega);have X:a≠0:=by rintro rfl;exact absurd h (by decide)
 grind
def M8(A B C q:P2):Rat×Rat×Rat:=(dj B C q,dj C A q,dj A B q)
def inQ(w:Rat×Rat×Rat):Prop:=0≤fL w.1∧0≤fL w.2.1∧0≤fL w.2.2
instance (w:Rat×Rat×Rat):Decidable (inQ w):=inferInstanceAs (Decidable (0≤fL w.1∧0≤fL w.2.1∧0≤fL w.2.2))
def FY(P:List P2)(q:P2)(t:Tr):Rat×Rat×Rat:=M8 (P.getD t.1 (0,0)) (P.getD t.2.1 (0,0)) (P.getD t.2.2 (0,0)) q
def Qg(P:List P2)(q:P2):List Tr→Nat→Option (Nat×(Rat×Rat×Rat))
 | [],_=>none
 |t::l,i=>if inQ (FY P q t) then some (i,FY P q t) else Qg P q l (i+1)
theorem Dh{P:List P2}{q:P2}:∀{T:List Tr} {k j:Nat} {w:Rat×Rat×Rat},Qg P q T k=some (j,w)→∃i t,j=k+i∧T[i]? =some t∧inQ (FY P q t)∧w=FY P q t∧∀(l:Nat) s,l<i→T[l]? =some s→¬inQ (FY P q s)
 | [],k,j,w,h=>by simp[Qg] at h
 |t::l,k,j,w,h=>by
  rw[Qg] at h;split at h
  ·rename_i Z
   simp only[Option.some.injEq,Prod.mk.injEq] at h;exact⟨0,t,by omega,rfl,Z,h.2.symm,fun l s R=>by omega⟩
  ·rename_i Z
   obtain⟨i,s,Q,V,h3,U,S⟩:=Dh h;refine⟨i+1,s,by omega,by simpa using V,h3,U,fun m x O X=>?_⟩;cases m with
   |zero=>simp at X;subst X;exact Z
   |succ m=>exact S m x (by omega) (by simpa using X)
theorem Mk{P:List P2}{q:P2}:∀{T:List Tr} {k:Nat},Qg P q T k=none→∀(l:Nat) s,T[l]? =some s→¬inQ (FY P q s)
 | [],k,h,l,s,hs=>by simp at hs
 |t::r,k,h,l,s,hs=>by
  rw[Qg] at h;split at h
  ·cases h
  ·rename_i Z
   cases l with
   |zero=>simp at hs;subst hs;exact Z
   |succ m=>exact Mk h m s (by simpa using hs)
def Uf(w:Rat×Rat×Rat)(a b c:Rat):Rat:=(w.1*a+w.2.1*b+w.2.2*c) / (w.1+w.2.1+w.2.2)
theorem Wp(A B C q:P2):dj B C q+dj C A q+dj A B q=dj A B C:=by
 unfold dj
 grind
def XM(z:Rat):List Rat→Nat
 | []=>0
 |h::l=>(if h≤z then 1 else 0)+XM z l
theorem NM(s:List UInt8)(mem:Mem):kO prog 126 [.str s] mem (.tuple [.bool (Lib.hasPrefix s [45]),.str (Lib.trimPrefix s [45])]) mem:=by
 have X:aS prog 126=some f126:=by kernel_rfl
 refine ao (aw _) ?_ mem;cases s with
 |nil=>simp[aa,X,f126,Lib.hasPrefix,Lib.trimPrefix]
 |cons c r=>
  have U:0<(r.length:Int)+1:=by omega
  have S:(1:Int)≤(r.length:Int)+1:=by omega
  by_cases h:c=45
  ·subst h
   have Z:Lib.hasPrefix (45::r) [45]=true:=by simp[Lib.hasPrefix,List.isPrefixOf]
   have V:Lib.trimPrefix (45::r) [45]=r:=by unfold Lib.trimPrefix;rw[Z];rfl
   rw[Z,V];simp[aa,X,f126,U,S,Nat.testBit]
  ·have R :¬(45:UInt8)=c:=fun e=>h e.symm
   have Z:Lib.hasPrefix (c::r) [45]=false:=by simp[Lib.hasPrefix,List.isPrefixOf,R]
   have V:Lib.trimPrefix (c::r) [45]=c::r:=by unfold Lib.trimPrefix;rw[Z];rfl
   have h3:¬((c.toNat:Int)=45):=by
    intro e;apply h;apply UInt8.toNat_inj.1;have:c.toNat=45:=by omega
    rw[this];rfl
   rw[Z,V];simp[aa,X,f126,U,h3]
noncomputable def bM(f:FuncId)(args:List AV):Option AV:=
 match f,args with
 |126,[.str s]=>some (.tuple [.bool (Lib.hasPrefix s [45]),.str (Lib.trimPrefix s [45])])
 |f,args=>aq f args
theorem jX:qS prog (ag bM):=bF fun f Z v h mem=>by
 unfold bM at h;split at h
 ·cases h;exact NM _ mem
 ·have:=dU.fn _ _ mem ⟨v,none,[]⟩ (by unfold ag;simp only;rw[h])
  simpa [y9.mem] using this
theorem NG(n:Int)(mem:Mem):kO prog 118 [.str (bB n)] mem (.int .i64 (kf n)) mem:=by
 have Z:aS prog 118=some f118:=by kernel_rfl
 refine ao jX ?_ mem;by_cases X:n<0
 ·simp[aa,Z,f118,ag,bM,aJ,aD,X,kf]
 ·by_cases V:n=0
  ·subst V
   have:bB 0=[48]:=rfl;simp[aa,Z,f118,ag,bM,aJ,aD,kf,gi]
  ·simp[aa,Z,f118,ag,bM,aJ,aD,X,V,kf,gi]
theorem Rb(n:Int)(mem:Mem):kO prog 186 [.str (bB n)] mem (.str (ai n.natAbs)) mem:=by
 have Z:aS prog 186=some f186:=by kernel_rfl
 refine ao jX ?_ mem;simp[aa,Z,f186,ag,bM,aD]
theorem Th(n:Int)(y:dL n=true)(mem:Mem):kO prog 71 [.int .i64 n] mem (.str (bB n)) mem:=by
 have Z:aS prog 71=some f71:=by kernel_rfl
 refine ao jX ?_ mem;simp[aa,Z,f71,ag,bM,aq,y]
theorem Rf(n:Int)(y:(ai n.natAbs).length≤1000000000)(mem:Mem):kO prog 119 [.str (bB n)] mem (.str (bB (-n))) mem:=by
 have Z:aS prog 119=some f119:=by kernel_rfl
 refine ao jX ?_ mem;by_cases X:n<0
 ·have e:bB (-n)=ai n.natAbs:=by rw[gj (by omega),Int.natAbs_neg]
  simp[aa,Z,f119,ag,bM,aJ,aD,X,e]
 ·by_cases V:n=0
  ·subst V
   have e:ai 0=[48]:=jH;have U:bB 0=[48]:=rfl;have S:Lib.hasPrefix [48] [45]=false:=rfl;have R:Lib.trimPrefix [48] [45]=[48]:=rfl;simp[aa,Z,f119,ag,bM,U,S,R]
  ·have e:bB (-n)=45::ai n.natAbs:=by rw[kK (by omega),gj (by omega)]
   have Q:1+(ai n.natAbs).length≤fm:=by unfold fm;omega
   simp[aa,Z,f119,ag,bM,aJ,aD,X,V,gi,e,Q]
end Go.Proofs
namespace Go.Proofs
open Go.Eng
end Go.Proofs
namespace Go.Proofs
open Go.Eng
open Tryz
noncomputable def cJ(f:FuncId)(args:List AV):Option AV:=bM f args
theorem OB:qS prog (ag cJ):=jX
theorem AD{O:afF}{K:Nat}(u:Nat)(H:(ai u).length≤18)(hK:20<K){b:Code}(y:ah f127=[b]):
  ∃F:Env→Bool→Env,∀Z d,(ad Z 5=.str (ai u)∧ad Z 6=.int .i64 0∧ad Z 7=.int .i64 0)→
   aW (bh prog) (fun _=>[6,7]) O K 45 0 true (.loop b) ⟨Z,[],d⟩=some (.exit 0,⟨F Z d,[],d⟩)∧
   (ad (F Z d) 6=.int .i64 (-(u:Int))∧ad (F Z d) 4=ad Z 4):=by
 obtain⟨s,Q⟩:=xE (ai u);have o:s.all isD=true:=by rw[Q];exact du u
 have I:eF s=u:=by rw[Q];exact dz u
 rw[←Q] at H ⊢;refine bj rfl (fun Z=>ad Z 5=.str s∧ad Z 6=.int .i64 0∧ad Z 7=.int .i64 0) (fun Z m =>ad m 6=.int .i64 (-(u:Int))∧ad m 4=ad Z 4) ?_;rintro Z d ⟨h5,h6,h7⟩;have V:eF (s.take 0)=0:=by rw[List.take_zero];unfold eF;rw[dD]
 have Y:aA [6,7] (ae b) Z ((6,.int .i64 (-((eF (s.take 0):Nat):Int)))::(7,.int .i64 ((0:Nat):Int))::Z)=aA [6,7] (ae b) Z Z:=by rw[V];simp[aA,h6,h7]
 rw[←Y];refine bz (α:=Nat) (fun j=>⟨aA [6,7] (ae b) Z ((6,.int .i64 (-((eF (s.take j):Nat):Int)))::(7,.int .i64 (j:Int))::Z),[],d⟩)
  (fun j=>s.length-j) (fun j=>j≤s.length) (.exit 0) _ d _ (by simp) ?_ K 0 (Nat.zero_le _) (by simp only[Nat.sub_zero];omega)
 intro j hj;clear Y V;simp[ah,aE,f127] at y;by_cases N:j=s.length
 ·right
  subst N;rw[List.take_length,I];subst y;simp[h5]
 ·left
  have M:j<s.length:=by omega
  have L:(j:Int)<(s.length:Int):=by omega
  obtain⟨c,G⟩:∃c,s[j]? =some c:=⟨s[j],by simp[M]⟩
  have D :s[j]=c:=(List.getElem?_eq_some_iff.1 G).2;have X:=List.all_eq_true.1 o c (List.mem_of_getElem? G);have hcd:=uC X;have ac5:48≤c.toNat:=by unfold isD at X;simp only[Bool.and_eq_true,decide_eq_true_eq] at X;exact X.1
  have Z6:s.take (j+1)=s.take j++[c]:=by rw[List.take_add_one,G];rfl
  have U:eF (s.take (j+1))=10*eF (s.take j)+(c.toNat-48):=by rw[Z6,pd]
  have C:eF (s.take j)<10 ^ 17:=by
   have h1:=DU (qi o j);have h2:(s.take j).length≤17:=by rw[List.length_take];omega
   have h3:10 ^ (s.take j).length≤10 ^ 17:=Nat.pow_le_pow_right (by omega) h2;omega
  obtain⟨v,S⟩:=xE (eF (s.take j));obtain⟨W,R⟩:=xE (eF (s.take (j+1)));rw[←S] at C U;rw[←R] at U;obtain⟨k,hk⟩:=xE (α:=Nat) (c.toNat-48);have w0:IntKind.i64.wrap (c.toNat:Int)=(c.toNat:Int):=af (by omega) (by have:=c.toNat_lt;omega);have w1:IntKind.i64.wrap ((c.toNat:Int)-48)=(k:Int):=by rw[af (by omega) (by have:=c.toNat_lt;omega)];omega
  have w2:IntKind.i64.wrap (-9223372036854775808+(k:Int))= -9223372036854775808+(k:Int):=af;obtain⟨z,J⟩:=xE ((-9223372036854775808+(k:Int)).tdiv 10);have hzb:z≤ -900000000000000000∧ -922337203685477581≤z:=by
   have e: -9223372036854775808+(k:Int)= -((9223372036854775808-k:Nat):Int):=by omega
   obtain⟨w,hw⟩:=xE ((9223372036854775808-k) / 10);have hz3:z= -(w:Int):=by rw[J,e,Int.neg_tdiv,HT _ 10,←hw]
   omega
  have w3:IntKind.i64.wrap z=z:=af;have B:¬(-(v:Int)<z):=by omega
  have w4:IntKind.i64.wrap (10* -(v:Int))=10* -(v:Int):=af;have w4' :IntKind.i64.wrap (-(10*(v:Int)))= -(10*(v:Int)):=af;have w5:IntKind.i64.wrap (10* -(v:Int)-(k:Int))= -(W:Int):=by rw[af];omega
  have w5' :IntKind.i64.wrap (-(10*(v:Int))-(k:Int))= -(W:Int):=by rw[af];omega
  have w6:IntKind.i64.wrap ((j:Int)+1)=((j+1:Nat):Int):=by rw[af];omega
  refine⟨j+1,?_⟩;refine br (show j+1≤s.length∧_ from⟨M,by omega⟩) ?_;subst y;simp[h5,M,L,D,←S,←R,w0,w1,w2,←J,w3,B,w4,w5,w6]
theorem IC(n:Int)(y:(ai n.natAbs).length≤18)(mem:Mem):kO prog 127 [.str (bB n)] mem (.tuple [.int .i64 n,.bool true]) mem:=by
 have S:aS prog 127=some f127:=by kernel_rfl
 refine cK jX (lv:=fun _=>[6,7]) (K:=21) rfl rfl ?_ mem;obtain⟨b,V⟩:∃b,ah f127=[b]:=⟨_,rfl⟩
 obtain⟨F,X⟩:=AD (O:=ag bM) (K:=21) n.natAbs y (by omega) V;have M:n.natAbs<10 ^ 18:=by have R:=bZ n.natAbs;have Q:10 ^ (ai n.natAbs).length≤10 ^ 18:=Nat.pow_le_pow_right (by omega) y;omega
 obtain⟨u,U⟩:=xE n.natAbs;rw[←U] at X y M;have Z :¬(19<((ai u).length:Int)):=by omega
 simp[ah,aE,f127] at V;subst V;by_cases N:n<0
 ·have e: -(u:Int)=n:=by omega
  rw[e] at X;simp[aa,S,f127,ag,bM,aJ,aD,←U,Z,X,N]
 ·have e:(u:Int)=n:=by omega
  have R:¬(-(u:Int)= -9223372036854775808):=by omega
  have L :¬((u:Int)=9223372036854775808):=by omega
  have Q:IntKind.i64.wrap (u:Int)=n:=by rw[af];exact e
  have h3:¬u=9223372036854775808:=by omega
  simp[aa,S,f127,ag,bM,aJ,aD,←U,Z,X,N,R,Q]
noncomputable def bV(f:FuncId)(args:List AV):Option AV:=
 match f,args with
 |127,[.str s]=>match jP s with
  |some n=>if (ai n.natAbs).length≤18 then some (.tuple [.int .i64 n,.bool true]) else none
  |none=>none
 |71,[.int .i64 n]=>if dL n then some (.str (bB n)) else none
 |118,[.str s]=>match jP s with
  |some n=>some (.int .i64 (kf n))
  |none=>none
 |186,[.str s]=>match jP s with
  |some n=>some (.str (ai n.natAbs))
  |none=>none
 |119,[.str s]=>match jP s with
  |some n=>if (ai n.natAbs).length≤1000000000 then some (.str (bB (-n))) else none
  |none=>none
 |f,args=>cJ f args
theorem Cg:qS prog (ag bV):=bF fun f V v h mem=>by
 unfold bV at h;split at h
 ·split at h
  ·rename_i n Z
   split at h
   next X=>cases h;rw[bS Z];exact IC n X mem
   ·cases h
  ·cases h
 ·split at h
  next U=>cases h;exact Th _ U mem
  ·cases h
 ·split at h
  next n Z=>cases h;rw[bS Z];exact NG n mem
  ·cases h
 ·split at h
  next n Z=>cases h;rw[bS Z];exact Rb n mem
  ·cases h
 ·split at h
  ·rename_i n Z
   split at h
   next X=>cases h;rw[bS Z];exact Rf n X mem
   ·cases h
  ·cases h
 ·have:=OB.fn _ _ mem ⟨v,none,[]⟩ (by unfold ag;simp only;rw[h])
  simpa [y9.mem] using this
theorem IB(n:Int)(y:(ai n.natAbs).length≤1000000000)(mem:Mem):kO prog 182 [.str (bB n)] mem (if (ai n.natAbs).length≤17 then .tuple [.int .i64 n,.bool true] else .tuple [.int .i64 0,.bool false]) mem:=by
 have X:aS prog 182=some f182:=by kernel_rfl
 refine cK Cg (lv:=fun _=>[]) (K:=1) rfl (by split<;>rfl) ?_ mem;by_cases h:(ai n.natAbs).length≤17
 ·have Z:¬(17<((ai n.natAbs).length:Int)):=by omega
  have V:(ai n.natAbs).length≤18:=by omega
  simp[aa,X,f182,ag,bV,cJ,bM,aD,aB,h,Z,V]
 ·have Z:(17<((ai n.natAbs).length:Int)):=by omega
  simp[aa,X,f182,ag,bV,cJ,bM,aD,h,Z]
end Go.Proofs
