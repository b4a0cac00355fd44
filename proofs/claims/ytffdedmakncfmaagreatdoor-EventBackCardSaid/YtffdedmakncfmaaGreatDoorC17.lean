/- See C54. -/
import Derived.Test.YtffdedmakncfmaaGreatDoorC16
set_option linter.all false
set_option maxRecDepth 100000
set_option maxHeartbeats 40000000
namespace Go.Proofs
open Go.Eng
open Tryz
noncomputable def ct(f:FuncId)(args:List AV):Option AV:=
 match f,args with
 |134,[.str s,.str t]=>match jP s,jP t with
  |some m,some n=>if (ai m.natAbs).length≤100000∧(ai n.natAbs).length≤100000 then some (.str (bB (m+n))) else none
  |_,_=>none
 |93,[.str s,.str t]=>match jP s,jP t with
  |some m,some n=>if (ai m.natAbs).length≤100000∧(ai n.natAbs).length≤100000 then some (.str (bB (m*n))) else none
  |_,_=>none
 |138,[.str s,.str t]=>match jP s,xX t with
  |some m,some n=>if (ai m.natAbs).length≤100000∧(ai n).length≤100000∧0<n∧(0≤m∨m.natAbs%n=0) then some (.tuple [.str (bB (m / n)),.str (ai (m.natAbs%n)),.int .i64 0]) else none
  |_,_=>none
 |109,[.str s,.str t]=>match jP s,jP t with
  |some m,some n=>if (ai m.natAbs).length≤100000∧(ai n.natAbs).length≤100000 then some (.str (ai (m.natAbs.gcd n.natAbs))) else none
  |_,_=>none
 |107,[.str s]=>if s.length≤1000000000 then some (.int .i64 (if okT (Lib.hasPrefix s [45]) (Lib.trimPrefix s [45]) then 0 else 2)) else none
 |f,args=>aM f args
theorem Lc:qS prog (ag ct):=bF fun f U v h mem=>by
 unfold ct at h;split at h
 ·split at h
  ·rename_i m n X V
   split at h
   ·rename_i Z
    cases h;rw[bS X,bS V];exact QK m n Z.1 Z.2 mem
   ·cases h
  ·cases h
 ·split at h
  ·rename_i m n X V
   split at h
   ·rename_i Z
    cases h;rw[bS X,bS V];exact Q5 m n Z.1 Z.2 mem
   ·cases h
  ·cases h
 ·split at h
  ·rename_i m n X V
   split at h
   ·rename_i Z
    cases h;obtain⟨S,R,Q,O⟩:=Z;rw[bS X,gw V];exact F5 m n Q O S R mem
   ·cases h
  ·cases h
 ·split at h
  ·rename_i m n X V
   split at h
   ·rename_i Z
    cases h;rw[bS X,bS V];exact QW m n Z.1 Z.2 mem
   ·cases h
  ·cases h
 ·split at h
  ·rename_i N
   cases h;exact H6 _ N mem
  ·cases h
 ·have:=zt.fn _ _ mem ⟨v,none,[]⟩ (by unfold ag;simp only;rw[h])
  simpa [y9.mem] using this
noncomputable def bD(f:FuncId)(args:List AV):Option AV:=
 match f,args with
 |89,[.str s]=>match dY s with
  |some q=>if s.length≤1000000000 then some (if (ai q.num.natAbs).length≤9∧(q.den=1∨(ai q.den).length≤9) then .tuple [.int .i64 q.num,.int .i64 q.den,.bool true] else .tuple [.int .i64 0,.int .i64 0,.bool false]) else none
  |none=>none
 |90,[.int .i64 n,.int .i64 d]=>if d.toNat≠0∧n.natAbs≤4611686018427387904∧0≤d∧d.toNat≤4611686018427387904 then some (.str (ax (mkRat n d.toNat))) else none
 |91,[.str s]=>match dY s with
  |some q=>if s.length≤1000000000 then some (.tuple [.str (bB q.num),.str (ai q.den)]) else none
  |none=>none
 |136,[.str s,.str t]=>match jP s,xX t with
  |some n,some d=>if s.length≤1000000000∧t.length≤1000000000 then some (.str (if d=1 then bB n else bB n++47::ai d)) else none
  |_,_=>none
 |46,[.str s]=>match dY s with
  |some q=>if s.length≤1000000000 then some (.str (ax (-q))) else none
  |none=>none
 |228,[.str s]=>match dY s with
  |some q=>some (.int .i64 (fL q))
  |none=>none
 |f,args=>ct f args
theorem zw:qS prog (ag bD):=bF fun f U v h mem=>by
 unfold bD at h;split at h
 ·split at h
  ·rename_i q X
   split at h
   ·rename_i Z
    cases h;rw[az X] at Z ⊢;exact IA q Z mem
   ·cases h
  ·cases h
 ·split at h
  ·rename_i V
   obtain⟨S,R,Q,O⟩:=V;cases h;have:=II _ _ R S O mem;rw[Int.toNat_of_nonneg Q] at this;rw[Rat.mkRat_def,dif_neg S];exact this
  ·cases h
 ·split at h
  ·rename_i q X
   split at h
   ·rename_i Z
    cases h;rw[az X] at Z ⊢;exact NA q Z mem
   ·cases h
  ·cases h
 ·split at h
  ·rename_i m n N M
   split at h
   ·rename_i V
    cases h;rw[bS N,gw M] at V ⊢;exact QY m n V.1 V.2 mem
   ·cases h
  ·cases h
 ·split at h
  ·rename_i q X
   split at h
   ·rename_i Z
    cases h;rw[az X] at Z ⊢;exact Q7 q Z mem
   ·cases h
  ·cases h
 ·split at h
  ·rename_i q X
   cases h;rw[az X];exact BN q mem
  ·cases h
 ·have:=Lc.fn _ _ mem ⟨v,none,[]⟩ (by unfold ag;simp only;rw[h])
  simpa [y9.mem] using this
theorem cn(u:Nat):jP (ai u)=some (u:Int):=aB (u:Int)
def kx(q:Rat):Prop:=(ai q.num.natAbs).length≤40000∧(ai q.den).length≤40000
variable{q:Rat}
theorem eH(h:kx q):(ax q).length≤1000000000:=by
 have:=cR q.num;have Z:=h.1;have X:=h.2;unfold ax;split
 ·omega
 ·simp only[List.length_append,List.length_cons];omega
theorem gZ{k:Nat}(hk:0<k)(y:k≤40000)(h:big k q):kx q:=by have Z:=aI hk h.1;have X:=aI hk h.2;exact⟨by omega,by omega⟩
variable{d:Nat}
theorem ua(n:Int)(hd:d≠0):ax (mkRat n d)=if d / n.natAbs.gcd d=1 then bB (n / (n.natAbs.gcd d:Nat)) else bB (n / (n.natAbs.gcd d:Nat))++47::ai (d / n.natAbs.gcd d):=by unfold ax;rw[Rat.num_mkRat,Rat.den_mkRat,if_neg hd,if_neg hd,Nat.gcd_comm d]
theorem gd(n:Nat):(ai n==[49])=decide (n=1):=by
 rw[Bool.eq_iff_iff,beq_iff_eq,decide_eq_true_eq];constructor
 ·intro e;exact Bs (e.trans (show [49]=ai 1 from rfl))
 ·rintro rfl;rfl
theorem HQ(h:d≠0):kf (d:Int)=1:=by unfold kf;rw[if_neg (by omega),if_neg (by omega)]
theorem Ip(n:Int)(d:Nat)(hd:d≠0)(H:(ai n.natAbs).length≤100000)(y:(ai d).length≤100000)(mem:Mem):
  kO prog 92 [.str (bB n),.str (ai d)] mem (.str (ax (mkRat n d))) mem:=by
 have F:aS prog 92=some f92:=by kernel_rfl
 refine ao zw ?_ mem;rw[ua n hd];have D:=HQ hd;have Z:0<n.natAbs.gcd d:=Nat.gcd_pos_of_pos_right _ (by omega);have X:n.natAbs.gcd d∣n.natAbs:=Nat.gcd_dvd_left _ _;have V:n.natAbs.gcd d∣d:=Nat.gcd_dvd_right _ _;have U:n.natAbs.gcd d≤d:=Nat.le_of_dvd (by omega) V;obtain⟨g,R⟩:=xE (n.natAbs.gcd d);rw[←R] at Z X V U ⊢;have C:=cR n;have Q:(bB n).length≤1000000000:=by omega
 have O:(ai d).length≤1000000000:=by omega
 by_cases S:g=1
 ·have B:n / (g:Int)=n:=by rw[S];exact Int.ediv_one n
  have u:d / g=d:=by rw[S];exact Nat.div_one d
  rw[B,u];simp[aa,F,f92,ag,bD,ct,aM,aN,cn,bk,aB,D,H,y,←R,gd,S,Q,O]
 ·have N:(ai g).length≤100000:=by have:=bx U;omega
  have M:n.natAbs%g=0:=Nat.mod_eq_zero_of_dvd X;have L:bB ((d:Int) / (g:Int))=ai (d / g):=by rw[←Int.natCast_ediv];rfl
  have o:(ai (n / (g:Int)).natAbs).length≤100000:=by have:=bx (Int.natAbs_ediv_le_natAbs n g);omega
  have m:=cR (n / (g:Int));have K:(bB (n / (g:Int))).length≤1000000000:=by omega
  have G:(ai (d / g)).length≤1000000000:=by have:=bx (Nat.div_le_self d g);omega
  simp[aa,F,f92,ag,bD,ct,aM,aN,cn,bk,aB,D,H,y,←R,gd,S,N,Z,M,L,K,G]
noncomputable def bL(f:FuncId)(args:List AV):Option AV:=
 match f,args with
 |92,[.str s,.str t]=>match jP s,xX t with
  |some n,some d=>if d≠0∧(ai n.natAbs).length≤100000∧(ai d).length≤100000 then some (.str (ax (mkRat n d))) else none
  |_,_=>none
 |f,args=>bD f args
theorem kD:qS prog (ag bL):=bF fun f X v h mem=>by
 unfold bL at h;split at h
 ·split at h
  ·rename_i m n V U
   split at h
   ·rename_i Z
    cases h;rw[bS V,gw U];exact Ip m n Z.1 Z.2.1 Z.2.2 mem
   ·cases h
  ·cases h
 ·have:=zw.fn _ _ mem ⟨v,none,[]⟩ (by unfold ag;simp only;rw[h])
  simpa [y9.mem] using this
def CO(a b:Rat):Int:=M6 (a.num*b.den) (b.num*a.den)
variable{a b:Rat}
theorem OZ:CO a b≤0↔a≤b:=by
 rw[Rat.le_iff];unfold CO M6;split
 ·constructor<;>intro h<;>omega
 ·split<;>constructor<;>intro h<;>omega
theorem HG(a b:Rat):(ax a==ax b)=decide (a=b):=by rw[Bool.eq_iff_iff,beq_iff_eq,decide_eq_true_eq];exact⟨iS,fun h=>by rw[h]⟩
def qk(q:Rat):Prop:=(ai q.num.natAbs).length≤9∧(q.den=1∨(ai q.den).length≤9)
theorem SD(h:qk q):q.num.natAbs<10 ^ 9∧q.den<10 ^ 9:=by
 have Z:=bZ q.num.natAbs;have X:=bZ q.den;have h3:10 ^ (ai q.num.natAbs).length≤10 ^ 9:=Nat.pow_le_pow_right (by omega) h.1;refine⟨by omega,?_⟩;rcases h.2 with h4 | h4
 ·omega
 ·have V:10 ^ (ai q.den).length≤10 ^ 9:=Nat.pow_le_pow_right (by omega) h4
  omega
section
variable (ha:kx a)(hb:kx b)
include ha hb
theorem P4:(ai (a.num*(b.den:Int)).natAbs).length≤80000:=by rw[Int.natAbs_mul,Int.natAbs_natCast];exact dq ha.1 hb.2
theorem L6:(ai (a.den*b.den)).length≤80000:=dq ha.2 hb.2
theorem Uc:(ai (a.num*b.num).natAbs).length≤80000:=by rw[Int.natAbs_mul];exact dq ha.1 hb.1
end
theorem ly{α:Type}(h:¬qk q)(x y:α):(if (ai q.num.natAbs).length≤9∧(q.den=1∨(ai q.den).length≤9) then x else y)=y:=if_neg h
theorem dW{α:Type}(h:qk q)(x y:α):(if (ai q.num.natAbs).length≤9∧(q.den=1∨(ai q.den).length≤9) then x else y)=x:=if_pos h
theorem uq(a b:Rat)(y:kx a)(H:kx b)(mem:Mem):
  kO prog 111 [.str (ax a),.str (ax b)] mem (.int .i64 (CO a b)) mem:=by
 have S:aS prog 111=some f111:=by kernel_rfl
 refine ao kD ?_ mem;have Q:=eH y;have O:=eH H;by_cases N:a=b
 ·subst N
  have:CO a a=0:=by unfold CO M6;simp
  simp[aa,S,f111,this]
 ·have Z:=HG a b
  rw[decide_eq_false N] at Z;obtain⟨X,M⟩:=xE (a.num*(b.den:Int));obtain⟨Y,L⟩:=xE (b.num*(a.den:Int));have G:CO a b=M6 X Y:=by unfold CO;rw[←M,←L]
  by_cases F:qk a∧qk b
  ·obtain⟨V,R⟩:=F
   obtain⟨o,m⟩:=SD V;obtain⟨j,W⟩:=SD R;have J:X.natAbs<10 ^ 9*10 ^ 9:=by rw[M];exact fD o (by simpa using W)
   have I:Y.natAbs<10 ^ 9*10 ^ 9:=by rw[L];exact fD j (by simpa using m)
   have w1:IntKind.i64.wrap (a.num*(b.den:Int))=X:=by rw[←M];exact af
   have w2:IntKind.i64.wrap (b.num*(a.den:Int))=Y:=by rw[←L];exact af
   rw[G];unfold M6;by_cases U:X<Y
   ·simp[aa,S,f111,Z,ag,bL,bD,ay,Q,O,dW V,dW R,w1,w2,U]
   ·by_cases K:Y<X
    ·simp[aa,S,f111,Z,ag,bL,bD,ay,Q,O,dW V,dW R,w1,w2,U,K]
    ·simp[aa,S,f111,Z,ag,bL,bD,ay,Q,O,dW V,dW R,w1,w2,U,K]
  ·rw[G]
   have D:(ai a.num.natAbs).length≤100000:=by have:=y.1;omega
   have C:(ai a.den).length≤100000:=by have:=y.2;omega
   have B:(ai b.num.natAbs).length≤100000:=by have:=H.1;omega
   have u:(ai b.den).length≤100000:=by have:=H.2;omega
   by_cases V:qk a
   ·have R:¬qk b:=fun h=>F ⟨V,h⟩
    simp[aa,S,f111,Z,ag,bL,bD,ct,aM,ay,aB,cn,Q,O,dW V,ly R,D,C,B,u,←M,←L]
   ·simp[aa,S,f111,Z,ag,bL,bD,ct,aM,ay,aB,cn,Q,O,ly V,D,C,B,u,←M,←L]
theorem np(q:Rat):(ax q==[49])=decide (q=1):=by
 have:=HG q 1
 rwa [show ax 1=[49] from rfl] at this
theorem QL(a b:Rat)(y:kx a)(H:kx b)(mem:Mem):
  kO prog 86 [.str (ax a),.str (ax b)] mem (.str (ax (a+b))) mem:=by
 have O:aS prog 86=some f86:=by kernel_rfl
 refine ao kD ?_ mem;have G:=eH y;have F:=eH H;by_cases Z:a=0
 ·subst Z
  have:ax 0=[48]:=rfl;simp[aa,O,f86,this,Rat.zero_add]
 by_cases L:b=0
 ·subst L
  have:ax 0=[48]:=rfl;simp[aa,O,f86,this,aY,Z,Rat.add_zero]
 have pa:=a.den_pos;have pb:=b.den_pos;have V:a.den*b.den≠0:=Nat.mul_ne_zero a.den_nz b.den_nz;have N:=Rat.add_def' a b;obtain⟨X,U⟩:=xE (a.num*(b.den:Int));obtain⟨Y,S⟩:=xE (b.num*(a.den:Int));obtain⟨D,R⟩:=xE (a.den*b.den);rw[←U,←S,←R] at N;rw[←R] at V;rw[N];by_cases C:qk a∧qk b
 ·obtain⟨Q,K⟩:=C
  obtain⟨a1,B⟩:=SD Q;obtain⟨b1,u⟩:=SD K;have o:X.natAbs<10 ^ 9*10 ^ 9:=by rw[U];exact fD a1 (by simpa using u)
  have m:Y.natAbs<10 ^ 9*10 ^ 9:=by rw[S];exact fD b1 (by simpa using B)
  have d1:D<10 ^ 9*10 ^ 9:=by rw[R];exact Nat.mul_lt_mul'' B u
  have w1:IntKind.i64.wrap (a.num*(b.den:Int))=X:=by rw[←U];exact af
  have w2:IntKind.i64.wrap (b.num*(a.den:Int))=Y:=by rw[←S];exact af
  have w3:IntKind.i64.wrap (X+Y)=X+Y:=af;have w4:IntKind.i64.wrap ((a.den:Int)*(b.den:Int))=(D:Int):=by rw[←Int.natCast_mul,←R];exact af
  have c1:(X+Y).natAbs≤4611686018427387904:=by omega
  have c2:D≤4611686018427387904:=by omega
  simp[aa,O,f86,aY,Z,L,ag,bL,bD,ay,G,F,dW Q,dW K,w1,w2,w3,w4,V,c1,c2]
 ·have j:(ai a.num.natAbs).length≤100000:=by have:=y.1;omega
  have W:(ai a.den).length≤100000:=by have:=y.2;omega
  have J:(ai b.num.natAbs).length≤100000:=by have:=H.1;omega
  have I:(ai b.den).length≤100000:=by have:=H.2;omega
  have o:(ai X.natAbs).length≤80000:=by rw[U];exact P4 y H
  have m:(ai Y.natAbs).length≤80000:=by rw[S];exact P4 H y
  have s5:(ai X.natAbs).length≤100000:=by omega
  have s6:(ai Y.natAbs).length≤100000:=by omega
  have s7:(ai (X+Y).natAbs).length≤100000:=by have h1:=jE o m;have h2:=bx (Int.natAbs_add_le X Y);omega
  have s8:(ai D).length≤100000:=by
   have:(ai D).length≤80000:=by rw[R];exact L6 y H
   omega
  have M:bB ((a.den:Int)*(b.den:Int))=ai D:=by rw[←Int.natCast_mul,←R];rfl
  by_cases Q:qk a
  ·have K:¬qk b:=fun h=>C ⟨Q,h⟩
   simp[aa,O,f86,aY,Z,L,ag,bL,bD,ct,ay,aB,cn,bk,G,F,dW Q,ly K,j,W,J,I,←U,←S,s5,s6,s7,s8,M,V]
  ·simp[aa,O,f86,aY,Z,L,ag,bL,bD,ct,ay,aB,cn,bk,G,F,ly Q,j,W,J,I,←U,←S,s5,s6,s7,s8,M,V]
theorem Q6(a b:Rat)(y:kx a)(H:kx b)(mem:Mem):
  kO prog 47 [.str (ax a),.str (ax b)] mem (.str (ax (a*b))) mem:=by
 have R:aS prog 47=some f47:=by kernel_rfl
 refine ao kD ?_ mem;have F:=eH y;have C:=eH H;have B:ax 0=[48]:=rfl;have u:ax 1=[49]:=rfl;by_cases Z:a=0
 ·subst Z
  simp[aa,R,f47,B,Rat.zero_mul]
 by_cases M:b=0
 ·subst M
  simp[aa,R,f47,B,aY,Z,Rat.mul_zero]
 by_cases V:a=1
 ·subst V
  simp[aa,R,f47,u,aY,M,Rat.one_mul]
 by_cases U:b=1
 ·subst U
  simp[aa,R,f47,u,aY,np,Z,V,Rat.mul_one]
 have pa:=a.den_pos;have pb:=b.den_pos;have S:a.den*b.den≠0:=Nat.mul_ne_zero a.den_nz b.den_nz;have L:=Rat.mul_def' a b;obtain⟨X,Q⟩:=xE (a.num*b.num);obtain⟨D,O⟩:=xE (a.den*b.den);rw[←Q,←O] at L;rw[←O] at S;rw[L];by_cases o:qk a∧qk b
 ·obtain⟨N,G⟩:=o
  obtain⟨a1,a2⟩:=SD N;obtain⟨b1,b2⟩:=SD G;have x1:X.natAbs<10 ^ 9*10 ^ 9:=by rw[Q];exact fD a1 b1
  have d1:D<10 ^ 9*10 ^ 9:=by rw[O];exact Nat.mul_lt_mul'' a2 b2
  have w1:IntKind.i64.wrap (a.num*b.num)=X:=by rw[←Q];exact af
  have w4:IntKind.i64.wrap ((a.den:Int)*(b.den:Int))=(D:Int):=by rw[←Int.natCast_mul,←O];exact af
  have c1:X.natAbs≤4611686018427387904:=by omega
  have c2:D≤4611686018427387904:=by omega
  simp[aa,R,f47,aY,np,Z,M,V,U,ag,bL,bD,ay,F,C,dW N,dW G,w1,w4,S,c1,c2]
 ·have m:(ai a.num.natAbs).length≤100000:=by have:=y.1;omega
  have j:(ai a.den).length≤100000:=by have:=y.2;omega
  have Y:(ai b.num.natAbs).length≤100000:=by have:=H.1;omega
  have W:(ai b.den).length≤100000:=by have:=H.2;omega
  have x1:(ai X.natAbs).length≤80000:=by rw[Q];exact Uc y H
  have J:(ai X.natAbs).length≤100000:=by omega
  have I:(ai D).length≤100000:=by
   have:(ai D).length≤80000:=by rw[O];exact L6 y H
   omega
  have K:bB ((a.den:Int)*(b.den:Int))=ai D:=by rw[←Int.natCast_mul,←O];rfl
  by_cases N:qk a
  ·have G:¬qk b:=fun h=>o ⟨N,h⟩
   simp[aa,R,f47,aY,np,Z,M,V,U,ag,bL,bD,ct,ay,aB,cn,bk,F,C,dW N,ly G,m,j,Y,W,←Q,J,I,K,S]
  ·simp[aa,R,f47,aY,np,Z,M,V,U,ag,bL,bD,ct,ay,aB,cn,bk,F,C,ly N,m,j,Y,W,←Q,J,I,K,S]
end Go.Proofs
