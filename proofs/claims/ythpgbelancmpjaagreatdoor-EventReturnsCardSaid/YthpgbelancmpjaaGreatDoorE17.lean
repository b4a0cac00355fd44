/- See E54. -/
import Derived.Test.YthpgbelancmpjaaGreatDoorE16
set_option linter.all false
set_option maxRecDepth 100000
set_option maxHeartbeats 40000000
namespace Go.Proofs
open Go.Eng
open Tryz
noncomputable def bW(f:FuncId)(args:List AV):Option AV:=
 match f,args with
 |204,[.str s,.str t]=>match lh s,lh t with
  |some m,some n=>if (au m.natAbs).length≤100000∧(au n.natAbs).length≤100000 then some (.str (bL (m+n))) else none
  |_,_=>none
 |133,[.str s,.str t]=>match lh s,lh t with
  |some m,some n=>if (au m.natAbs).length≤100000∧(au n.natAbs).length≤100000 then some (.str (bL (m*n))) else none
  |_,_=>none
 |208,[.str s,.str t]=>match lh s,yL t with
  |some m,some n=>if (au m.natAbs).length≤100000∧(au n).length≤100000∧0<n∧(0≤m∨m.natAbs%n=0) then some (.tuple [.str (bL (m / n)),.str (au (m.natAbs%n)),.int .i64 0]) else none
  |_,_=>none
 |140,[.str s,.str t]=>match lh s,lh t with
  |some m,some n=>if (au m.natAbs).length≤100000∧(au n.natAbs).length≤100000 then some (.str (au (m.natAbs.gcd n.natAbs))) else none
  |_,_=>none
 |138,[.str s]=>if s.length≤1000000000 then some (.int .i64 (if okT (Lib.hasPrefix s [45]) (Lib.trimPrefix s [45]) then 0 else 2)) else none
 |f,args=>aN f args
theorem Jd:qS prog (ag bW):=bM fun f U v h mem=>by
 unfold bW at h;split at h
 ·split at h
  ·rename_i m n X V
   split at h
   ·rename_i Z
    cases h;rw[cL X,cL V];exact OB m n Z.1 Z.2 mem
   ·cases h
  ·cases h
 ·split at h
  ·rename_i m n X V
   split at h
   ·rename_i Z
    cases h;rw[cL X,cL V];exact OP m n Z.1 Z.2 mem
   ·cases h
  ·cases h
 ·split at h
  ·rename_i m n X V
   split at h
   ·rename_i Z
    cases h;obtain⟨S,R,O,N⟩:=Z;rw[cL X,ib V];exact Ek m n O N S R mem
   ·cases h
  ·cases h
 ·split at h
  ·rename_i m n X V
   split at h
   ·rename_i Z
    cases h;rw[cL X,cL V];exact OM m n Z.1 Z.2 mem
   ·cases h
  ·cases h
 ·split at h
  ·rename_i M
   cases h;exact Gv _ M mem
  ·cases h
 ·have:=yk.fn _ _ mem ⟨v,none,[]⟩ (by unfold ag;simp only;rw[h])
  simpa [aee.mem] using this
noncomputable def be(f:FuncId)(args:List AV):Option AV:=
 match f,args with
 |129,[.str s]=>match ek s with
  |some q=>if s.length≤1000000000 then some (if (au q.num.natAbs).length≤9∧(q.den=1∨(au q.den).length≤9) then .tuple [.int .i64 q.num,.int .i64 q.den,.bool true] else .tuple [.int .i64 0,.int .i64 0,.bool false]) else none
  |none=>none
 |130,[.int .i64 n,.int .i64 d]=>if d.toNat≠0∧n.natAbs≤4611686018427387904∧0≤d∧d.toNat≤4611686018427387904 then some (.str (aj (mkRat n d.toNat))) else none
 |131,[.str s]=>match ek s with
  |some q=>if s.length≤1000000000 then some (.tuple [.str (bL q.num),.str (au q.den)]) else none
  |none=>none
 |206,[.str s,.str t]=>match lh s,yL t with
  |some n,some d=>if s.length≤1000000000∧t.length≤1000000000 then some (.str (if d=1 then bL n else bL n++47::au d)) else none
  |_,_=>none
 |81,[.str s]=>match ek s with
  |some q=>if s.length≤1000000000 then some (.str (aj (-q))) else none
  |none=>none
 |178,[.str s]=>match ek s with
  |some q=>some (.int .i64 (ky q))
  |none=>none
 |f,args=>bW f args
theorem yw:qS prog (ag be):=bM fun f U v h mem=>by
 unfold be at h;split at h
 ·split at h
  ·rename_i q X
   split at h
   ·rename_i Z
    cases h;rw[aA X] at Z ⊢;exact GW q Z mem
   ·cases h
  ·cases h
 ·split at h
  ·rename_i V
   obtain⟨S,R,O,N⟩:=V;cases h;have:=G0 _ _ R S N mem;rw[Int.toNat_of_nonneg O] at this;rw[Rat.mkRat_def,dif_neg S];exact this
  ·cases h
 ·split at h
  ·rename_i q X
   split at h
   ·rename_i Z
    cases h;rw[aA X] at Z ⊢;exact As q Z mem
   ·cases h
  ·cases h
 ·split at h
  ·rename_i m n M L
   split at h
   ·rename_i V
    cases h;rw[cL M,ib L] at V ⊢;exact OO m n V.1 V.2 mem
   ·cases h
  ·cases h
 ·split at h
  ·rename_i q X
   split at h
   ·rename_i Z
    cases h;rw[aA X] at Z ⊢;exact OR q Z mem
   ·cases h
  ·cases h
 ·split at h
  ·rename_i q X
   cases h;rw[aA X];exact Av q mem
  ·cases h
 ·have:=Jd.fn _ _ mem ⟨v,none,[]⟩ (by unfold ag;simp only;rw[h])
  simpa [aee.mem] using this
theorem dX(u:Nat):lh (au u)=some (u:Int):=aU (u:Int)
def dc(q:Rat):Prop:=(au q.num.natAbs).length≤40000∧(au q.den).length≤40000
variable{q:Rat}
theorem jt(h:dc q):(aj q).length≤1000000000:=by
 have:=cj q.num;have Z:=h.1;have X:=h.2;unfold aj;split
 ·omega
 ·simp only[List.length_append,List.length_cons];omega
theorem dr{k:Nat}(hk:0<k)(H:k≤40000)(h:big k q):dc q:=by have Z:=aI hk h.1;have X:=aI hk h.2;exact⟨by omega,by omega⟩
variable{d:Nat}
theorem ni(n:Int)(hd:d≠0):aj (mkRat n d)=if d / n.natAbs.gcd d=1 then bL (n / (n.natAbs.gcd d:Nat)) else bL (n / (n.natAbs.gcd d:Nat))++47::au (d / n.natAbs.gcd d):=by unfold aj;rw[Rat.num_mkRat,Rat.den_mkRat,if_neg hd,if_neg hd,Nat.gcd_comm d]
theorem lU(n:Nat):(au n==[49])=decide (n=1):=by
 rw[Bool.eq_iff_iff,beq_iff_eq,decide_eq_true_eq];constructor
 ·intro e;exact F1 (e.trans (show [49]=au 1 from rfl))
 ·rintro rfl;rfl
theorem Oi(h:d≠0):k9 (d:Int)=1:=by unfold k9;rw[if_neg (by omega),if_neg (by omega)]
theorem GM(n:Int)(d:Nat)(hd:d≠0)(I:(au n.natAbs).length≤100000)(H:(au d).length≤100000)(mem:Mem):
  kO prog 132 [.str (bL n),.str (au d)] mem (.str (aj (mkRat n d))) mem:=by
 have L:aT prog 132=some f132:=by kernel_rfl
 refine ak yw ?_ mem;rw[ni n hd];have K:=Oi hd;have Z:0<n.natAbs.gcd d:=Nat.gcd_pos_of_pos_right _ (by omega);have X:n.natAbs.gcd d∣n.natAbs:=Nat.gcd_dvd_left _ _;have G:n.natAbs.gcd d∣d:=Nat.gcd_dvd_right _ _;have F:n.natAbs.gcd d≤d:=Nat.le_of_dvd (by omega) G;obtain⟨g,U⟩:=xE (n.natAbs.gcd d);rw[←U] at Z X G F ⊢;have m:=cj n;have D:(bL n).length≤1000000000:=by omega
 have S:(au d).length≤1000000000:=by omega
 by_cases V:g=1
 ·have C:n / (g:Int)=n:=by rw[V];exact Int.ediv_one n
  have B:d / g=d:=by rw[V];exact Nat.div_one d
  rw[C,B];simp[aa,L,f132,ag,be,bW,aN,aP,dX,dH,aU,K,I,H,←U,lU,V,D,S]
 ·have R:(au g).length≤100000:=by have:=cV F;omega
  have A:n.natAbs%g=0:=Nat.mod_eq_zero_of_dvd X;have O:bL ((d:Int) / (g:Int))=au (d / g):=by rw[←Int.natCast_ediv];rfl
  have u:(au (n / (g:Int)).natAbs).length≤100000:=by have:=cV (Int.natAbs_ediv_le_natAbs n g);omega
  have o:=cj (n / (g:Int));have N:(bL (n / (g:Int))).length≤1000000000:=by omega
  have M:(au (d / g)).length≤1000000000:=by have:=cV (Nat.div_le_self d g);omega
  simp[aa,L,f132,ag,be,bW,aN,aP,dX,dH,aU,K,I,H,←U,lU,V,R,Z,A,O,N,M]
noncomputable def bj(f:FuncId)(args:List AV):Option AV:=
 match f,args with
 |132,[.str s,.str t]=>match lh s,yL t with
  |some n,some d=>if d≠0∧(au n.natAbs).length≤100000∧(au d).length≤100000 then some (.str (aj (mkRat n d))) else none
  |_,_=>none
 |f,args=>be f args
theorem jB:qS prog (ag bj):=bM fun f X v h mem=>by
 unfold bj at h;split at h
 ·split at h
  ·rename_i m n V U
   split at h
   ·rename_i Z
    cases h;rw[cL V,ib U];exact GM m n Z.1 Z.2.1 Z.2.2 mem
   ·cases h
  ·cases h
 ·have:=yw.fn _ _ mem ⟨v,none,[]⟩ (by unfold ag;simp only;rw[h])
  simpa [aee.mem] using this
def pU(a b:Rat):Int:=JZ (a.num*b.den) (b.num*a.den)
variable{a b:Rat}
theorem VH:pU a b<0↔a<b:=by
 rw[Rat.lt_iff];unfold pU JZ;split
 ·simp[*]
 ·split<;>simp[*]
theorem Bl:pU a b≤0↔a≤b:=by
 rw[Rat.le_iff];unfold pU JZ;split
 ·constructor<;>intro h<;>omega
 ·split<;>constructor<;>intro h<;>omega
theorem F9(a b:Rat):(aj a==aj b)=decide (a=b):=by rw[Bool.eq_iff_iff,beq_iff_eq,decide_eq_true_eq];exact⟨gJ,fun h=>by rw[h]⟩
def qk(q:Rat):Prop:=(au q.num.natAbs).length≤9∧(q.den=1∨(au q.den).length≤9)
theorem Qf(h:qk q):q.num.natAbs<10 ^ 9∧q.den<10 ^ 9:=by
 have Z:=cm q.num.natAbs;have X:=cm q.den;have h3:10 ^ (au q.num.natAbs).length≤10 ^ 9:=Nat.pow_le_pow_right (by omega) h.1;refine⟨by omega,?_⟩;rcases h.2 with h4 | h4
 ·omega
 ·have V:10 ^ (au q.den).length≤10 ^ 9:=Nat.pow_le_pow_right (by omega) h4
  omega
section
variable (ha:dc a)(hb:dc b)
include ha hb
theorem NT:(au (a.num*(b.den:Int)).natAbs).length≤80000:=by rw[Int.natAbs_mul,Int.natAbs_natCast];exact iQ ha.1 hb.2
theorem J7:(au (a.den*b.den)).length≤80000:=iQ ha.2 hb.2
theorem RH:(au (a.num*b.num).natAbs).length≤80000:=by rw[Int.natAbs_mul];exact iQ ha.1 hb.1
end
theorem kx{α:Type}(h:¬qk q)(x y:α):(if (au q.num.natAbs).length≤9∧(q.den=1∨(au q.den).length≤9) then x else y)=y:=if_neg h
theorem dL{α:Type}(h:qk q)(x y:α):(if (au q.num.natAbs).length≤9∧(q.den=1∨(au q.den).length≤9) then x else y)=x:=if_pos h
theorem sQ(a b:Rat)(H:dc a)(I:dc b)(mem:Mem):
  kO prog 136 [.str (aj a),.str (aj b)] mem (.int .i64 (pU a b)) mem:=by
 have V:aT prog 136=some f136:=by kernel_rfl
 refine ak jB ?_ mem;have R:=jt H;have O:=jt I;by_cases G:a=b
 ·subst G
  have:pU a a=0:=by unfold pU JZ;simp
  simp[aa,V,f136,this]
 ·have U:=F9 a b
  rw[decide_eq_false G] at U;obtain⟨X,N⟩:=xE (a.num*(b.den:Int));obtain⟨Y,M⟩:=xE (b.num*(a.den:Int));have F:pU a b=JZ X Y:=by unfold pU;rw[←N,←M]
  by_cases D:qk a∧qk b
  ·obtain⟨Z,S⟩:=D
   obtain⟨o,m⟩:=Qf Z;obtain⟨j,W⟩:=Qf S;have J:X.natAbs<10 ^ 9*10 ^ 9:=by rw[N];exact ft o (by simpa using W)
   have y1:Y.natAbs<10 ^ 9*10 ^ 9:=by rw[M];exact ft j (by simpa using m)
   have w1:IntKind.i64.wrap (a.num*(b.den:Int))=X:=by rw[←N];exact af
   have w2:IntKind.i64.wrap (b.num*(a.den:Int))=Y:=by rw[←M];exact af
   rw[F];unfold JZ;by_cases K:X<Y
   ·simp[aa,V,f136,U,ag,bj,be,ar,R,O,dL Z,dL S,w1,w2,K]
   ·by_cases L:Y<X
    ·simp[aa,V,f136,U,ag,bj,be,ar,R,O,dL Z,dL S,w1,w2,K,L]
    ·simp[aa,V,f136,U,ag,bj,be,ar,R,O,dL Z,dL S,w1,w2,K,L]
  ·rw[F]
   have C:(au a.num.natAbs).length≤100000:=by have:=H.1;omega
   have B:(au a.den).length≤100000:=by have:=H.2;omega
   have A:(au b.num.natAbs).length≤100000:=by have:=I.1;omega
   have u:(au b.den).length≤100000:=by have:=I.2;omega
   by_cases Z:qk a
   ·have S:¬qk b:=fun h=>D ⟨Z,h⟩
    simp[aa,V,f136,U,ag,bj,be,bW,aN,ar,aU,dX,R,O,dL Z,kx S,C,B,A,u,←N,←M]
   ·simp[aa,V,f136,U,ag,bj,be,bW,aN,ar,aU,dX,R,O,kx Z,C,B,A,u,←N,←M]
theorem me(q:Rat):(aj q==[49])=decide (q=1):=by
 have:=F9 q 1
 rwa [show aj 1=[49] from rfl] at this
theorem OC(a b:Rat)(H:dc a)(I:dc b)(mem:Mem):
  kO prog 126 [.str (aj a),.str (aj b)] mem (.str (aj (a+b))) mem:=by
 have N:aT prog 126=some f126:=by kernel_rfl
 refine ak jB ?_ mem;have G:=jt H;have F:=jt I;by_cases Z:a=0
 ·subst Z
  have:aj 0=[48]:=rfl;simp[aa,N,f126,this,Rat.zero_add]
 by_cases L:b=0
 ·subst L
  have:aj 0=[48]:=rfl;simp[aa,N,f126,this,bq,Z,Rat.add_zero]
 have pa:=a.den_pos;have pb:=b.den_pos;have V:a.den*b.den≠0:=Nat.mul_ne_zero a.den_nz b.den_nz;have C:=Rat.add_def' a b;obtain⟨X,U⟩:=xE (a.num*(b.den:Int));obtain⟨Y,S⟩:=xE (b.num*(a.den:Int));obtain⟨D,R⟩:=xE (a.den*b.den);rw[←U,←S,←R] at C;rw[←R] at V;rw[C];by_cases B:qk a∧qk b
 ·obtain⟨O,K⟩:=B
  obtain⟨a1,A⟩:=Qf O;obtain⟨b1,u⟩:=Qf K;have o:X.natAbs<10 ^ 9*10 ^ 9:=by rw[U];exact ft a1 (by simpa using u)
  have m:Y.natAbs<10 ^ 9*10 ^ 9:=by rw[S];exact ft b1 (by simpa using A)
  have d1:D<10 ^ 9*10 ^ 9:=by rw[R];exact Nat.mul_lt_mul'' A u
  have w1:IntKind.i64.wrap (a.num*(b.den:Int))=X:=by rw[←U];exact af
  have w2:IntKind.i64.wrap (b.num*(a.den:Int))=Y:=by rw[←S];exact af
  have w3:IntKind.i64.wrap (X+Y)=X+Y:=af;have w4:IntKind.i64.wrap ((a.den:Int)*(b.den:Int))=(D:Int):=by rw[←Int.natCast_mul,←R];exact af
  have c1:(X+Y).natAbs≤4611686018427387904:=by omega
  have c2:D≤4611686018427387904:=by omega
  simp[aa,N,f126,bq,Z,L,ag,bj,be,ar,G,F,dL O,dL K,w1,w2,w3,w4,V,c1,c2]
 ·have j:(au a.num.natAbs).length≤100000:=by have:=H.1;omega
  have W:(au a.den).length≤100000:=by have:=H.2;omega
  have J:(au b.num.natAbs).length≤100000:=by have:=I.1;omega
  have s4:(au b.den).length≤100000:=by have:=I.2;omega
  have o:(au X.natAbs).length≤80000:=by rw[U];exact NT H I
  have m:(au Y.natAbs).length≤80000:=by rw[S];exact NT I H
  have s5:(au X.natAbs).length≤100000:=by omega
  have s6:(au Y.natAbs).length≤100000:=by omega
  have s7:(au (X+Y).natAbs).length≤100000:=by have h1:=rA o m;have h2:=cV (Int.natAbs_add_le X Y);omega
  have s8:(au D).length≤100000:=by
   have:(au D).length≤80000:=by rw[R];exact J7 H I
   omega
  have M:bL ((a.den:Int)*(b.den:Int))=au D:=by rw[←Int.natCast_mul,←R];rfl
  by_cases O:qk a
  ·have K:¬qk b:=fun h=>B ⟨O,h⟩
   simp[aa,N,f126,bq,Z,L,ag,bj,be,bW,ar,aU,dX,dH,G,F,dL O,kx K,j,W,J,s4,←U,←S,s5,s6,s7,s8,M,V]
  ·simp[aa,N,f126,bq,Z,L,ag,bj,be,bW,ar,aU,dX,dH,G,F,kx O,j,W,J,s4,←U,←S,s5,s6,s7,s8,M,V]
theorem OQ(a b:Rat)(H:dc a)(I:dc b)(mem:Mem):
  kO prog 82 [.str (aj a),.str (aj b)] mem (.str (aj (a*b))) mem:=by
 have R:aT prog 82=some f82:=by kernel_rfl
 refine ak jB ?_ mem;have F:=jt H;have C:=jt I;have B:aj 0=[48]:=rfl;have A:aj 1=[49]:=rfl;by_cases Z:a=0
 ·subst Z
  simp[aa,R,f82,B,Rat.zero_mul]
 by_cases L:b=0
 ·subst L
  simp[aa,R,f82,B,bq,Z,Rat.mul_zero]
 by_cases V:a=1
 ·subst V
  simp[aa,R,f82,A,bq,L,Rat.one_mul]
 by_cases U:b=1
 ·subst U
  simp[aa,R,f82,A,bq,me,Z,V,Rat.mul_one]
 have pa:=a.den_pos;have pb:=b.den_pos;have S:a.den*b.den≠0:=Nat.mul_ne_zero a.den_nz b.den_nz;have u:=Rat.mul_def' a b;obtain⟨X,O⟩:=xE (a.num*b.num);obtain⟨D,N⟩:=xE (a.den*b.den);rw[←O,←N] at u;rw[←N] at S;rw[u];by_cases o:qk a∧qk b
 ·obtain⟨M,G⟩:=o
  obtain⟨a1,a2⟩:=Qf M;obtain⟨b1,b2⟩:=Qf G;have x1:X.natAbs<10 ^ 9*10 ^ 9:=by rw[O];exact ft a1 b1
  have d1:D<10 ^ 9*10 ^ 9:=by rw[N];exact Nat.mul_lt_mul'' a2 b2
  have w1:IntKind.i64.wrap (a.num*b.num)=X:=by rw[←O];exact af
  have w4:IntKind.i64.wrap ((a.den:Int)*(b.den:Int))=(D:Int):=by rw[←Int.natCast_mul,←N];exact af
  have c1:X.natAbs≤4611686018427387904:=by omega
  have c2:D≤4611686018427387904:=by omega
  simp[aa,R,f82,bq,me,Z,L,V,U,ag,bj,be,ar,F,C,dL M,dL G,w1,w4,S,c1,c2]
 ·have m:(au a.num.natAbs).length≤100000:=by have:=H.1;omega
  have j:(au a.den).length≤100000:=by have:=H.2;omega
  have Y:(au b.num.natAbs).length≤100000:=by have:=I.1;omega
  have W:(au b.den).length≤100000:=by have:=I.2;omega
  have x1:(au X.natAbs).length≤80000:=by rw[O];exact RH H I
  have J:(au X.natAbs).length≤100000:=by omega
  have s8:(au D).length≤100000:=by
   have:(au D).length≤80000:=by rw[N];exact J7 H I
   omega
  have K:bL ((a.den:Int)*(b.den:Int))=au D:=by rw[←Int.natCast_mul,←N];rfl
  by_cases M:qk a
  ·have G:¬qk b:=fun h=>o ⟨M,h⟩
   simp[aa,R,f82,bq,me,Z,L,V,U,ag,bj,be,bW,ar,aU,dX,dH,F,C,dL M,kx G,m,j,Y,W,←O,J,s8,K,S]
  ·simp[aa,R,f82,bq,me,Z,L,V,U,ag,bj,be,bW,ar,aU,dX,dH,F,C,kx M,m,j,Y,W,←O,J,s8,K,S]
theorem So(t:List UInt8):okT false t=(decide (t.length≤200)&&iI t):=by
 cases t with
 |nil=>rfl
 |cons c r=>
  unfold okT iI;simp only[List.length_cons,Bool.or_false,List.all_cons];rw[Bool.eq_iff_iff];simp;cases r with
  |nil=>simp
  |cons x r=>simp;grind
theorem UK(t:List UInt8):okT true t=(decide (t.length≤200)&&iI t&& !(t.head? ==some 48)):=by
 cases t with
 |nil=>rfl
 |cons c r=>
  unfold okT iI;simp only[List.length_cons,Bool.or_true,Bool.and_true,List.all_cons,List.head?_cons];rw[Bool.eq_iff_iff];simp
  grind
def okI(s:List UInt8):Bool:=match lh s with
 |some n=>decide ((au n.natAbs).length≤200)
 |none=>false
theorem PY(r:List UInt8):lh (45::r)=match yL r with
  |some (u+1)=>some (Int.negSucc u)
  |_=>none:=rfl
variable{t:List UInt8}
theorem PZ(h:∀r,t≠45::r):lh t=(yL t).map Int.ofNat:=by
 unfold lh;split
 next r=>exact absurd rfl (h r)
 ·cases yL t<;>rfl
theorem N9(h:iI t=true):yL t=some (fm t):=by unfold yL;rw[if_pos h]
theorem Sg(h:iI t=false):yL t=none:=by unfold yL;rw[h];rfl
theorem rC(s:List UInt8):okT (Lib.hasPrefix s [45]) (Lib.trimPrefix s [45])=okI s:=by
 unfold Lib.trimPrefix;have Z:∀t:List UInt8,(∀r,t≠45::r)→okT false t=okI t:=by
  intro t U;rw[So];unfold okI;rw[PZ U];cases hc:iI t with
  |true=>
   have:=vZ hc;rw[N9 hc];show _=decide ((au (Int.ofNat (fm t)).natAbs).length≤200)
   rw[show(Int.ofNat (fm t)).natAbs=fm t from rfl,this,Bool.and_true]
  |false=>
   rw[Sg hc,Bool.and_false];rfl
 cases s with
 |nil=>rw[show Lib.hasPrefix [] [45]=false from rfl];exact Z [] (by simp)
 |cons c r=>
  by_cases h:c=45
  ·subst h
   rw[show Lib.hasPrefix (45::r) [45]=true by simp[Lib.hasPrefix,List.isPrefixOf]];simp only[if_true,List.length_singleton,List.drop_succ_cons,List.drop_zero];rw[UK];unfold okI;rw[PY];cases hc:iI r with
   |true=>
    rw[N9 hc,Bool.and_true];have X:=vZ hc;cases hvd:fm r with
    |zero=>
     rw[hvd,rB] at X;rw[←X];rfl
    |succ u=>
     rw[hvd] at X;have V:=BT (u+1) (by omega);rw[X] at V;show _=decide ((au (Int.negSucc u).natAbs).length≤200)
     rw[show(Int.negSucc u).natAbs=u+1 from rfl,X];have:(r.head? ==some 48)=false:=by simpa using V
     rw[this];simp
   |false=>
    rw[Sg hc];simp
  ·have S:Lib.hasPrefix (c::r) [45]=false:=by
    have R :¬(45:UInt8)=c:=fun e=>h e.symm
    simp[Lib.hasPrefix,List.isPrefixOf,R]
   rw[S];exact Z (c::r) (by intro O e;exact h (List.cons.inj e).1)
variable{n:Int}{r:List UInt8}
theorem Uw(h:lh r=some n)(H:0≤n):yL r=some n.toNat:=by rw[cL h,jf H,dH];congr 1;omega
theorem Ku{n:Nat}(h:yL r=some n):lh r=some (n:Int):=by rw[ib h];exact dX n
theorem rb:∀(s:List UInt8) (c:UInt8),Lib.indexByte s c=match s.idxOf? c with
  |some i=>(i:Int)
  |none=> -1
 | [],_=>rfl
 |b::l,c=>by
  unfold Lib.indexByte;rw[List.idxOf?_cons,rb l c];by_cases h:b=c
  ·subst h;simp
  ·have Z :(b==c)=false:=by simpa using h
   rw[Z];simp only[Bool.false_eq_true,if_false];cases l.idxOf? c with
   |none=>simp
   |some i=>
    have X:¬(((i:Int)== -1)=true):=by rw[beq_iff_eq];omega
    simp only[Option.map_some];rw[if_neg X,Int.natCast_add];rfl
def zV(s:List UInt8):Int:=match ek s with
 |some q=>if (au q.num.natAbs).length≤200∧(au q.den).length≤200 then 0 else 2
 |none=>2
noncomputable def aH(f:FuncId)(args:List AV):Option AV:=
 match f,args with
 |136,[.str s,.str t]=>match ek s,ek t with
  |some a,some b=>if (au a.num.natAbs).length≤40000∧(au a.den).length≤40000∧(au b.num.natAbs).length≤40000∧(au b.den).length≤40000 then some (.int .i64 (pU a b)) else none
  |_,_=>none
 |126,[.str s,.str t]=>match ek s,ek t with
  |some a,some b=>if (au a.num.natAbs).length≤40000∧(au a.den).length≤40000∧(au b.num.natAbs).length≤40000∧(au b.den).length≤40000 then some (.str (aj (a+b))) else none
  |_,_=>none
 |82,[.str s,.str t]=>match ek s,ek t with
  |some a,some b=>if (au a.num.natAbs).length≤40000∧(au a.den).length≤40000∧(au b.num.natAbs).length≤40000∧(au b.den).length≤40000 then some (.str (aj (a*b))) else none
  |_,_=>none
 |f,args=>bj f args
theorem jC:qS prog (ag aH):=bM fun f U v h mem=>by
 unfold aH at h;split at h
 ·split at h
  ·rename_i m n X V
   split at h
   ·rename_i Z
    cases h;rw[aA X,aA V];exact sQ m n ⟨Z.1,Z.2.1⟩ ⟨Z.2.2.1,Z.2.2.2⟩ mem
   ·cases h
  ·cases h
 ·split at h
  ·rename_i m n X V
   split at h
   ·rename_i Z
    cases h;rw[aA X,aA V];exact OC m n ⟨Z.1,Z.2.1⟩ ⟨Z.2.2.1,Z.2.2.2⟩ mem
   ·cases h
  ·cases h
 ·split at h
  ·rename_i m n X V
   split at h
   ·rename_i Z
    cases h;rw[aA X,aA V];exact OQ m n ⟨Z.1,Z.2.1⟩ ⟨Z.2.2.1,Z.2.2.2⟩ mem
   ·cases h
  ·cases h
 ·have:=jB.fn _ _ mem ⟨v,none,[]⟩ (by unfold ag;simp only;rw[h])
  simpa [aee.mem] using this
theorem OZ(a b:Rat)(I:dc a)(H:dc b)(mem:Mem):
  kO prog 128 [.str (aj a),.str (aj b)] mem (.str (aj (a-b))) mem:=by
 have Z:aT prog 128=some f128:=by kernel_rfl
 refine ak jC ?_ mem;have X:=jt H;obtain⟨V,U⟩:=I;obtain⟨S,R⟩:=H;have e:a+ -b=a-b:=(Rat.sub_eq_add_neg a b).symm;simp[aa,Z,f128,ag,aH,bj,be,ar,X,V,U,S,R,e]
theorem Bv(h:0<b.num):b⁻¹.num=(b.den:Int)∧b⁻¹.den=b.num.natAbs:=by rw[Rat.num_inv,Rat.den_inv,Int.sign_eq_one_of_pos h,if_neg (by omega)];exact⟨Int.one_mul _,rfl⟩
theorem Bu(h:b.num<0):b⁻¹.num= -(b.den:Int)∧b⁻¹.den=b.num.natAbs:=by rw[Rat.num_inv,Rat.den_inv,Int.sign_eq_neg_one_of_neg h,if_neg (by omega)];exact⟨by omega,rfl⟩
theorem OG(a b:Rat)(H:b≠0)(ha:dc a)(I:dc b)(mem:Mem):
  kO prog 127 [.str (aj a),.str (aj b)] mem (.tuple [.str (aj (a / b)),.int .i64 0]) mem:=by
 have D:aT prog 127=some f127:=by kernel_rfl
 refine ak jC ?_ mem;have C:=jt I;obtain⟨B,A⟩:=ha;obtain⟨u,j⟩:=I;have Y:b.num≠0:=fun e=>H (sD.1 e)
 have U:(aj b==[48])=false:=by rw[bq];simpa using H
 have e:a*b⁻¹=a / b:=(Rat.div_def a b).symm;obtain⟨m,Z⟩:=xE b.num.natAbs;rw[←Z] at u;have W:(au m).length≤1000000000:=by omega
 have M:(au b.den).length≤1000000000:=by omega
 have J:(au b⁻¹.num.natAbs).length≤40000∧(au b⁻¹.den).length≤40000:=by
  rcases Int.lt_or_gt_of_ne Y with h | h
  ·obtain⟨S,X⟩:=Bu h
   rw[S,X,Int.natAbs_neg,Int.natAbs_natCast,←Z];exact⟨j,u⟩
  ·obtain⟨S,X⟩:=Bv h
   rw[S,X,Int.natAbs_natCast,←Z];exact⟨j,u⟩
 have L:=fun h=>Bu (b:=b) h
 have K:=fun h=>Bv (b:=b) h
 obtain⟨w,hw⟩:=xE (b⁻¹);rw[←hw] at J e L K;obtain⟨f1,f2⟩:=J;rcases Int.lt_or_gt_of_ne Y with h | h
 ·obtain⟨S,X⟩:=L h
  have G:(aj b)[0]? =some 45:=by rw[kU h];rfl
  have F:bL (-b.num)=au m:=by rw[jf (by omega),Int.natAbs_neg,Z]
  have ln:(bL b.num).length≤1000000000:=by have:=cj b.num;rw[←Z] at this;omega
  have N:(bL (-(b.den:Int))).length≤1000000000:=by have:=cj (-(b.den:Int));rw[Int.natAbs_neg,Int.natAbs_natCast] at this;omega
  by_cases R:m=1
  ·have V:bL (-(b.den:Int))=aj w:=by unfold aj;rw[if_pos (by rw[X,←Z,R]),S]
   have O:=congrArg lh V;rw[aU] at O;have O:=O.symm;have o:(au 1).length≤1000000000:=by decide
   have lj:(aj w).length≤1000000000:=by rw[←V];first | exact N | exact M
   simp[aa,D,f127,U,ag,aH,bj,be,bW,aN,ar,aU,dH,dX,C,G,F,ln,M,R,V,O,o,lj,B,A,f1,f2,e]
  ·have V:bL (-(b.den:Int))++47::au m=aj w:=by unfold aj;rw[if_neg (by rw[X,←Z];exact R),S,X,←Z]
   simp[aa,D,f127,U,ag,aH,bj,be,bW,aN,ar,aU,dH,dX,C,G,F,ln,N,W,M,R,V,B,A,f1,f2,e]
 ·obtain⟨S,X⟩:=K h
  obtain⟨c,r,hc,hd⟩:=nh (q:=b) (by omega);have G:(aj b)[0]? =some c:=by rw[hc];rfl
  have YL:=eR hd;have F:bL b.num=au m:=by rw[jf (by omega),Z]
  by_cases R:m=1
  ·have V:bL (b.den:Int)=aj w:=by unfold aj;rw[if_pos (by rw[X,←Z,R]),S]
   have O:=congrArg lh V;rw[aU] at O;have O:=O.symm;have o:(au 1).length≤1000000000:=by decide
   have lj:(aj w).length≤1000000000:=by rw[←V];first | exact N | exact M
   simp[aa,D,f127,U,ag,aH,bj,be,ar,dH,dX,C,G,YL,F,M,R,V,o,B,A,f1,f2,e]
  ·have V:bL (b.den:Int)++47::au m=aj w:=by unfold aj;rw[if_neg (by rw[X,←Z];exact R),S,X,←Z]
   simp[aa,D,f127,U,ag,aH,bj,be,ar,dH,dX,C,G,YL,F,W,M,R,V,B,A,f1,f2,e]
variable{s:List UInt8}
theorem Rs(h:s.idxOf? 47=none):zV s=if okI s then 0 else 2:=by
 unfold zV ek okI;rw[h];cases hn:lh s with
 |none=>simp
 |some n=>
  have:(au 1).length≤200:=by decide
  simp[this]
variable{i:Nat}
theorem Rp(h:s.idxOf? 47=some i)(h1:okI (s.take i)=false):zV s=2:=by
 unfold zV ek;rw[h];unfold okI at h1;cases hn:lh (s.take i) with
 |none=>simp[hn]
 |some n=>
  rw[hn] at h1;simp only[decide_eq_false_iff_not] at h1;simp only[hn];cases hd:yL (s.drop (i+1)) with
  |none=>simp[]
  |some d=>
   simp only[Qg];by_cases Z:1<d∧n.natAbs.gcd d=1
   ·rw[dif_pos Z]
    simp only;rw[if_neg (by intro h;exact h1 h.1)]
   ·rw[dif_neg Z]
theorem Rq(h:s.idxOf? 47=some i)(h1:okI (s.drop (i+1))=false):zV s=2:=by
 unfold zV ek;rw[h];unfold okI at h1;cases hn:lh (s.take i) with
 |none=>simp[hn]
 |some n=>
  simp only[hn];cases hd:yL (s.drop (i+1)) with
  |none=>simp[]
  |some d=>
   rw[Ku hd] at h1;simp only[decide_eq_false_iff_not,Int.natAbs_natCast] at h1;simp only[Qg];by_cases Z:1<d∧n.natAbs.gcd d=1
   ·rw[dif_pos Z]
    simp only;rw[if_neg (by intro h;exact h1 h.2)]
   ·rw[dif_neg Z]
theorem PJ{d:Int}(h:s.idxOf? 47=some i)(H:lh (s.take i)=some n)(hd:lh (s.drop (i+1))=some d)(I:(au n.natAbs).length≤200)(hd2:(au d.natAbs).length≤200):
  zV s=if 1<d∧n.natAbs.gcd d.natAbs=1 then 0 else 2:=by
 unfold zV ek;rw[h];simp only[H];by_cases X:0≤d
 ·rw[Uw hd X]
  simp only[Qg];have e:d.toNat=d.natAbs:=by omega
  rw[e];by_cases Z:1<d∧n.natAbs.gcd d.natAbs=1
  ·rw[if_pos Z,dif_pos ⟨by omega,Z.2⟩]
   simp only;rw[if_pos ⟨I,hd2⟩]
  ·rw[if_neg Z,dif_neg (fun e=>Z ⟨by omega,e.2⟩)]
 ·have:yL (s.drop (i+1))=none:=by
   cases hx:yL (s.drop (i+1)) with
   |none=>rfl
   |some u=>
    rw[Ku hx] at hd;cases hd;omega
  rw[this];rw[if_neg (fun e=>by omega)]
theorem pY(s:List UInt8)(H:s.length≤1000000000)(mem:Mem):
  kO prog 86 [.str s] mem (.int .i64 (zV s)) mem:=by
 have S:aT prog 86=some f86:=by kernel_rfl
 refine ak jC ?_ mem;have Z:=rb s 47;cases hx:s.idxOf? 47 with
 |none=>
  rw[hx] at Z;simp only at Z;rw[Rs hx];cases ho:okI s with
  |true=>simp[aa,S,f86,ag,aH,bj,be,bW,aN,aP,an,H,Z,rC,ho]
  |false=>simp[aa,S,f86,ag,aH,bj,be,bW,aN,aP,an,H,Z,rC,ho]
 |some i=>
  rw[hx] at Z;simp only at Z;have N:(0:Int)≤i:=by omega
  obtain⟨a,V⟩:=xE (s.take i);obtain⟨b,U⟩:=xE (s.drop (i+1));have M:a.length≤1000000000:=by rw[V,List.length_take];omega
  have G:b.length≤1000000000:=by rw[U,List.length_drop];omega
  cases ho:okI a with
  |false=>
   rw[Rp hx (by rw[←V];exact ho)];simp[aa,S,f86,ag,aH,bj,be,bW,aN,aP,an,H,Z,N,←V,←U,M,rC,ho]
  |true=>
   cases ho2:okI b with
   |false=>
    rw[Rq hx (by rw[←U];exact ho2)];simp[aa,S,f86,ag,aH,bj,be,bW,aN,aP,an,H,Z,N,←V,←U,M,G,rC,ho,ho2]
   |true=>
    have L:∃n,lh a=some n∧(au n.natAbs).length≤200:=by
     unfold okI at ho;cases hx:lh a with
     |none=>rw[hx] at ho;cases ho
     |some n=>rw[hx] at ho;exact⟨n,rfl,by simpa using ho⟩
    have R:∃n,lh b=some n∧(au n.natAbs).length≤200:=by
     unfold okI at ho2;cases hx:lh b with
     |none=>rw[hx] at ho2;cases ho2
     |some n=>rw[hx] at ho2;exact⟨n,rfl,by simpa using ho2⟩
    obtain⟨n,L,u⟩:=L;obtain⟨d,R,d2⟩:=R;rw[PJ hx (by rw[←V];exact L) (by rw[←U];exact R) u d2];have D:lh [49]=some 1:=rfl;have F:JZ d 1≤0↔¬1<d:=by
     unfold JZ;split
     ·constructor<;>intro h<;>omega
     ·split<;>constructor<;>intro h<;>omega
    have O:(a==[48])=decide (n=0):=by rw[cL L,j8]
    have A:(au n.natAbs).length≤100000:=by omega
    have d3:(au d.natAbs).length≤100000:=by omega
    by_cases C:1<d
    ·have X :¬JZ d 1≤0:=fun e=>F.1 e C
     by_cases B:n=0
     ·have K:¬n.natAbs.gcd d.natAbs=1:=by subst B;simp;omega
      rw[if_neg (fun e=>K e.2)];simp[aa,S,f86,ag,aH,bj,be,bW,aN,aP,an,H,Z,N,←V,←U,M,G,rC,ho,ho2,R,D,X,O,B]
     ·by_cases K:n.natAbs.gcd d.natAbs=1
      ·rw[if_pos ⟨C,K⟩]
       simp[aa,S,f86,ag,aH,bj,be,bW,aN,aP,an,H,Z,N,←V,←U,M,G,rC,ho,ho2,L,R,D,X,O,B,A,d3,lU,K]
      ·rw[if_neg (fun e=>K e.2)]
       simp[aa,S,f86,ag,aH,bj,be,bW,aN,aP,an,H,Z,N,←V,←U,M,G,rC,ho,ho2,L,R,D,X,O,B,A,d3,lU,K]
    ·have X :JZ d 1≤0:=F.2 C
     rw[if_neg (fun e=>C e.1)];simp[aa,S,f86,ag,aH,bj,be,bW,aN,aP,an,H,Z,N,←V,←U,M,G,rC,ho,ho2,R,D,X]
noncomputable def aE(f:FuncId)(args:List AV):Option AV:=
 match f,args with
 |86,[.str s]=>if s.length≤1000000000 then some (.int .i64 (zV s)) else none
 |128,[.str s,.str t]=>match ek s,ek t with
  |some a,some b=>if (au a.num.natAbs).length≤40000∧(au a.den).length≤40000∧(au b.num.natAbs).length≤40000∧(au b.den).length≤40000 then some (.str (aj (a-b))) else none
  |_,_=>none
 |127,[.str s,.str t]=>match ek s,ek t with
  |some a,some b=>if b≠0∧(au a.num.natAbs).length≤40000∧(au a.den).length≤40000∧(au b.num.natAbs).length≤40000∧(au b.den).length≤40000 then some (.tuple [.str (aj (a / b)),.int .i64 0]) else none
  |_,_=>none
 |f,args=>aH f args
theorem bK:qS prog (ag aE):=bM fun f U v h mem=>by
 unfold aE at h;split at h
 ·split at h
  next Z=>cases h;exact pY _ Z mem
  ·cases h
 ·split at h
  ·rename_i m n X V
   split at h
   next Z=>cases h;rw[aA X,aA V];exact OZ m n ⟨Z.1,Z.2.1⟩ ⟨Z.2.2.1,Z.2.2.2⟩ mem
   ·cases h
  ·cases h
 ·split at h
  ·rename_i m n X V
   split at h
   next Z=>cases h;rw[aA X,aA V];exact OG m n Z.1 ⟨Z.2.1,Z.2.2.1⟩ ⟨Z.2.2.2.1,Z.2.2.2.2⟩ mem
   ·cases h
  ·cases h
 ·have:=jC.fn _ _ mem ⟨v,none,[]⟩ (by unfold ag;simp only;rw[h])
  simpa [aee.mem] using this
theorem Ui(h:zV s=0):∃q,ek s=some q∧s=aj q∧(au q.num.natAbs).length≤200∧(au q.den).length≤200:=by
 unfold zV at h;cases hq:ek s with
 |none=>rw[hq] at h;cases h
 |some q=>
  rw[hq] at h;simp only at h;split at h
  next Z=>exact⟨q,rfl,aA hq,Z.1,Z.2⟩
  ·cases h
end Go.Proofs
