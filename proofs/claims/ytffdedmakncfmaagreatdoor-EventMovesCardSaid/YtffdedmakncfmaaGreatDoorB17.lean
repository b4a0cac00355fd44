/- See B54. -/
import Derived.Test.YtffdedmakncfmaaGreatDoorB16
set_option linter.all false
set_option maxRecDepth 100000
set_option maxHeartbeats 40000000
namespace Go.Proofs
open Go.Eng
open Tryz
noncomputable def cq(f:FuncId)(args:List AV):Option AV:=
 match f,args with
 |134,[.str s,.str t]=>match jj s,jj t with
  |some m,some n=>if (ai m.natAbs).length≤100000∧(ai n.natAbs).length≤100000 then some (.str (bB (m+n))) else none
  |_,_=>none
 |93,[.str s,.str t]=>match jj s,jj t with
  |some m,some n=>if (ai m.natAbs).length≤100000∧(ai n.natAbs).length≤100000 then some (.str (bB (m*n))) else none
  |_,_=>none
 |138,[.str s,.str t]=>match jj s,wY t with
  |some m,some n=>if (ai m.natAbs).length≤100000∧(ai n).length≤100000∧0<n∧(0≤m∨m.natAbs%n=0) then some (.tuple [.str (bB (m / n)),.str (ai (m.natAbs%n)),.int .i64 0]) else none
  |_,_=>none
 |109,[.str s,.str t]=>match jj s,jj t with
  |some m,some n=>if (ai m.natAbs).length≤100000∧(ai n.natAbs).length≤100000 then some (.str (ai (m.natAbs.gcd n.natAbs))) else none
  |_,_=>none
 |107,[.str s]=>if s.length≤1000000000 then some (.int .i64 (if okT (Lib.hasPrefix s [45]) (Lib.trimPrefix s [45]) then 0 else 2)) else none
 |f,args=>aO f args
theorem JZ:qS prog (af cq):=bH fun f U v h mem=>by
 unfold cq at h;split at h
 ·split at h
  ·rename_i m n X V
   split at h
   ·rename_i Z
    cases h;rw[bN X,bN V];exact Po m n Z.1 Z.2 mem
   ·cases h
  ·cases h
 ·split at h
  ·rename_i m n X V
   split at h
   ·rename_i Z
    cases h;rw[bN X,bN V];exact PE m n Z.1 Z.2 mem
   ·cases h
  ·cases h
 ·split at h
  ·rename_i m n X V
   split at h
   ·rename_i Z
    cases h;obtain⟨S,R,Q,O⟩:=Z;rw[bN X,fS V];exact Fe m n Q O S R mem
   ·cases h
  ·cases h
 ·split at h
  ·rename_i m n X V
   split at h
   ·rename_i Z
    cases h;rw[bN X,bN V];exact PB m n Z.1 Z.2 mem
   ·cases h
  ·cases h
 ·split at h
  ·rename_i N
   cases h;exact Hf _ N mem
  ·cases h
 ·have:=yF.fn _ _ mem ⟨v,none,[]⟩ (by unfold af;simp only;rw[h])
  simpa [y9.mem] using this
noncomputable def bD(f:FuncId)(args:List AV):Option AV:=
 match f,args with
 |89,[.str s]=>match ef s with
  |some q=>if s.length≤1000000000 then some (if (ai q.num.natAbs).length≤9∧(q.den=1∨(ai q.den).length≤9) then .tuple [.int .i64 q.num,.int .i64 q.den,.bool true] else .tuple [.int .i64 0,.int .i64 0,.bool false]) else none
  |none=>none
 |90,[.int .i64 n,.int .i64 d]=>if d.toNat≠0∧n.natAbs≤4611686018427387904∧0≤d∧d.toNat≤4611686018427387904 then some (.str (aB (mkRat n d.toNat))) else none
 |91,[.str s]=>match ef s with
  |some q=>if s.length≤1000000000 then some (.tuple [.str (bB q.num),.str (ai q.den)]) else none
  |none=>none
 |136,[.str s,.str t]=>match jj s,wY t with
  |some n,some d=>if s.length≤1000000000∧t.length≤1000000000 then some (.str (if d=1 then bB n else bB n++47::ai d)) else none
  |_,_=>none
 |46,[.str s]=>match ef s with
  |some q=>if s.length≤1000000000 then some (.str (aB (-q))) else none
  |none=>none
 |228,[.str s]=>match ef s with
  |some q=>some (.int .i64 (nQ q))
  |none=>none
 |f,args=>cq f args
theorem yG:qS prog (af bD):=bH fun f U v h mem=>by
 unfold bD at h;split at h
 ·split at h
  ·rename_i q X
   split at h
   ·rename_i Z
    cases h;rw[aC X] at Z ⊢;exact HH q Z mem
   ·cases h
  ·cases h
 ·split at h
  ·rename_i V
   obtain⟨S,R,Q,O⟩:=V;cases h;have:=HO _ _ R S O mem;rw[Int.toNat_of_nonneg Q] at this;rw[Rat.mkRat_def,dif_neg S];exact this
  ·cases h
 ·split at h
  ·rename_i q X
   split at h
   ·rename_i Z
    cases h;rw[aC X] at Z ⊢;exact Mw q Z mem
   ·cases h
  ·cases h
 ·split at h
  ·rename_i m n N M
   split at h
   ·rename_i V
    cases h;rw[bN N,fS M] at V ⊢;exact PD m n V.1 V.2 mem
   ·cases h
  ·cases h
 ·split at h
  ·rename_i q X
   split at h
   ·rename_i Z
    cases h;rw[aC X] at Z ⊢;exact PG q Z mem
   ·cases h
  ·cases h
 ·split at h
  ·rename_i q X
   cases h;rw[aC X];exact A5 q mem
  ·cases h
 ·have:=JZ.fn _ _ mem ⟨v,none,[]⟩ (by unfold af;simp only;rw[h])
  simpa [y9.mem] using this
theorem cm(u:Nat):jj (ai u)=some (u:Int):=aA (u:Int)
def iK(q:Rat):Prop:=(ai q.num.natAbs).length≤40000∧(ai q.den).length≤40000
variable{q:Rat}
theorem fJ(h:iK q):(aB q).length≤1000000000:=by
 have:=cQ q.num;have Z:=h.1;have X:=h.2;unfold aB;split
 ·omega
 ·simp only[List.length_append,List.length_cons];omega
theorem dE{k:Nat}(hk:0<k)(y:k≤40000)(h:big k q):iK q:=by have Z:=aG hk h.1;have X:=aG hk h.2;exact⟨by omega,by omega⟩
variable{d:Nat}
theorem sP(n:Int)(hd:d≠0):aB (mkRat n d)=if d / n.natAbs.gcd d=1 then bB (n / (n.natAbs.gcd d:Nat)) else bB (n / (n.natAbs.gcd d:Nat))++47::ai (d / n.natAbs.gcd d):=by unfold aB;rw[Rat.num_mkRat,Rat.den_mkRat,if_neg hd,if_neg hd,Nat.gcd_comm d]
theorem fF(n:Nat):(ai n==[49])=decide (n=1):=by
 rw[Bool.eq_iff_iff,beq_iff_eq,decide_eq_true_eq];constructor
 ·intro e;exact AI (e.trans (show [49]=ai 1 from rfl))
 ·rintro rfl;rfl
theorem G2(h:d≠0):kg (d:Int)=1:=by unfold kg;rw[if_neg (by omega),if_neg (by omega)]
theorem Hw(n:Int)(d:Nat)(hd:d≠0)(y:(ai n.natAbs).length≤100000)(H:(ai d).length≤100000)(mem:Mem):
  kO prog 92 [.str (bB n),.str (ai d)] mem (.str (aB (mkRat n d))) mem:=by
 have M:aT prog 92=some f92:=by kernel_rfl
 refine ao yG ?_ mem;rw[sP n hd];have L:=G2 hd;have Z:0<n.natAbs.gcd d:=Nat.gcd_pos_of_pos_right _ (by omega);have X:n.natAbs.gcd d∣n.natAbs:=Nat.gcd_dvd_left _ _;have K:n.natAbs.gcd d∣d:=Nat.gcd_dvd_right _ _;have G:n.natAbs.gcd d≤d:=Nat.le_of_dvd (by omega) K;obtain⟨g,U⟩:=xE (n.natAbs.gcd d);rw[←U] at Z X K G ⊢;have m:=cQ n;have F:(bB n).length≤1000000000:=by omega
 have S:(ai d).length≤1000000000:=by omega
 by_cases V:g=1
 ·have D:n / (g:Int)=n:=by rw[V];exact Int.ediv_one n
  have C:d / g=d:=by rw[V];exact Nat.div_one d
  rw[D,C];simp[aa,M,f92,af,bD,cq,aO,aQ,cm,bk,aA,L,y,H,←U,fF,V,F,S]
 ·have R:(ai g).length≤100000:=by have:=bw G;omega
  have B:n.natAbs%g=0:=Nat.mod_eq_zero_of_dvd X;have Q:bB ((d:Int) / (g:Int))=ai (d / g):=by rw[←Int.natCast_ediv];rfl
  have u:(ai (n / (g:Int)).natAbs).length≤100000:=by have:=bw (Int.natAbs_ediv_le_natAbs n g);omega
  have o:=cQ (n / (g:Int));have O:(bB (n / (g:Int))).length≤1000000000:=by omega
  have N:(ai (d / g)).length≤1000000000:=by have:=bw (Nat.div_le_self d g);omega
  simp[aa,M,f92,af,bD,cq,aO,aQ,cm,bk,aA,L,y,H,←U,fF,V,R,Z,B,Q,O,N]
noncomputable def bJ(f:FuncId)(args:List AV):Option AV:=
 match f,args with
 |92,[.str s,.str t]=>match jj s,wY t with
  |some n,some d=>if d≠0∧(ai n.natAbs).length≤100000∧(ai d).length≤100000 then some (.str (aB (mkRat n d))) else none
  |_,_=>none
 |f,args=>bD f args
theorem jP:qS prog (af bJ):=bH fun f X v h mem=>by
 unfold bJ at h;split at h
 ·split at h
  ·rename_i m n V U
   split at h
   ·rename_i Z
    cases h;rw[bN V,fS U];exact Hw m n Z.1 Z.2.1 Z.2.2 mem
   ·cases h
  ·cases h
 ·have:=yG.fn _ _ mem ⟨v,none,[]⟩ (by unfold af;simp only;rw[h])
  simpa [y9.mem] using this
def we(a b:Rat):Int:=KK (a.num*b.den) (b.num*a.den)
variable{a b:Rat}
theorem Wb:we a b<0↔a<b:=by
 rw[Rat.lt_iff];unfold we KK;split
 ·simp[*]
 ·split<;>simp[*]
theorem BZ:we a b≤0↔a≤b:=by
 rw[Rat.le_iff];unfold we KK;split
 ·constructor<;>intro h<;>omega
 ·split<;>constructor<;>intro h<;>omega
theorem GP(a b:Rat):(aB a==aB b)=decide (a=b):=by rw[Bool.eq_iff_iff,beq_iff_eq,decide_eq_true_eq];exact⟨GQ,fun h=>by rw[h]⟩
def qk(q:Rat):Prop:=(ai q.num.natAbs).length≤9∧(q.den=1∨(ai q.den).length≤9)
theorem Q5(h:qk q):q.num.natAbs<10 ^ 9∧q.den<10 ^ 9:=by
 have Z:=bY q.num.natAbs;have X:=bY q.den;have h3:10 ^ (ai q.num.natAbs).length≤10 ^ 9:=Nat.pow_le_pow_right (by omega) h.1;refine⟨by omega,?_⟩;rcases h.2 with h4 | h4
 ·omega
 ·have V:10 ^ (ai q.den).length≤10 ^ 9:=Nat.pow_le_pow_right (by omega) h4
  omega
section
variable (ha:iK a)(hb:iK b)
include ha hb
theorem OL:(ai (a.num*(b.den:Int)).natAbs).length≤80000:=by rw[Int.natAbs_mul,Int.natAbs_natCast];exact dj ha.1 hb.2
theorem KV:(ai (a.den*b.den)).length≤80000:=dj ha.2 hb.2
theorem Sz:(ai (a.num*b.num).natAbs).length≤80000:=by rw[Int.natAbs_mul];exact dj ha.1 hb.1
end
theorem kI{α:Type}(h:¬qk q)(x y:α):(if (ai q.num.natAbs).length≤9∧(q.den=1∨(ai q.den).length≤9) then x else y)=y:=if_neg h
theorem dQ{α:Type}(h:qk q)(x y:α):(if (ai q.num.natAbs).length≤9∧(q.den=1∨(ai q.den).length≤9) then x else y)=x:=if_pos h
theorem sY(a b:Rat)(y:iK a)(H:iK b)(mem:Mem):
  kO prog 111 [.str (aB a),.str (aB b)] mem (.int .i64 (we a b)) mem:=by
 have V:aT prog 111=some f111:=by kernel_rfl
 refine ao jP ?_ mem;have R:=fJ y;have Q:=fJ H;by_cases K:a=b
 ·subst K
  have:we a a=0:=by unfold we KK;simp
  simp[aa,V,f111,this]
 ·have U:=GP a b
  rw[decide_eq_false K] at U;obtain⟨X,O⟩:=xE (a.num*(b.den:Int));obtain⟨Y,N⟩:=xE (b.num*(a.den:Int));have G:we a b=KK X Y:=by unfold we;rw[←O,←N]
  by_cases F:qk a∧qk b
  ·obtain⟨Z,S⟩:=F
   obtain⟨o,m⟩:=Q5 Z;obtain⟨j,W⟩:=Q5 S;have J:X.natAbs<10 ^ 9*10 ^ 9:=by rw[O];exact fb o (by simpa using W)
   have I:Y.natAbs<10 ^ 9*10 ^ 9:=by rw[N];exact fb j (by simpa using m)
   have w1:IntKind.i64.wrap (a.num*(b.den:Int))=X:=by rw[←O];exact ae
   have w2:IntKind.i64.wrap (b.num*(a.den:Int))=Y:=by rw[←N];exact ae
   rw[G];unfold KK;by_cases L:X<Y
   ·simp[aa,V,f111,U,af,bJ,bD,az,R,Q,dQ Z,dQ S,w1,w2,L]
   ·by_cases M:Y<X
    ·simp[aa,V,f111,U,af,bJ,bD,az,R,Q,dQ Z,dQ S,w1,w2,L,M]
    ·simp[aa,V,f111,U,af,bJ,bD,az,R,Q,dQ Z,dQ S,w1,w2,L,M]
  ·rw[G]
   have D:(ai a.num.natAbs).length≤100000:=by have:=y.1;omega
   have C:(ai a.den).length≤100000:=by have:=y.2;omega
   have B:(ai b.num.natAbs).length≤100000:=by have:=H.1;omega
   have u:(ai b.den).length≤100000:=by have:=H.2;omega
   by_cases Z:qk a
   ·have S:¬qk b:=fun h=>F ⟨Z,h⟩
    simp[aa,V,f111,U,af,bJ,bD,cq,aO,az,aA,cm,R,Q,dQ Z,kI S,D,C,B,u,←O,←N]
   ·simp[aa,V,f111,U,af,bJ,bD,cq,aO,az,aA,cm,R,Q,kI Z,D,C,B,u,←O,←N]
theorem my(q:Rat):(aB q==[49])=decide (q=1):=by
 have:=GP q 1
 rwa [show aB 1=[49] from rfl] at this
theorem Pp(a b:Rat)(y:iK a)(H:iK b)(mem:Mem):
  kO prog 86 [.str (aB a),.str (aB b)] mem (.str (aB (a+b))) mem:=by
 have Q:aT prog 86=some f86:=by kernel_rfl
 refine ao jP ?_ mem;have K:=fJ y;have G:=fJ H;by_cases O:a=0
 ·subst O
  have:aB 0=[48]:=rfl;simp[aa,Q,f86,this,Rat.zero_add]
 by_cases M:b=0
 ·subst M
  have:aB 0=[48]:=rfl;simp[aa,Q,f86,this,aV,O,Rat.add_zero]
 have pa:=a.den_pos;have pb:=b.den_pos;have Z:a.den*b.den≠0:=Nat.mul_ne_zero a.den_nz b.den_nz;have F:=Rat.add_def' a b;obtain⟨X,V⟩:=xE (a.num*(b.den:Int));obtain⟨Y,U⟩:=xE (b.num*(a.den:Int));obtain⟨D,S⟩:=xE (a.den*b.den);rw[←V,←U,←S] at F;rw[←S] at Z;rw[F];by_cases C:qk a∧qk b
 ·obtain⟨R,L⟩:=C
  obtain⟨a1,B⟩:=Q5 R;obtain⟨b1,u⟩:=Q5 L;have o:X.natAbs<10 ^ 9*10 ^ 9:=by rw[V];exact fb a1 (by simpa using u)
  have m:Y.natAbs<10 ^ 9*10 ^ 9:=by rw[U];exact fb b1 (by simpa using B)
  have d1:D<10 ^ 9*10 ^ 9:=by rw[S];exact Nat.mul_lt_mul'' B u
  have w1:IntKind.i64.wrap (a.num*(b.den:Int))=X:=by rw[←V];exact ae
  have w2:IntKind.i64.wrap (b.num*(a.den:Int))=Y:=by rw[←U];exact ae
  have w3:IntKind.i64.wrap (X+Y)=X+Y:=ae;have w4:IntKind.i64.wrap ((a.den:Int)*(b.den:Int))=(D:Int):=by rw[←Int.natCast_mul,←S];exact ae
  have c1:(X+Y).natAbs≤4611686018427387904:=by omega
  have c2:D≤4611686018427387904:=by omega
  simp[aa,Q,f86,aV,O,M,af,bJ,bD,az,K,G,dQ R,dQ L,w1,w2,w3,w4,Z,c1,c2]
 ·have j:(ai a.num.natAbs).length≤100000:=by have:=y.1;omega
  have W:(ai a.den).length≤100000:=by have:=y.2;omega
  have J:(ai b.num.natAbs).length≤100000:=by have:=H.1;omega
  have I:(ai b.den).length≤100000:=by have:=H.2;omega
  have o:(ai X.natAbs).length≤80000:=by rw[V];exact OL y H
  have m:(ai Y.natAbs).length≤80000:=by rw[U];exact OL H y
  have s5:(ai X.natAbs).length≤100000:=by omega
  have s6:(ai Y.natAbs).length≤100000:=by omega
  have s7:(ai (X+Y).natAbs).length≤100000:=by have h1:=iX o m;have h2:=bw (Int.natAbs_add_le X Y);omega
  have s8:(ai D).length≤100000:=by
   have:(ai D).length≤80000:=by rw[S];exact KV y H
   omega
  have N:bB ((a.den:Int)*(b.den:Int))=ai D:=by rw[←Int.natCast_mul,←S];rfl
  by_cases R:qk a
  ·have L:¬qk b:=fun h=>C ⟨R,h⟩
   simp[aa,Q,f86,aV,O,M,af,bJ,bD,cq,az,aA,cm,bk,K,G,dQ R,kI L,j,W,J,I,←V,←U,s5,s6,s7,s8,N,Z]
  ·simp[aa,Q,f86,aV,O,M,af,bJ,bD,cq,az,aA,cm,bk,K,G,kI R,j,W,J,I,←V,←U,s5,s6,s7,s8,N,Z]
theorem PF(a b:Rat)(y:iK a)(H:iK b)(mem:Mem):
  kO prog 47 [.str (aB a),.str (aB b)] mem (.str (aB (a*b))) mem:=by
 have S:aT prog 47=some f47:=by kernel_rfl
 refine ao jP ?_ mem;have G:=fJ y;have F:=fJ H;have C:aB 0=[48]:=rfl;have B:aB 1=[49]:=rfl;by_cases R:a=0
 ·subst R
  simp[aa,S,f47,C,Rat.zero_mul]
 by_cases M:b=0
 ·subst M
  simp[aa,S,f47,C,aV,R,Rat.mul_zero]
 by_cases Z:a=1
 ·subst Z
  simp[aa,S,f47,B,aV,M,Rat.one_mul]
 by_cases V:b=1
 ·subst V
  simp[aa,S,f47,B,aV,my,R,Z,Rat.mul_one]
 have pa:=a.den_pos;have pb:=b.den_pos;have U:a.den*b.den≠0:=Nat.mul_ne_zero a.den_nz b.den_nz;have u:=Rat.mul_def' a b;obtain⟨X,Q⟩:=xE (a.num*b.num);obtain⟨D,O⟩:=xE (a.den*b.den);rw[←Q,←O] at u;rw[←O] at U;rw[u];by_cases o:qk a∧qk b
 ·obtain⟨N,K⟩:=o
  obtain⟨a1,a2⟩:=Q5 N;obtain⟨b1,b2⟩:=Q5 K;have x1:X.natAbs<10 ^ 9*10 ^ 9:=by rw[Q];exact fb a1 b1
  have d1:D<10 ^ 9*10 ^ 9:=by rw[O];exact Nat.mul_lt_mul'' a2 b2
  have w1:IntKind.i64.wrap (a.num*b.num)=X:=by rw[←Q];exact ae
  have w4:IntKind.i64.wrap ((a.den:Int)*(b.den:Int))=(D:Int):=by rw[←Int.natCast_mul,←O];exact ae
  have c1:X.natAbs≤4611686018427387904:=by omega
  have c2:D≤4611686018427387904:=by omega
  simp[aa,S,f47,aV,my,R,M,Z,V,af,bJ,bD,az,G,F,dQ N,dQ K,w1,w4,U,c1,c2]
 ·have m:(ai a.num.natAbs).length≤100000:=by have:=y.1;omega
  have j:(ai a.den).length≤100000:=by have:=y.2;omega
  have Y:(ai b.num.natAbs).length≤100000:=by have:=H.1;omega
  have W:(ai b.den).length≤100000:=by have:=H.2;omega
  have x1:(ai X.natAbs).length≤80000:=by rw[Q];exact Sz y H
  have J:(ai X.natAbs).length≤100000:=by omega
  have I:(ai D).length≤100000:=by
   have:(ai D).length≤80000:=by rw[O];exact KV y H
   omega
  have L:bB ((a.den:Int)*(b.den:Int))=ai D:=by rw[←Int.natCast_mul,←O];rfl
  by_cases N:qk a
  ·have K:¬qk b:=fun h=>o ⟨N,h⟩
   simp[aa,S,f47,aV,my,R,M,Z,V,af,bJ,bD,cq,az,aA,cm,bk,G,F,dQ N,kI K,m,j,Y,W,←Q,J,I,L,U]
  ·simp[aa,S,f47,aV,my,R,M,Z,V,af,bJ,bD,cq,az,aA,cm,bk,G,F,kI N,m,j,Y,W,←Q,J,I,L,U]
end Go.Proofs
