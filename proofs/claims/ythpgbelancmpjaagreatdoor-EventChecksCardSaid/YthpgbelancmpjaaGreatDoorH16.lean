/- See H38. -/
import Derived.Test.YthpgbelancmpjaaGreatDoorH15
set_option linter.all false
set_option maxRecDepth 100000
set_option maxHeartbeats 40000000
namespace Go.Proofs
open Go.Eng
open Tryz
noncomputable def cP(f:FuncId)(args:List AV):Option AV:=
 match f,args with
 |204,[.str s,.str t]=>match im s,im t with
  |some m,some n=>if (aj m.natAbs).length<=100000/\(aj n.natAbs).length<=100000 then some (.str (bH (m+n))) else none
  |_,_=>none
 |133,[.str s,.str t]=>match im s,im t with
  |some m,some n=>if (aj m.natAbs).length<=100000/\(aj n.natAbs).length<=100000 then some (.str (bH (m*n))) else none
  |_,_=>none
 |208,[.str s,.str t]=>match im s,xF t with
  |some m,some n=>if (aj m.natAbs).length<=100000/\(aj n).length<=100000/\0<n/\(0<=m\/m.natAbs%n=0) then some (.tuple [.str (bH (m / n)),.str (aj (m.natAbs%n)),.int .i64 0]) else none
  |_,_=>none
 |140,[.str s,.str t]=>match im s,im t with
  |some m,some n=>if (aj m.natAbs).length<=100000/\(aj n.natAbs).length<=100000 then some (.str (aj (m.natAbs.gcd n.natAbs))) else none
  |_,_=>none
 |138,[.str s]=>if s.length<=1000000000 then some (.int .i64 (if okT (Lib.hasPrefix s [45]) (Lib.trimPrefix s [45]) then 0 else 2)) else none
 |f,args=>aU f args
theorem Kz:afs prog (ai cP):=bT fun f U v h mem=>by
 unfold cP at h;split at h
 .split at h
  .rename_i m n X V
   split at h
   .rename_i Z
    cases h;rw[bK X,bK V];exact Pj m n Z.1 Z.2 mem
   .cases h
  .cases h
 .split at h
  .rename_i m n X V
   split at h
   .rename_i Z
    cases h;rw[bK X,bK V];exact PG m n Z.1 Z.2 mem
   .cases h
  .cases h
 .split at h
  .rename_i m n X V
   split at h
   .rename_i Z
    cases h;obtain⟨S,R,Q,O⟩:=Z;rw[bK X,gB V];exact FP m n Q O S R mem
   .cases h
  .cases h
 .split at h
  .rename_i m n X V
   split at h
   .rename_i Z
    cases h;rw[bK X,bK V];exact PA m n Z.1 Z.2 mem
   .cases h
  .cases h
 .split at h
  .rename_i N
   cases h;exact HN _ N mem
  .cases h
 .have:=za.fn _ _ mem ⟨v,none,[]⟩ (by unfold ai;simp only;rw[h])
  simpa [afw.mem] using this
noncomputable def bO(f:FuncId)(args:List AV):Option AV:=
 match f,args with
 |129,[.str s]=>match dZ s with
  |some q=>if s.length<=1000000000 then some (if (aj q.num.natAbs).length<=9/\(q.den=1\/(aj q.den).length<=9) then .tuple [.int .i64 q.num,.int .i64 q.den,.bool true] else .tuple [.int .i64 0,.int .i64 0,.bool false]) else none
  |none=>none
 |130,[.int .i64 n,.int .i64 d]=>if d.toNat≠0/\n.natAbs<=4611686018427387904/\0<=d/\d.toNat<=4611686018427387904 then some (.str (aJ (mkRat n d.toNat))) else none
 |131,[.str s]=>match dZ s with
  |some q=>if s.length<=1000000000 then some (.tuple [.str (bH q.num),.str (aj q.den)]) else none
  |none=>none
 |206,[.str s,.str t]=>match im s,xF t with
  |some n,some d=>if s.length<=1000000000/\t.length<=1000000000 then some (.str (if d=1 then bH n else bH n++47::aj d)) else none
  |_,_=>none
 |81,[.str s]=>match dZ s with
  |some q=>if s.length<=1000000000 then some (.str (aJ (-q))) else none
  |none=>none
 |178,[.str s]=>match dZ s with
  |some q=>some (.int .i64 (kU q))
  |none=>none
 |f,args=>cP f args
theorem zd:afs prog (ai bO):=bT fun f U v h mem=>by
 unfold bO at h;split at h
 .split at h
  .rename_i q X
   split at h
   .rename_i Z
    cases h;rw[aF X] at Z |-;exact H8 q Z mem
   .cases h
  .cases h
 .split at h
  .rename_i V
   obtain⟨S,R,Q,O⟩:=V;cases h;have:=Il _ _ R S O mem;rw[QQb Q] at this;rw[Rat.mkRat_def,dif_neg S];exact this
  .cases h
 .split at h
  .rename_i q X
   split at h
   .rename_i Z
    cases h;rw[aF X] at Z |-;exact MO q Z mem
   .cases h
  .cases h
 .split at h
  .rename_i m n N M
   split at h
   .rename_i V
    cases h;rw[bK N,gB M] at V |-;exact PC m n V.1 V.2 mem
   .cases h
  .cases h
 .split at h
  .rename_i q X
   split at h
   .rename_i Z
    cases h;rw[aF X] at Z |-;exact PI q Z mem
   .cases h
  .cases h
 .split at h
  .rename_i q X
   cases h;rw[aF X];exact Bp q mem
  .cases h
 .have:=Kz.fn _ _ mem ⟨v,none,[]⟩ (by unfold ai;simp only;rw[h])
  simpa [afw.mem] using this
theorem cM(u:Nat):im (aj u)=some (u:Int):=ax (u:Int)
def lD(q:Rat):Prop:=(aj q.num.natAbs).length<=40000/\(aj q.den).length<=40000
variable{q:Rat}
theorem gh(h:lD q):(aJ q).length<=1000000000:=by
 have:=du q.num;have Z:=h.1;have X:=h.2;unfold aJ;split
 .omega
 .simp only[Nm,List.length_cons];omega
variable{d:Nat}
theorem tz(n:Int)(hd:d≠0):aJ (mkRat n d)=if d / n.natAbs.gcd d=1 then bH (n / (n.natAbs.gcd d:Nat)) else bH (n / (n.natAbs.gcd d:Nat))++47::aj (d / n.natAbs.gcd d):=by unfold aJ;rw[Rat.num_mkRat,Rat.den_mkRat,if_neg hd,if_neg hd,Nat.gcd_comm d]
theorem fg(n:Nat):(aj n==[49])=decide (n=1):=by
 rw[Bool.eq_iff_iff,beq_iff_eq,Cs];constructor
 .intro e;exact AY (e.trans (show [49]=aj 1 from rfl))
 .rintro rfl;rfl
theorem Hy(h:d≠0):jI (d:Int)=1:=by unfold jI;rw[if_neg (by omega),if_neg (by omega)]
theorem HZ(n:Int)(d:Nat)(hd:d≠0)(I:(aj n.natAbs).length<=100000)(H:(aj d).length<=100000)(mem:Mem):
  bz prog 132 [.str (bH n),.str (aj d)] mem (.str (aJ (mkRat n d))) mem:=by
 have F:bq prog 132=some f132:=by kernel_rfl
 refine az zd ?_ mem;rw[tz n hd];have D:=Hy hd;have Z:0<n.natAbs.gcd d:=Nat.gcd_pos_of_pos_right _ (by omega);have X:n.natAbs.gcd d∣n.natAbs:=Nat.gcd_dvd_left _ _;have V:n.natAbs.gcd d∣d:=Nat.gcd_dvd_right _ _;have U:n.natAbs.gcd d<=d:=Nat.le_of_dvd (by omega) V;obtain⟨g,R⟩:=xE (n.natAbs.gcd d);rw[<-R] at Z X V U |-;have C:=du n;have B:(bH n).length<=1000000000:=by omega
 have Q:(aj d).length<=1000000000:=by omega
 by_cases S:g=1
 .have y:n / (g:Int)=n:=by rw[S];exact Int.ediv_one n
  have u:d / g=d:=by rw[S];exact Nat.div_one d
  rw[y,u];simp[ad,F,f132,ai,bO,cP,aU,aV,cM,bu,ax,D,I,H,<-R,fg,S,B,Q]
 .have O:(aj g).length<=100000:=by have:=bI U;omega
  have N:n.natAbs%g=0:=Nat.mod_eq_zero_of_dvd X;have M:bH ((d:Int) / (g:Int))=aj (d / g):=by rw[<-Int.natCast_ediv];rfl
  have o:(aj (n / (g:Int)).natAbs).length<=100000:=by have:=bI (Int.natAbs_ediv_le_natAbs n g);omega
  have m:=du (n / (g:Int));have K:(bH (n / (g:Int))).length<=1000000000:=by omega
  have G:(aj (d / g)).length<=1000000000:=by have:=bI (Nat.div_le_self d g);omega
  simp[ad,F,f132,ai,bO,cP,aU,aV,cM,bu,ax,D,I,H,<-R,fg,S,O,Z,N,M,K,G]
noncomputable def bX(f:FuncId)(args:List AV):Option AV:=
 match f,args with
 |132,[.str s,.str t]=>match im s,xF t with
  |some n,some d=>if d≠0/\(aj n.natAbs).length<=100000/\(aj d).length<=100000 then some (.str (aJ (mkRat n d))) else none
  |_,_=>none
 |f,args=>bO f args
theorem kE:afs prog (ai bX):=bT fun f X v h mem=>by
 unfold bX at h;split at h
 .split at h
  .rename_i m n V U
   split at h
   .rename_i Z
    cases h;rw[bK V,gB U];exact HZ m n Z.1 Z.2.1 Z.2.2 mem
   .cases h
  .cases h
 .have:=zd.fn _ _ mem ⟨v,none,[]⟩ (by unfold ai;simp only;rw[h])
  simpa [afw.mem] using this
def vf(a b:Rat):Int:=Mq (a.num*b.den) (b.num*a.den)
variable{a b:Rat}
theorem Hb:vf a b<=0↔a<=b:=by
 rw[Rat.le_iff];unfold vf Mq;split
 .constructor<;>intro h<;>omega
 .split<;>constructor<;>intro h<;>omega
theorem Ho(a b:Rat):(aJ a==aJ b)=decide (a=b):=by rw[Bool.eq_iff_iff,beq_iff_eq,Cs];exact⟨Ba,fun h=>by rw[h]⟩
def qk(q:Rat):Prop:=(aj q.num.natAbs).length<=9/\(q.den=1\/(aj q.den).length<=9)
theorem Rw(h:qk q):q.num.natAbs<10 ^ 9/\q.den<10 ^ 9:=by
 have Z:=cf q.num.natAbs;have X:=cf q.den;have h3:10 ^ (aj q.num.natAbs).length<=10 ^ 9:=L9 (by omega) h.1;refine⟨by omega,?_⟩;rcases h.2 with h4 | h4
 .omega
 .have V:10 ^ (aj q.den).length<=10 ^ 9:=L9 (by omega) h4
  omega
section
variable (ha:lD a)(hb:lD b)
include ha hb
theorem OL:(aj (a.num*(b.den:Int)).natAbs).length<=80000:=by rw[QQf,Int.natAbs_natCast];exact dL ha.1 hb.2
theorem Ls:(aj (a.den*b.den)).length<=80000:=dL ha.2 hb.2
theorem Ub:(aj (a.num*b.num).natAbs).length<=80000:=by rw[QQf];exact dL ha.1 hb.1
end
theorem lH{α:Type}(h:¬qk q)(x y:α):(if (aj q.num.natAbs).length<=9/\(q.den=1\/(aj q.den).length<=9) then x else y)=y:=if_neg h
theorem er{α:Type}(h:qk q)(x y:α):(if (aj q.num.natAbs).length<=9/\(q.den=1\/(aj q.den).length<=9) then x else y)=x:=if_pos h
theorem tL(a b:Rat)(H:lD a)(I:lD b)(mem:Mem):
  bz prog 136 [.str (aJ a),.str (aJ b)] mem (.int .i64 (vf a b)) mem:=by
 have S:bq prog 136=some f136:=by kernel_rfl
 refine az kE ?_ mem;have Q:=gh H;have O:=gh I;by_cases N:a=b
 .subst N
  have:vf a a=0:=by unfold vf Mq;simp
  simp[ad,S,f136,this]
 .have Z:=Ho a b
  rw[decide_eq_false N] at Z;obtain⟨X,M⟩:=xE (a.num*(b.den:Int));obtain⟨Y,K⟩:=xE (b.num*(a.den:Int));have F:vf a b=Mq X Y:=by unfold vf;rw[<-M,<-K]
  by_cases D:qk a/\qk b
  .obtain⟨V,R⟩:=D
   obtain⟨o,m⟩:=Rw V;obtain⟨j,W⟩:=Rw R;have J:X.natAbs<10 ^ 9*10 ^ 9:=by rw[M];exact fE o (by simpa using W)
   have y1:Y.natAbs<10 ^ 9*10 ^ 9:=by rw[K];exact fE j (by simpa using m)
   have w1:IntKind.i64.wrap (a.num*(b.den:Int))=X:=by rw[<-M];exact af
   have w2:IntKind.i64.wrap (b.num*(a.den:Int))=Y:=by rw[<-K];exact af
   rw[F];unfold Mq;by_cases U:X<Y
   .simp[ad,S,f136,Z,ai,bX,bO,aE,Q,O,er V,er R,w1,w2,U]
   .by_cases G:Y<X
    .simp[ad,S,f136,Z,ai,bX,bO,aE,Q,O,er V,er R,w1,w2,U,G]
    .simp[ad,S,f136,Z,ai,bX,bO,aE,Q,O,er V,er R,w1,w2,U,G]
  .rw[F]
   have C:(aj a.num.natAbs).length<=100000:=by have:=H.1;omega
   have B:(aj a.den).length<=100000:=by have:=H.2;omega
   have y:(aj b.num.natAbs).length<=100000:=by have:=I.1;omega
   have u:(aj b.den).length<=100000:=by have:=I.2;omega
   by_cases V:qk a
   .have R:¬qk b:=fun h=>D ⟨V,h⟩
    simp[ad,S,f136,Z,ai,bX,bO,cP,aU,aE,ax,cM,Q,O,er V,lH R,C,B,y,u,<-M,<-K]
   .simp[ad,S,f136,Z,ai,bX,bO,cP,aU,aE,ax,cM,Q,O,lH V,C,B,y,u,<-M,<-K]
theorem nf(q:Rat):(aJ q==[49])=decide (q=1):=by
 have:=Ho q 1
 rwa [show aJ 1=[49] from rfl] at this
theorem Pk(a b:Rat)(H:lD a)(I:lD b)(mem:Mem):
  bz prog 126 [.str (aJ a),.str (aJ b)] mem (.str (aJ (a+b))) mem:=by
 have O:bq prog 126=some f126:=by kernel_rfl
 refine az kE ?_ mem;have F:=gh H;have C:=gh I;by_cases Z:a=0
 .subst Z
  have:aJ 0=[48]:=rfl;simp[ad,O,f126,this,Rat.zero_add]
 by_cases K:b=0
 .subst K
  have:aJ 0=[48]:=rfl;simp[ad,O,f126,this,bk,Z,Rat.add_zero]
 have pa:=a.den_pos;have pb:=b.den_pos;have V:a.den*b.den≠0:=Nat.mul_ne_zero a.den_nz b.den_nz;have N:=Rat.add_def' a b;obtain⟨X,U⟩:=xE (a.num*(b.den:Int));obtain⟨Y,S⟩:=xE (b.num*(a.den:Int));obtain⟨D,R⟩:=xE (a.den*b.den);rw[<-U,<-S,<-R] at N;rw[<-R] at V;rw[N];by_cases B:qk a/\qk b
 .obtain⟨Q,G⟩:=B
  obtain⟨a1,y⟩:=Rw Q;obtain⟨b1,u⟩:=Rw G;have o:X.natAbs<10 ^ 9*10 ^ 9:=by rw[U];exact fE a1 (by simpa using u)
  have m:Y.natAbs<10 ^ 9*10 ^ 9:=by rw[S];exact fE b1 (by simpa using y)
  have d1:D<10 ^ 9*10 ^ 9:=by rw[R];exact Nat.mul_lt_mul'' y u
  have w1:IntKind.i64.wrap (a.num*(b.den:Int))=X:=by rw[<-U];exact af
  have w2:IntKind.i64.wrap (b.num*(a.den:Int))=Y:=by rw[<-S];exact af
  have w3:IntKind.i64.wrap (X+Y)=X+Y:=af;have w4:IntKind.i64.wrap ((a.den:Int)*(b.den:Int))=(D:Int):=by rw[<-Int.natCast_mul,<-R];exact af
  have c1:(X+Y).natAbs<=4611686018427387904:=by omega
  have c2:D<=4611686018427387904:=by omega
  simp[ad,O,f126,bk,Z,K,ai,bX,bO,aE,F,C,er Q,er G,w1,w2,w3,w4,V,c1,c2]
 .have j:(aj a.num.natAbs).length<=100000:=by have:=H.1;omega
  have W:(aj a.den).length<=100000:=by have:=H.2;omega
  have J:(aj b.num.natAbs).length<=100000:=by have:=I.1;omega
  have s4:(aj b.den).length<=100000:=by have:=I.2;omega
  have o:(aj X.natAbs).length<=80000:=by rw[U];exact OL H I
  have m:(aj Y.natAbs).length<=80000:=by rw[S];exact OL I H
  have s5:(aj X.natAbs).length<=100000:=by omega
  have s6:(aj Y.natAbs).length<=100000:=by omega
  have s7:(aj (X+Y).natAbs).length<=100000:=by have h1:=jB o m;have h2:=bI (Int.natAbs_add_le X Y);omega
  have s8:(aj D).length<=100000:=by
   have:(aj D).length<=80000:=by rw[R];exact Ls H I
   omega
  have M:bH ((a.den:Int)*(b.den:Int))=aj D:=by rw[<-Int.natCast_mul,<-R];rfl
  by_cases Q:qk a
  .have G:¬qk b:=fun h=>B ⟨Q,h⟩
   simp[ad,O,f126,bk,Z,K,ai,bX,bO,cP,aE,ax,cM,bu,F,C,er Q,lH G,j,W,J,s4,<-U,<-S,s5,s6,s7,s8,M,V]
  .simp[ad,O,f126,bk,Z,K,ai,bX,bO,cP,aE,ax,cM,bu,F,C,lH Q,j,W,J,s4,<-U,<-S,s5,s6,s7,s8,M,V]
theorem PH(a b:Rat)(H:lD a)(I:lD b)(mem:Mem):
  bz prog 82 [.str (aJ a),.str (aJ b)] mem (.str (aJ (a*b))) mem:=by
 have R:bq prog 82=some f82:=by kernel_rfl
 refine az kE ?_ mem;have C:=gh H;have B:=gh I;have y:aJ 0=[48]:=rfl;have u:aJ 1=[49]:=rfl;by_cases Z:a=0
 .subst Z
  simp[ad,R,f82,y,Rat.zero_mul]
 by_cases M:b=0
 .subst M
  simp[ad,R,f82,y,bk,Z,Rat.mul_zero]
 by_cases V:a=1
 .subst V
  simp[ad,R,f82,u,bk,M,Rat.one_mul]
 by_cases U:b=1
 .subst U
  simp[ad,R,f82,u,bk,nf,Z,V,Rat.mul_one]
 have pa:=a.den_pos;have pb:=b.den_pos;have S:a.den*b.den≠0:=Nat.mul_ne_zero a.den_nz b.den_nz;have K:=Rat.mul_def' a b;obtain⟨X,Q⟩:=xE (a.num*b.num);obtain⟨D,O⟩:=xE (a.den*b.den);rw[<-Q,<-O] at K;rw[<-O] at S;rw[K];by_cases o:qk a/\qk b
 .obtain⟨N,F⟩:=o
  obtain⟨a1,a2⟩:=Rw N;obtain⟨b1,b2⟩:=Rw F;have x1:X.natAbs<10 ^ 9*10 ^ 9:=by rw[Q];exact fE a1 b1
  have d1:D<10 ^ 9*10 ^ 9:=by rw[O];exact Nat.mul_lt_mul'' a2 b2
  have w1:IntKind.i64.wrap (a.num*b.num)=X:=by rw[<-Q];exact af
  have w4:IntKind.i64.wrap ((a.den:Int)*(b.den:Int))=(D:Int):=by rw[<-Int.natCast_mul,<-O];exact af
  have c1:X.natAbs<=4611686018427387904:=by omega
  have c2:D<=4611686018427387904:=by omega
  simp[ad,R,f82,bk,nf,Z,M,V,U,ai,bX,bO,aE,C,B,er N,er F,w1,w4,S,c1,c2]
 .have m:(aj a.num.natAbs).length<=100000:=by have:=H.1;omega
  have j:(aj a.den).length<=100000:=by have:=H.2;omega
  have Y:(aj b.num.natAbs).length<=100000:=by have:=I.1;omega
  have W:(aj b.den).length<=100000:=by have:=I.2;omega
  have x1:(aj X.natAbs).length<=80000:=by rw[Q];exact Ub H I
  have J:(aj X.natAbs).length<=100000:=by omega
  have s8:(aj D).length<=100000:=by
   have:(aj D).length<=80000:=by rw[O];exact Ls H I
   omega
  have G:bH ((a.den:Int)*(b.den:Int))=aj D:=by rw[<-Int.natCast_mul,<-O];rfl
  by_cases N:qk a
  .have F:¬qk b:=fun h=>o ⟨N,h⟩
   simp[ad,R,f82,bk,nf,Z,M,V,U,ai,bX,bO,cP,aE,ax,cM,bu,C,B,er N,lH F,m,j,Y,W,<-Q,J,s8,G,S]
  .simp[ad,R,f82,bk,nf,Z,M,V,U,ai,bX,bO,cP,aE,ax,cM,bu,C,B,lH N,m,j,Y,W,<-Q,J,s8,G,S]
theorem UN(t:List UInt8):okT false t=(decide (t.length<=200)&&gA t):=by
 cases t with
 |nil=>rfl
 |cons c r=>
  unfold okT gA;simp only[List.length_cons,Bool.or_false,QQX];rw[Bool.eq_iff_iff];simp;cases r with
  |nil=>simp
  |cons x r=>simp;grind
theorem WM(t:List UInt8):okT true t=(decide (t.length<=200)&&gA t&& !(t.head? ==some 48)):=by
 cases t with
 |nil=>rfl
 |cons c r=>
  unfold okT gA;simp only[List.length_cons,Bool.or_true,Bool.and_true,QQX,List.head?_cons];rw[Bool.eq_iff_iff];simp
  grind
def okI(s:List UInt8):Bool:=match im s with
 |some n=>decide ((aj n.natAbs).length<=200)
 |none=>false
theorem Fo(r:List UInt8):im (45::r)=match xF r with
  |some (u+1)=>some (Int.negSucc u)
  |_=>none:=rfl
variable{t:List UInt8}
theorem Fp(h:∀r,t≠45::r):im t=(xF t).map Int.ofNat:=by
 unfold im;split
 next r=>exact absurd rfl (h r)
 .cases xF t<;>rfl
theorem A8(h:gA t=true):xF t=some (eP t):=by unfold xF;rw[if_pos h]
theorem Hj(h:gA t=false):xF t=none:=by unfold xF;rw[h];rfl
theorem ss(s:List UInt8):okT (Lib.hasPrefix s [45]) (Lib.trimPrefix s [45])=okI s:=by
 unfold Lib.trimPrefix;have Z:∀t:List UInt8,(∀r,t≠45::r)->okT false t=okI t:=by
  intro t U;rw[UN];unfold okI;rw[Fp U];cases hc:gA t with
  |true=>
   have:=sn hc;rw[A8 hc];show _=decide ((aj (Int.ofNat (eP t)).natAbs).length<=200)
   rw[show(Int.ofNat (eP t)).natAbs=eP t from rfl,this,Bool.and_true]
  |false=>
   rw[Hj hc,Bool.and_false];rfl
 cases s with
 |nil=>rw[show Lib.hasPrefix [] [45]=false from rfl];exact Z [] (by simp)
 |cons c r=>
  by_cases h:c=45
  .subst h
   rw[show Lib.hasPrefix (45::r) [45]=true by simp[Lib.hasPrefix,List.isPrefixOf]];simp only[if_true,List.length_singleton,List.drop_succ_cons,List.drop_zero];rw[WM];unfold okI;rw[Fo];cases hc:gA r with
   |true=>
    rw[A8 hc,Bool.and_true];have X:=sn hc;cases hvd:eP r with
    |zero=>
     rw[hvd,iI] at X;rw[<-X];rfl
    |succ u=>
     rw[hvd] at X;have V:=xg (u+1) (by omega);rw[X] at V;show _=decide ((aj (Int.negSucc u).natAbs).length<=200)
     rw[show(Int.negSucc u).natAbs=u+1 from rfl,X];have:(r.head? ==some 48)=false:=by simpa using V
     rw[this];simp
   |false=>
    rw[Hj hc];simp
  .have S:Lib.hasPrefix (c::r) [45]=false:=by
    have R :¬(45:UInt8)=c:=fun e=>h e.symm
    simp[Lib.hasPrefix,List.isPrefixOf,R]
   rw[S];exact Z (c::r) (by intro Q e;exact h (List.cons.inj e).1)
variable{n:Int}{r:List UInt8}
theorem WC(h:im r=some n)(H:0<=n):xF r=some n.toNat:=by rw[bK h,gj H,bu];congr 1;omega
theorem LM{n:Nat}(h:xF r=some n):im r=some (n:Int):=by rw[gB h];exact cM n
theorem jv:∀(s:List UInt8) (c:UInt8),Lib.indexByte s c=match s.idxOf? c with
  |some i=>(i:Int)
  |none=> -1
 | [],_=>rfl
 |b::l,c=>by
  unfold Lib.indexByte;rw[List.idxOf?_cons,jv l c];by_cases h:b=c
  .subst h;simp
  .have Z :(b==c)=false:=by simpa using h
   rw[Z];simp only[Bool.false_eq_true,if_false];cases l.idxOf? c with
   |none=>simp
   |some i=>
    have X:¬(((i:Int)== -1)=true):=by rw[beq_iff_eq];omega
    simp only[Option.map_some];rw[if_neg X,Int.natCast_add];rfl
def iz(s:List UInt8):Int:=match dZ s with
 |some q=>if (aj q.num.natAbs).length<=200/\(aj q.den).length<=200 then 0 else 2
 |none=>2
noncomputable def cp(f:FuncId)(args:List AV):Option AV:=
 match f,args with
 |136,[.str s,.str t]=>match dZ s,dZ t with
  |some a,some b=>if (aj a.num.natAbs).length<=40000/\(aj a.den).length<=40000/\(aj b.num.natAbs).length<=40000/\(aj b.den).length<=40000 then some (.int .i64 (vf a b)) else none
  |_,_=>none
 |126,[.str s,.str t]=>match dZ s,dZ t with
  |some a,some b=>if (aj a.num.natAbs).length<=40000/\(aj a.den).length<=40000/\(aj b.num.natAbs).length<=40000/\(aj b.den).length<=40000 then some (.str (aJ (a+b))) else none
  |_,_=>none
 |82,[.str s,.str t]=>match dZ s,dZ t with
  |some a,some b=>if (aj a.num.natAbs).length<=40000/\(aj a.den).length<=40000/\(aj b.num.natAbs).length<=40000/\(aj b.den).length<=40000 then some (.str (aJ (a*b))) else none
  |_,_=>none
 |f,args=>bX f args
theorem mN:afs prog (ai cp):=bT fun f U v h mem=>by
 unfold cp at h;split at h
 .split at h
  .rename_i m n X V
   split at h
   .rename_i Z
    cases h;rw[aF X,aF V];exact tL m n ⟨Z.1,Z.2.1⟩ ⟨Z.2.2.1,Z.2.2.2⟩ mem
   .cases h
  .cases h
 .split at h
  .rename_i m n X V
   split at h
   .rename_i Z
    cases h;rw[aF X,aF V];exact Pk m n ⟨Z.1,Z.2.1⟩ ⟨Z.2.2.1,Z.2.2.2⟩ mem
   .cases h
  .cases h
 .split at h
  .rename_i m n X V
   split at h
   .rename_i Z
    cases h;rw[aF X,aF V];exact PH m n ⟨Z.1,Z.2.1⟩ ⟨Z.2.2.1,Z.2.2.2⟩ mem
   .cases h
  .cases h
 .have:=kE.fn _ _ mem ⟨v,none,[]⟩ (by unfold ai;simp only;rw[h])
  simpa [afw.mem] using this
theorem P8(a b:Rat)(I:lD a)(H:lD b)(mem:Mem):
  bz prog 128 [.str (aJ a),.str (aJ b)] mem (.str (aJ (a-b))) mem:=by
 have Z:bq prog 128=some f128:=by kernel_rfl
 refine az mN ?_ mem;have X:=gh H;obtain⟨V,U⟩:=I;obtain⟨S,R⟩:=H;have e:a+ -b=a-b:=(Rat.sub_eq_add_neg a b).symm;simp[ad,Z,f128,ai,cp,bX,bO,aE,X,V,U,S,R,e]
theorem vj(h:0<b.num):b⁻¹.num=(b.den:Int)/\b⁻¹.den=b.num.natAbs:=by rw[Rat.num_inv,Rat.den_inv,Int.sign_eq_one_of_pos h,if_neg (by omega)];exact⟨Int.one_mul _,rfl⟩
theorem CV(h:b.num<0):b⁻¹.num= -(b.den:Int)/\b⁻¹.den=b.num.natAbs:=by rw[Rat.num_inv,Rat.den_inv,Int.sign_eq_neg_one_of_neg h,if_neg (by omega)];exact⟨by omega,rfl⟩
theorem Pr(a b:Rat)(H:b≠0)(ha:lD a)(I:lD b)(mem:Mem):
  bz prog 127 [.str (aJ a),.str (aJ b)] mem (.tuple [.str (aJ (a / b)),.int .i64 0]) mem:=by
 have C:bq prog 127=some f127:=by kernel_rfl
 refine az mN ?_ mem;have B:=gh I;obtain⟨y,u⟩:=ha;obtain⟨o,Y⟩:=I;have W:b.num≠0:=fun e=>H (qe.1 e)
 have R:(aJ b==[48])=false:=by rw[bk];simpa using H
 have e:a*b⁻¹=a / b:=(Rat.div_def a b).symm;obtain⟨m,X⟩:=xE b.num.natAbs;rw[<-X] at o;have J:(aj m).length<=1000000000:=by omega
 have M:(aj b.den).length<=1000000000:=by omega
 have fi:(aj b⁻¹.num.natAbs).length<=40000/\(aj b⁻¹.den).length<=40000:=by
  rcases Int.lt_or_gt_of_ne W with h | h
  .obtain⟨Q,V⟩:=CV h
   rw[Q,V,Int.natAbs_neg,Int.natAbs_natCast,<-X];exact⟨Y,o⟩
  .obtain⟨Q,V⟩:=vj h
   rw[Q,V,Int.natAbs_natCast,<-X];exact⟨Y,o⟩
 have K:=fun h=>CV (b:=b) h
 have G:=fun h=>vj (b:=b) h
 obtain⟨w,hw⟩:=xE (b⁻¹);rw[<-hw] at fi e K G;obtain⟨f1,f2⟩:=fi;rcases Int.lt_or_gt_of_ne W with h | h
 .obtain⟨Q,V⟩:=K h
  have F:(aJ b)[0]? =some 45:=by rw[iX h];rfl
  have U:bH (-b.num)=aj m:=by rw[gj (by omega),Int.natAbs_neg,X]
  have ln:(bH b.num).length<=1000000000:=by have:=du b.num;rw[<-X] at this;omega
  have N:(bH (-(b.den:Int))).length<=1000000000:=by have:=du (-(b.den:Int));rw[Int.natAbs_neg,Int.natAbs_natCast] at this;omega
  by_cases Z:m=1
  .have S:bH (-(b.den:Int))=aJ w:=by unfold aJ;rw[if_pos (by rw[V,<-X,Z]),Q]
   have O:=congrArg im S;rw[ax] at O;have O:=O.symm;have j:(aj 1).length<=1000000000:=by decide
   have lj:(aJ w).length<=1000000000:=by rw[<-S];first | exact N | exact M
   simp[ad,C,f127,R,ai,cp,bX,bO,cP,aU,aE,ax,bu,cM,B,F,U,ln,M,Z,S,O,j,lj,y,u,f1,f2,e]
  .have S:bH (-(b.den:Int))++47::aj m=aJ w:=by unfold aJ;rw[if_neg (by rw[V,<-X];exact Z),Q,V,<-X]
   simp[ad,C,f127,R,ai,cp,bX,bO,cP,aU,aE,ax,bu,cM,B,F,U,ln,N,J,M,Z,S,y,u,f1,f2,e]
 .obtain⟨Q,V⟩:=G h
  obtain⟨c,r,hc,hd⟩:=kP (q:=b) (by omega);have F:(aJ b)[0]? =some c:=by rw[hc];rfl
  have D:=ff hd;have U:bH b.num=aj m:=by rw[gj (by omega),X]
  by_cases Z:m=1
  .have S:bH (b.den:Int)=aJ w:=by unfold aJ;rw[if_pos (by rw[V,<-X,Z]),Q]
   have O:=congrArg im S;rw[ax] at O;have O:=O.symm;have j:(aj 1).length<=1000000000:=by decide
   have lj:(aJ w).length<=1000000000:=by rw[<-S];first | exact N | exact M
   simp[ad,C,f127,R,ai,cp,bX,bO,aE,bu,cM,B,F,D,U,M,Z,S,j,y,u,f1,f2,e]
  .have S:bH (b.den:Int)++47::aj m=aJ w:=by unfold aJ;rw[if_neg (by rw[V,<-X];exact Z),Q,V,<-X]
   simp[ad,C,f127,R,ai,cp,bX,bO,aE,bu,cM,B,F,D,U,J,M,Z,S,y,u,f1,f2,e]
variable{s:List UInt8}
theorem Lg(h:s.idxOf? 47=none):iz s=if okI s then 0 else 2:=by
 unfold iz dZ okI;rw[h];cases hn:im s with
 |none=>simp
 |some n=>
  have:(aj 1).length<=200:=by decide
  simp[this]
variable{i:Nat}
theorem Le(h:s.idxOf? 47=some i)(h1:okI (s.take i)=false):iz s=2:=by
 unfold iz dZ;rw[h];unfold okI at h1;cases hn:im (s.take i) with
 |none=>simp[hn]
 |some n=>
  rw[hn] at h1;simp only[decide_eq_false_iff_not] at h1;simp only[hn];cases hd:xF (s.drop (i+1)) with
  |none=>simp[]
  |some d=>
   simp only[Rx];by_cases Z:1<d/\n.natAbs.gcd d=1
   .rw[dif_pos Z]
    simp only;rw[if_neg (by intro h;exact h1 h.1)]
   .rw[dif_neg Z]
theorem Lf(h:s.idxOf? 47=some i)(h1:okI (s.drop (i+1))=false):iz s=2:=by
 unfold iz dZ;rw[h];unfold okI at h1;cases hn:im (s.take i) with
 |none=>simp[hn]
 |some n=>
  simp only[hn];cases hd:xF (s.drop (i+1)) with
  |none=>simp[]
  |some d=>
   rw[LM hd] at h1;simp only[decide_eq_false_iff_not,Int.natAbs_natCast] at h1;simp only[Rx];by_cases Z:1<d/\n.natAbs.gcd d=1
   .rw[dif_pos Z]
    simp only;rw[if_neg (by intro h;exact h1 h.2)]
   .rw[dif_neg Z]
theorem Fe{d:Int}(h:s.idxOf? 47=some i)(I:im (s.take i)=some n)(hd:im (s.drop (i+1))=some d)(H:(aj n.natAbs).length<=200)(hd2:(aj d.natAbs).length<=200):
  iz s=if 1<d/\n.natAbs.gcd d.natAbs=1 then 0 else 2:=by
 unfold iz dZ;rw[h];simp only[I];by_cases X:0<=d
 .rw[WC hd X]
  simp only[Rx];have e:d.toNat=d.natAbs:=by omega
  rw[e];by_cases Z:1<d/\n.natAbs.gcd d.natAbs=1
  .rw[if_pos Z,dif_pos ⟨by omega,Z.2⟩]
   simp only;rw[if_pos ⟨H,hd2⟩]
  .rw[if_neg Z,dif_neg (fun e=>Z ⟨by omega,e.2⟩)]
 .have:xF (s.drop (i+1))=none:=by
   cases hx:xF (s.drop (i+1)) with
   |none=>rfl
   |some u=>
    rw[LM hx] at hd;cases hd;omega
  rw[this];rw[if_neg (fun e=>by omega)]
theorem qO(s:List UInt8)(H:s.length<=1000000000)(mem:Mem):
  bz prog 86 [.str s] mem (.int .i64 (iz s)) mem:=by
 have R:bq prog 86=some f86:=by kernel_rfl
 refine az mN ?_ mem;have X:=jv s 47;cases hx:s.idxOf? 47 with
 |none=>
  rw[hx] at X;simp only at X;rw[Lg hx];cases ho:okI s with
  |true=>simp[ad,R,f86,ai,cp,bX,bO,cP,aU,aV,an,H,X,ss,ho]
  |false=>simp[ad,R,f86,ai,cp,bX,bO,cP,aU,aV,an,H,X,ss,ho]
 |some i=>
  rw[hx] at X;simp only at X;have Z:(0:Int)<=i:=by omega
  obtain⟨a,U⟩:=xE (s.take i);obtain⟨b,S⟩:=xE (s.drop (i+1));have N:a.length<=1000000000:=by rw[U,M0];omega
  have G:b.length<=1000000000:=by rw[S,QQh];omega
  cases ho:okI a with
  |false=>
   rw[Le hx (by rw[<-U];exact ho)];simp[ad,R,f86,ai,cp,bX,bO,cP,aU,aV,an,H,X,Z,<-U,<-S,N,ss,ho]
  |true=>
   cases ho2:okI b with
   |false=>
    rw[Lf hx (by rw[<-S];exact ho2)];simp[ad,R,f86,ai,cp,bX,bO,cP,aU,aV,an,H,X,Z,<-U,<-S,N,G,ss,ho,ho2]
   |true=>
    have M:∃n,im a=some n/\(aj n.natAbs).length<=200:=by
     unfold okI at ho;cases hx:im a with
     |none=>rw[hx] at ho;cases ho
     |some n=>rw[hx] at ho;exact⟨n,rfl,by simpa using ho⟩
    have Q:∃n,im b=some n/\(aj n.natAbs).length<=200:=by
     unfold okI at ho2;cases hx:im b with
     |none=>rw[hx] at ho2;cases ho2
     |some n=>rw[hx] at ho2;exact⟨n,rfl,by simpa using ho2⟩
    obtain⟨n,M,u⟩:=M;obtain⟨d,Q,d2⟩:=Q;rw[Fe hx (by rw[<-U];exact M) (by rw[<-S];exact Q) u d2];have D:im [49]=some 1:=rfl;have F:Mq d 1<=0↔¬1<d:=by
     unfold Mq;split
     .constructor<;>intro h<;>omega
     .split<;>constructor<;>intro h<;>omega
    have O:(a==[48])=decide (n=0):=by rw[bK M,fD]
    have y:(aj n.natAbs).length<=100000:=by omega
    have d3:(aj d.natAbs).length<=100000:=by omega
    by_cases C:1<d
    .have V :¬Mq d 1<=0:=fun e=>F.1 e C
     by_cases B:n=0
     .have K:¬n.natAbs.gcd d.natAbs=1:=by subst B;simp;omega
      rw[if_neg (fun e=>K e.2)];simp[ad,R,f86,ai,cp,bX,bO,cP,aU,aV,an,H,X,Z,<-U,<-S,N,G,ss,ho,ho2,Q,D,V,O,B]
     .by_cases K:n.natAbs.gcd d.natAbs=1
      .rw[if_pos ⟨C,K⟩]
       simp[ad,R,f86,ai,cp,bX,bO,cP,aU,aV,an,H,X,Z,<-U,<-S,N,G,ss,ho,ho2,M,Q,D,V,O,B,y,d3,fg,K]
      .rw[if_neg (fun e=>K e.2)]
       simp[ad,R,f86,ai,cp,bX,bO,cP,aU,aV,an,H,X,Z,<-U,<-S,N,G,ss,ho,ho2,M,Q,D,V,O,B,y,d3,fg,K]
    .have V :Mq d 1<=0:=F.2 C
     rw[if_neg (fun e=>C e.1)];simp[ad,R,f86,ai,cp,bX,bO,cP,aU,aV,an,H,X,Z,<-U,<-S,N,G,ss,ho,ho2,Q,D,V]
noncomputable def cq(f:FuncId)(args:List AV):Option AV:=
 match f,args with
 |86,[.str s]=>if s.length<=1000000000 then some (.int .i64 (iz s)) else none
 |128,[.str s,.str t]=>match dZ s,dZ t with
  |some a,some b=>if (aj a.num.natAbs).length<=40000/\(aj a.den).length<=40000/\(aj b.num.natAbs).length<=40000/\(aj b.den).length<=40000 then some (.str (aJ (a-b))) else none
  |_,_=>none
 |127,[.str s,.str t]=>match dZ s,dZ t with
  |some a,some b=>if b≠0/\(aj a.num.natAbs).length<=40000/\(aj a.den).length<=40000/\(aj b.num.natAbs).length<=40000/\(aj b.den).length<=40000 then some (.tuple [.str (aJ (a / b)),.int .i64 0]) else none
  |_,_=>none
 |f,args=>cp f args
theorem fc:afs prog (ai cq):=bT fun f U v h mem=>by
 unfold cq at h;split at h
 .split at h
  next Z=>cases h;exact qO _ Z mem
  .cases h
 .split at h
  .rename_i m n X V
   split at h
   next Z=>cases h;rw[aF X,aF V];exact P8 m n ⟨Z.1,Z.2.1⟩ ⟨Z.2.2.1,Z.2.2.2⟩ mem
   .cases h
  .cases h
 .split at h
  .rename_i m n X V
   split at h
   next Z=>cases h;rw[aF X,aF V];exact Pr m n Z.1 ⟨Z.2.1,Z.2.2.1⟩ ⟨Z.2.2.2.1,Z.2.2.2.2⟩ mem
   .cases h
  .cases h
 .have:=mN.fn _ _ mem ⟨v,none,[]⟩ (by unfold ai;simp only;rw[h])
  simpa [afw.mem] using this
theorem mT(h:iz s=0):∃q,dZ s=some q/\s=aJ q/\(aj q.num.natAbs).length<=200/\(aj q.den).length<=200:=by
 unfold iz at h;cases hq:dZ s with
 |none=>rw[hq] at h;cases h
 |some q=>
  rw[hq] at h;simp only at h;split at h
  next Z=>exact⟨q,rfl,aF hq,Z.1,Z.2⟩
  .cases h
end Go.Proofs
