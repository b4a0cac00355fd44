/- See D38. -/
import Derived.Test.YthpgbelancmpjaaGreatDoorD15
set_option linter.all false
set_option maxRecDepth 100000
set_option maxHeartbeats 40000000
namespace Go.Proofs
open Go.Eng
open Tryz
noncomputable def cM(f:FuncId)(args:List AV):Option AV:=
 match f,args with
 |204,[.str s,.str t]=>match iH s,iH t with
  |some m,some n=>if (ai m.natAbs).length<=100000/\(ai n.natAbs).length<=100000 then some (.str (bL (m+n))) else none
  |_,_=>none
 |133,[.str s,.str t]=>match iH s,iH t with
  |some m,some n=>if (ai m.natAbs).length<=100000/\(ai n.natAbs).length<=100000 then some (.str (bL (m*n))) else none
  |_,_=>none
 |208,[.str s,.str t]=>match iH s,xe t with
  |some m,some n=>if (ai m.natAbs).length<=100000/\(ai n).length<=100000/\0<n/\(0<=m\/m.natAbs%n=0) then some (.tuple [.str (bL (m / n)),.str (ai (m.natAbs%n)),.int .i64 0]) else none
  |_,_=>none
 |140,[.str s,.str t]=>match iH s,iH t with
  |some m,some n=>if (ai m.natAbs).length<=100000/\(ai n.natAbs).length<=100000 then some (.str (ai (m.natAbs.gcd n.natAbs))) else none
  |_,_=>none
 |138,[.str s]=>if s.length<=1000000000 then some (.int .i64 (if okT (Lib.hasPrefix s [45]) (Lib.trimPrefix s [45]) then 0 else 2)) else none
 |f,args=>aP f args
theorem Kf:qS prog (ag cM):=bP fun f U v h mem=>by
 unfold cM at h;split at h
 .split at h
  .rename_i m n X V
   split at h
   .rename_i Z
    cases h;rw[bK X,bK V];exact PF m n Z.1 Z.2 mem
   .cases h
  .cases h
 .split at h
  .rename_i m n X V
   split at h
   .rename_i Z
    cases h;rw[bK X,bK V];exact PZ m n Z.1 Z.2 mem
   .cases h
  .cases h
 .split at h
  .rename_i m n X V
   split at h
   .rename_i Z
    cases h;obtain⟨S,R,O,N⟩:=Z;rw[bK X,gN V];exact E8 m n O N S R mem
   .cases h
  .cases h
 .split at h
  .rename_i m n X V
   split at h
   .rename_i Z
    cases h;rw[bK X,bK V];exact PR m n Z.1 Z.2 mem
   .cases h
  .cases h
 .split at h
  .rename_i M
   cases h;exact Hk _ M mem
  .cases h
 .have:=yA.fn _ _ mem ⟨v,none,[]⟩ (by unfold ag;simp only;rw[h])
  simpa [afh.mem] using this
noncomputable def bz(f:FuncId)(args:List AV):Option AV:=
 match f,args with
 |129,[.str s]=>match dY s with
  |some q=>if s.length<=1000000000 then some (if (ai q.num.natAbs).length<=9/\(q.den=1\/(ai q.den).length<=9) then .tuple [.int .i64 q.num,.int .i64 q.den,.bool true] else .tuple [.int .i64 0,.int .i64 0,.bool false]) else none
  |none=>none
 |130,[.int .i64 n,.int .i64 d]=>if d.toNat≠0/\n.natAbs<=4611686018427387904/\0<=d/\d.toNat<=4611686018427387904 then some (.str (ao (mkRat n d.toNat))) else none
 |131,[.str s]=>match dY s with
  |some q=>if s.length<=1000000000 then some (.tuple [.str (bL q.num),.str (ai q.den)]) else none
  |none=>none
 |206,[.str s,.str t]=>match iH s,xe t with
  |some n,some d=>if s.length<=1000000000/\t.length<=1000000000 then some (.str (if d=1 then bL n else bL n++47::ai d)) else none
  |_,_=>none
 |81,[.str s]=>match dY s with
  |some q=>if s.length<=1000000000 then some (.str (ao (-q))) else none
  |none=>none
 |178,[.str s]=>match dY s with
  |some q=>some (.int .i64 (gd q))
  |none=>none
 |f,args=>cM f args
theorem yL:qS prog (ag bz):=bP fun f U v h mem=>by
 unfold bz at h;split at h
 .split at h
  .rename_i q X
   split at h
   .rename_i Z
    cases h;rw[au X] at Z |-;exact HN q Z mem
   .cases h
  .cases h
 .split at h
  .rename_i V
   obtain⟨S,R,O,N⟩:=V;cases h;have:=HW _ _ R S N mem;rw[QQd O] at this;rw[Rat.mkRat_def,dif_neg S];exact this
  .cases h
 .split at h
  .rename_i q X
   split at h
   .rename_i Z
    cases h;rw[au X] at Z |-;exact MS q Z mem
   .cases h
  .cases h
 .split at h
  .rename_i m n M L
   split at h
   .rename_i V
    cases h;rw[bK M,gN L] at V |-;exact PU m n V.1 V.2 mem
   .cases h
  .cases h
 .split at h
  .rename_i q X
   split at h
   .rename_i Z
    cases h;rw[au X] at Z |-;exact P4 q Z mem
   .cases h
  .cases h
 .split at h
  .rename_i q X
   cases h;rw[au X];exact A4 q mem
  .cases h
 .have:=Kf.fn _ _ mem ⟨v,none,[]⟩ (by unfold ag;simp only;rw[h])
  simpa [afh.mem] using this
theorem cI(u:Nat):iH (ai u)=some (u:Int):=aD (u:Int)
def ek(q:Rat):Prop:=(ai q.num.natAbs).length<=40000/\(ai q.den).length<=40000
variable{q:Rat}
theorem gD(h:ek q):(ao q).length<=1000000000:=by
 have:=dn q.num;have Z:=h.1;have X:=h.2;unfold ao;split
 .omega
 .simp only[SP,List.length_cons];omega
variable{d:Nat}
theorem td(n:Int)(hd:d≠0):ao (mkRat n d)=if d / n.natAbs.gcd d=1 then bL (n / (n.natAbs.gcd d:Nat)) else bL (n / (n.natAbs.gcd d:Nat))++47::ai (d / n.natAbs.gcd d):=by unfold ao;rw[Rat.num_mkRat,Rat.den_mkRat,if_neg hd,if_neg hd,Nat.gcd_comm d]
theorem fz(n:Nat):(ai n==[49])=decide (n=1):=by
 rw[Bool.eq_iff_iff,beq_iff_eq,Es];constructor
 .intro e;exact AI (e.trans (show [49]=ai 1 from rfl))
 .rintro rfl;rfl
theorem G9(h:d≠0):jB (d:Int)=1:=by unfold jB;rw[if_neg (by omega),if_neg (by omega)]
theorem HA(n:Int)(d:Nat)(hd:d≠0)(I:(ai n.natAbs).length<=100000)(H:(ai d).length<=100000)(mem:Mem):
  kO prog 132 [.str (bL n),.str (ai d)] mem (.str (ao (mkRat n d))) mem:=by
 have L:aX prog 132=some f132:=by kernel_rfl
 refine aA yL ?_ mem;rw[td n hd];have K:=G9 hd;have Z:0<n.natAbs.gcd d:=Nat.gcd_pos_of_pos_right _ (by omega);have X:n.natAbs.gcd d∣n.natAbs:=Nat.gcd_dvd_left _ _;have G:n.natAbs.gcd d∣d:=Nat.gcd_dvd_right _ _;have F:n.natAbs.gcd d<=d:=Nat.le_of_dvd (by omega) G;obtain⟨g,U⟩:=xE (n.natAbs.gcd d);rw[<-U] at Z X G F |-;have j:=dn n;have D:(bL n).length<=1000000000:=by omega
 have S:(ai d).length<=1000000000:=by omega
 by_cases V:g=1
 .have C:n / (g:Int)=n:=by rw[V];exact Int.ediv_one n
  have B:d / g=d:=by rw[V];exact Nat.div_one d
  rw[C,B];simp[aa,L,f132,ag,bz,cM,aP,aQ,cI,bq,aD,K,I,H,<-U,fz,V,D,S]
 .have R:(ai g).length<=100000:=by have:=bI F;omega
  have u:n.natAbs%g=0:=Nat.mod_eq_zero_of_dvd X;have O:bL ((d:Int) / (g:Int))=ai (d / g):=by rw[<-Int.natCast_ediv];rfl
  have o:(ai (n / (g:Int)).natAbs).length<=100000:=by have:=bI (Int.natAbs_ediv_le_natAbs n g);omega
  have m:=dn (n / (g:Int));have N:(bL (n / (g:Int))).length<=1000000000:=by omega
  have M:(ai (d / g)).length<=1000000000:=by have:=bI (Nat.div_le_self d g);omega
  simp[aa,L,f132,ag,bz,cM,aP,aQ,cI,bq,aD,K,I,H,<-U,fz,V,R,Z,u,O,N,M]
noncomputable def bE(f:FuncId)(args:List AV):Option AV:=
 match f,args with
 |132,[.str s,.str t]=>match iH s,xe t with
  |some n,some d=>if d≠0/\(ai n.natAbs).length<=100000/\(ai d).length<=100000 then some (.str (ao (mkRat n d))) else none
  |_,_=>none
 |f,args=>bz f args
theorem kG:qS prog (ag bE):=bP fun f X v h mem=>by
 unfold bE at h;split at h
 .split at h
  .rename_i m n V U
   split at h
   .rename_i Z
    cases h;rw[bK V,gN U];exact HA m n Z.1 Z.2.1 Z.2.2 mem
   .cases h
  .cases h
 .have:=yL.fn _ _ mem ⟨v,none,[]⟩ (by unfold ag;simp only;rw[h])
  simpa [afh.mem] using this
def qu(a b:Rat):Int:=Le (a.num*b.den) (b.num*a.den)
variable{a b:Rat}
theorem WO:qu a b<0↔a<b:=by
 rw[Rat.lt_iff];unfold qu Le;split
 .simp[*]
 .split<;>simp[*]
theorem B0:qu a b<=0↔a<=b:=by
 rw[Rat.le_iff];unfold qu Le;split
 .constructor<;>intro h<;>omega
 .split<;>constructor<;>intro h<;>omega
theorem G0(a b:Rat):(ao a==ao b)=decide (a=b):=by rw[Bool.eq_iff_iff,beq_iff_eq,Es];exact⟨eH,fun h=>by rw[h]⟩
def qk(q:Rat):Prop:=(ai q.num.natAbs).length<=9/\(q.den=1\/(ai q.den).length<=9)
theorem Rw(h:qk q):q.num.natAbs<10 ^ 9/\q.den<10 ^ 9:=by
 have Z:=cm q.num.natAbs;have X:=cm q.den;have h3:10 ^ (ai q.num.natAbs).length<=10 ^ 9:=P3 (by omega) h.1;refine⟨by omega,?_⟩;rcases h.2 with h4 | h4
 .omega
 .have V:10 ^ (ai q.den).length<=10 ^ 9:=P3 (by omega) h4
  omega
section
variable (ha:ek a)(hb:ek b)
include ha hb
theorem O3:(ai (a.num*(b.den:Int)).natAbs).length<=80000:=by rw[QQg,Int.natAbs_natCast];exact dE ha.1 hb.2
theorem Lq:(ai (a.den*b.den)).length<=80000:=dE ha.2 hb.2
theorem SY:(ai (a.num*b.num).natAbs).length<=80000:=by rw[QQg];exact dE ha.1 hb.1
end
theorem lH{α:Type}(h:¬qk q)(x y:α):(if (ai q.num.natAbs).length<=9/\(q.den=1\/(ai q.den).length<=9) then x else y)=y:=if_neg h
theorem eF{α:Type}(h:qk q)(x y:α):(if (ai q.num.natAbs).length<=9/\(q.den=1\/(ai q.den).length<=9) then x else y)=x:=if_pos h
theorem tH(a b:Rat)(H:ek a)(I:ek b)(mem:Mem):
  kO prog 136 [.str (ao a),.str (ao b)] mem (.int .i64 (qu a b)) mem:=by
 have S:aX prog 136=some f136:=by kernel_rfl
 refine aA kG ?_ mem;have O:=gD H;have N:=gD I;by_cases G:a=b
 .subst G
  have:qu a a=0:=by unfold qu Le;simp
  simp[aa,S,f136,this]
 .have Z:=G0 a b
  rw[decide_eq_false G] at Z;obtain⟨X,M⟩:=xE (a.num*(b.den:Int));obtain⟨Y,L⟩:=xE (b.num*(a.den:Int));have F:qu a b=Le X Y:=by unfold qu;rw[<-M,<-L]
  by_cases D:qk a/\qk b
  .obtain⟨V,R⟩:=D
   obtain⟨m,j⟩:=Rw V;obtain⟨W,J⟩:=Rw R;have x1:X.natAbs<10 ^ 9*10 ^ 9:=by rw[M];exact fU m (by simpa using J)
   have y1:Y.natAbs<10 ^ 9*10 ^ 9:=by rw[L];exact fU W (by simpa using j)
   have w1:IntKind.i64.wrap (a.num*(b.den:Int))=X:=by rw[<-M];exact af
   have w2:IntKind.i64.wrap (b.num*(a.den:Int))=Y:=by rw[<-L];exact af
   rw[F];unfold Le;by_cases U:X<Y
   .simp[aa,S,f136,Z,ag,bE,bz,aB,O,N,eF V,eF R,w1,w2,U]
   .by_cases K:Y<X
    .simp[aa,S,f136,Z,ag,bE,bz,aB,O,N,eF V,eF R,w1,w2,U,K]
    .simp[aa,S,f136,Z,ag,bE,bz,aB,O,N,eF V,eF R,w1,w2,U,K]
  .rw[F]
   have C:(ai a.num.natAbs).length<=100000:=by have:=H.1;omega
   have B:(ai a.den).length<=100000:=by have:=H.2;omega
   have u:(ai b.num.natAbs).length<=100000:=by have:=I.1;omega
   have o:(ai b.den).length<=100000:=by have:=I.2;omega
   by_cases V:qk a
   .have R:¬qk b:=fun h=>D ⟨V,h⟩
    simp[aa,S,f136,Z,ag,bE,bz,cM,aP,aB,aD,cI,O,N,eF V,lH R,C,B,u,o,<-M,<-L]
   .simp[aa,S,f136,Z,ag,bE,bz,cM,aP,aB,aD,cI,O,N,lH V,C,B,u,o,<-M,<-L]
theorem mV(q:Rat):(ao q==[49])=decide (q=1):=by
 have:=G0 q 1
 rwa [show ao 1=[49] from rfl] at this
theorem PG(a b:Rat)(H:ek a)(I:ek b)(mem:Mem):
  kO prog 126 [.str (ao a),.str (ao b)] mem (.str (ao (a+b))) mem:=by
 have O:aX prog 126=some f126:=by kernel_rfl
 refine aA kG ?_ mem;have G:=gD H;have F:=gD I;by_cases N:a=0
 .subst N
  have:ao 0=[48]:=rfl;simp[aa,O,f126,this,Rat.zero_add]
 by_cases L:b=0
 .subst L
  have:ao 0=[48]:=rfl;simp[aa,O,f126,this,be,N,Rat.add_zero]
 have pa:=a.den_pos;have pb:=b.den_pos;have Z:a.den*b.den≠0:=Nat.mul_ne_zero a.den_nz b.den_nz;have C:=Rat.add_def' a b;obtain⟨X,V⟩:=xE (a.num*(b.den:Int));obtain⟨Y,U⟩:=xE (b.num*(a.den:Int));obtain⟨D,S⟩:=xE (a.den*b.den);rw[<-V,<-U,<-S] at C;rw[<-S] at Z;rw[C];by_cases B:qk a/\qk b
 .obtain⟨R,K⟩:=B
  obtain⟨a1,u⟩:=Rw R;obtain⟨b1,o⟩:=Rw K;have m:X.natAbs<10 ^ 9*10 ^ 9:=by rw[V];exact fU a1 (by simpa using o)
  have j:Y.natAbs<10 ^ 9*10 ^ 9:=by rw[U];exact fU b1 (by simpa using u)
  have d1:D<10 ^ 9*10 ^ 9:=by rw[S];exact Nat.mul_lt_mul'' u o
  have w1:IntKind.i64.wrap (a.num*(b.den:Int))=X:=by rw[<-V];exact af
  have w2:IntKind.i64.wrap (b.num*(a.den:Int))=Y:=by rw[<-U];exact af
  have w3:IntKind.i64.wrap (X+Y)=X+Y:=af;have w4:IntKind.i64.wrap ((a.den:Int)*(b.den:Int))=(D:Int):=by rw[<-Int.natCast_mul,<-S];exact af
  have c1:(X+Y).natAbs<=4611686018427387904:=by omega
  have c2:D<=4611686018427387904:=by omega
  simp[aa,O,f126,be,N,L,ag,bE,bz,aB,G,F,eF R,eF K,w1,w2,w3,w4,Z,c1,c2]
 .have W:(ai a.num.natAbs).length<=100000:=by have:=H.1;omega
  have J:(ai a.den).length<=100000:=by have:=H.2;omega
  have s3:(ai b.num.natAbs).length<=100000:=by have:=I.1;omega
  have s4:(ai b.den).length<=100000:=by have:=I.2;omega
  have m:(ai X.natAbs).length<=80000:=by rw[V];exact O3 H I
  have j:(ai Y.natAbs).length<=80000:=by rw[U];exact O3 I H
  have s5:(ai X.natAbs).length<=100000:=by omega
  have s6:(ai Y.natAbs).length<=100000:=by omega
  have s7:(ai (X+Y).natAbs).length<=100000:=by have h1:=jP m j;have h2:=bI (Int.natAbs_add_le X Y);omega
  have s8:(ai D).length<=100000:=by
   have:(ai D).length<=80000:=by rw[S];exact Lq H I
   omega
  have M:bL ((a.den:Int)*(b.den:Int))=ai D:=by rw[<-Int.natCast_mul,<-S];rfl
  by_cases R:qk a
  .have K:¬qk b:=fun h=>B ⟨R,h⟩
   simp[aa,O,f126,be,N,L,ag,bE,bz,cM,aB,aD,cI,bq,G,F,eF R,lH K,W,J,s3,s4,<-V,<-U,s5,s6,s7,s8,M,Z]
  .simp[aa,O,f126,be,N,L,ag,bE,bz,cM,aB,aD,cI,bq,G,F,lH R,W,J,s3,s4,<-V,<-U,s5,s6,s7,s8,M,Z]
theorem P0(a b:Rat)(H:ek a)(I:ek b)(mem:Mem):
  kO prog 82 [.str (ao a),.str (ao b)] mem (.str (ao (a*b))) mem:=by
 have S:aX prog 82=some f82:=by kernel_rfl
 refine aA kG ?_ mem;have F:=gD H;have C:=gD I;have B:ao 0=[48]:=rfl;have u:ao 1=[49]:=rfl;by_cases R:a=0
 .subst R
  simp[aa,S,f82,B,Rat.zero_mul]
 by_cases L:b=0
 .subst L
  simp[aa,S,f82,B,be,R,Rat.mul_zero]
 by_cases Z:a=1
 .subst Z
  simp[aa,S,f82,u,be,L,Rat.one_mul]
 by_cases V:b=1
 .subst V
  simp[aa,S,f82,u,be,mV,R,Z,Rat.mul_one]
 have pa:=a.den_pos;have pb:=b.den_pos;have U:a.den*b.den≠0:=Nat.mul_ne_zero a.den_nz b.den_nz;have o:=Rat.mul_def' a b;obtain⟨X,O⟩:=xE (a.num*b.num);obtain⟨D,N⟩:=xE (a.den*b.den);rw[<-O,<-N] at o;rw[<-N] at U;rw[o];by_cases m:qk a/\qk b
 .obtain⟨M,G⟩:=m
  obtain⟨a1,a2⟩:=Rw M;obtain⟨b1,b2⟩:=Rw G;have x1:X.natAbs<10 ^ 9*10 ^ 9:=by rw[O];exact fU a1 b1
  have d1:D<10 ^ 9*10 ^ 9:=by rw[N];exact Nat.mul_lt_mul'' a2 b2
  have w1:IntKind.i64.wrap (a.num*b.num)=X:=by rw[<-O];exact af
  have w4:IntKind.i64.wrap ((a.den:Int)*(b.den:Int))=(D:Int):=by rw[<-Int.natCast_mul,<-N];exact af
  have c1:X.natAbs<=4611686018427387904:=by omega
  have c2:D<=4611686018427387904:=by omega
  simp[aa,S,f82,be,mV,R,L,Z,V,ag,bE,bz,aB,F,C,eF M,eF G,w1,w4,U,c1,c2]
 .have j:(ai a.num.natAbs).length<=100000:=by have:=H.1;omega
  have Y:(ai a.den).length<=100000:=by have:=H.2;omega
  have W:(ai b.num.natAbs).length<=100000:=by have:=I.1;omega
  have J:(ai b.den).length<=100000:=by have:=I.2;omega
  have x1:(ai X.natAbs).length<=80000:=by rw[O];exact SY H I
  have s5:(ai X.natAbs).length<=100000:=by omega
  have s8:(ai D).length<=100000:=by
   have:(ai D).length<=80000:=by rw[N];exact Lq H I
   omega
  have K:bL ((a.den:Int)*(b.den:Int))=ai D:=by rw[<-Int.natCast_mul,<-N];rfl
  by_cases M:qk a
  .have G:¬qk b:=fun h=>m ⟨M,h⟩
   simp[aa,S,f82,be,mV,R,L,Z,V,ag,bE,bz,cM,aB,aD,cI,bq,F,C,eF M,lH G,j,Y,W,J,<-O,s5,s8,K,U]
  .simp[aa,S,f82,be,mV,R,L,Z,V,ag,bE,bz,cM,aB,aD,cI,bq,F,C,lH M,j,Y,W,J,<-O,s5,s8,K,U]
theorem TI(t:List UInt8):okT false t=(decide (t.length<=200)&&gK t):=by
 cases t with
 |nil=>rfl
 |cons c r=>
  unfold okT gK;simp only[List.length_cons,Bool.or_false,QQb];rw[Bool.eq_iff_iff];simp;cases r with
  |nil=>simp
  |cons x r=>simp;grind
theorem VR(t:List UInt8):okT true t=(decide (t.length<=200)&&gK t&& !(t.head? ==some 48)):=by
 cases t with
 |nil=>rfl
 |cons c r=>
  unfold okT gK;simp only[List.length_cons,Bool.or_true,Bool.and_true,QQb,List.head?_cons];rw[Bool.eq_iff_iff];simp
  grind
def okI(s:List UInt8):Bool:=match iH s with
 |some n=>decide ((ai n.natAbs).length<=200)
 |none=>false
theorem ED(r:List UInt8):iH (45::r)=match xe r with
  |some (u+1)=>some (Int.negSucc u)
  |_=>none:=rfl
variable{t:List UInt8}
theorem EE(h:∀r,t≠45::r):iH t=(xe t).map Int.ofNat:=by
 unfold iH;split
 next r=>exact absurd rfl (h r)
 .cases xe t<;>rfl
theorem AK(h:gK t=true):xe t=some (fl t):=by unfold xe;rw[if_pos h]
theorem GU(h:gK t=false):xe t=none:=by unfold xe;rw[h];rfl
theorem si(s:List UInt8):okT (Lib.hasPrefix s [45]) (Lib.trimPrefix s [45])=okI s:=by
 unfold Lib.trimPrefix;have Z:∀t:List UInt8,(∀r,t≠45::r)->okT false t=okI t:=by
  intro t U;rw[TI];unfold okI;rw[EE U];cases hc:gK t with
  |true=>
   have:=sh hc;rw[AK hc];show _=decide ((ai (Int.ofNat (fl t)).natAbs).length<=200)
   rw[show(Int.ofNat (fl t)).natAbs=fl t from rfl,this,Bool.and_true]
  |false=>
   rw[GU hc,Bool.and_false];rfl
 cases s with
 |nil=>rw[show Lib.hasPrefix [] [45]=false from rfl];exact Z [] (by simp)
 |cons c r=>
  by_cases h:c=45
  .subst h
   rw[show Lib.hasPrefix (45::r) [45]=true by simp[Lib.hasPrefix,List.isPrefixOf]];simp only[if_true,List.length_singleton,List.drop_succ_cons,List.drop_zero];rw[VR];unfold okI;rw[ED];cases hc:gK r with
   |true=>
    rw[AK hc,Bool.and_true];have X:=sh hc;cases hvd:fl r with
    |zero=>
     rw[hvd,iY] at X;rw[<-X];rfl
    |succ u=>
     rw[hvd] at X;have V:=wN (u+1) (by omega);rw[X] at V;show _=decide ((ai (Int.negSucc u).natAbs).length<=200)
     rw[show(Int.negSucc u).natAbs=u+1 from rfl,X];have:(r.head? ==some 48)=false:=by simpa using V
     rw[this];simp
   |false=>
    rw[GU hc];simp
  .have S:Lib.hasPrefix (c::r) [45]=false:=by
    have R :¬(45:UInt8)=c:=fun e=>h e.symm
    simp[Lib.hasPrefix,List.isPrefixOf,R]
   rw[S];exact Z (c::r) (by intro O e;exact h (List.cons.inj e).1)
variable{n:Int}{r:List UInt8}
theorem VC(h:iH r=some n)(H:0<=n):xe r=some n.toNat:=by rw[bK h,gF H,bq];congr 1;omega
theorem LM{n:Nat}(h:xe r=some n):iH r=some (n:Int):=by rw[gN h];exact cI n
theorem jH:∀(s:List UInt8) (c:UInt8),Lib.indexByte s c=match s.idxOf? c with
  |some i=>(i:Int)
  |none=> -1
 | [],_=>rfl
 |b::l,c=>by
  unfold Lib.indexByte;rw[List.idxOf?_cons,jH l c];by_cases h:b=c
  .subst h;simp
  .have Z :(b==c)=false:=by simpa using h
   rw[Z];simp only[Bool.false_eq_true,if_false];cases l.idxOf? c with
   |none=>simp
   |some i=>
    have X:¬(((i:Int)== -1)=true):=by rw[beq_iff_eq];omega
    simp only[Option.map_some];rw[if_neg X,Int.natCast_add];rfl
def yT(s:List UInt8):Int:=match dY s with
 |some q=>if (ai q.num.natAbs).length<=200/\(ai q.den).length<=200 then 0 else 2
 |none=>2
noncomputable def aV(f:FuncId)(args:List AV):Option AV:=
 match f,args with
 |136,[.str s,.str t]=>match dY s,dY t with
  |some a,some b=>if (ai a.num.natAbs).length<=40000/\(ai a.den).length<=40000/\(ai b.num.natAbs).length<=40000/\(ai b.den).length<=40000 then some (.int .i64 (qu a b)) else none
  |_,_=>none
 |126,[.str s,.str t]=>match dY s,dY t with
  |some a,some b=>if (ai a.num.natAbs).length<=40000/\(ai a.den).length<=40000/\(ai b.num.natAbs).length<=40000/\(ai b.den).length<=40000 then some (.str (ao (a+b))) else none
  |_,_=>none
 |82,[.str s,.str t]=>match dY s,dY t with
  |some a,some b=>if (ai a.num.natAbs).length<=40000/\(ai a.den).length<=40000/\(ai b.num.natAbs).length<=40000/\(ai b.den).length<=40000 then some (.str (ao (a*b))) else none
  |_,_=>none
 |f,args=>bE f args
theorem kH:qS prog (ag aV):=bP fun f U v h mem=>by
 unfold aV at h;split at h
 .split at h
  .rename_i m n X V
   split at h
   .rename_i Z
    cases h;rw[au X,au V];exact tH m n ⟨Z.1,Z.2.1⟩ ⟨Z.2.2.1,Z.2.2.2⟩ mem
   .cases h
  .cases h
 .split at h
  .rename_i m n X V
   split at h
   .rename_i Z
    cases h;rw[au X,au V];exact PG m n ⟨Z.1,Z.2.1⟩ ⟨Z.2.2.1,Z.2.2.2⟩ mem
   .cases h
  .cases h
 .split at h
  .rename_i m n X V
   split at h
   .rename_i Z
    cases h;rw[au X,au V];exact P0 m n ⟨Z.1,Z.2.1⟩ ⟨Z.2.2.1,Z.2.2.2⟩ mem
   .cases h
  .cases h
 .have:=kG.fn _ _ mem ⟨v,none,[]⟩ (by unfold ag;simp only;rw[h])
  simpa [afh.mem] using this
theorem Qk(a b:Rat)(I:ek a)(H:ek b)(mem:Mem):
  kO prog 128 [.str (ao a),.str (ao b)] mem (.str (ao (a-b))) mem:=by
 have Z:aX prog 128=some f128:=by kernel_rfl
 refine aA kH ?_ mem;have X:=gD H;obtain⟨V,U⟩:=I;obtain⟨S,R⟩:=H;have e:a+ -b=a-b:=(Rat.sub_eq_add_neg a b).symm;simp[aa,Z,f128,ag,aV,bE,bz,aB,X,V,U,S,R,e]
theorem uU(h:0<b.num):b⁻¹.num=(b.den:Int)/\b⁻¹.den=b.num.natAbs:=by rw[Rat.num_inv,Rat.den_inv,Int.sign_eq_one_of_pos h,if_neg (by omega)];exact⟨Int.one_mul _,rfl⟩
theorem Cg(h:b.num<0):b⁻¹.num= -(b.den:Int)/\b⁻¹.den=b.num.natAbs:=by rw[Rat.num_inv,Rat.den_inv,Int.sign_eq_neg_one_of_neg h,if_neg (by omega)];exact⟨by omega,rfl⟩
theorem PK(a b:Rat)(H:b≠0)(ha:ek a)(I:ek b)(mem:Mem):
  kO prog 127 [.str (ao a),.str (ao b)] mem (.tuple [.str (ao (a / b)),.int .i64 0]) mem:=by
 have C:aX prog 127=some f127:=by kernel_rfl
 refine aA kH ?_ mem;have B:=gD I;obtain⟨u,o⟩:=ha;obtain⟨j,W⟩:=I;have J:b.num≠0:=fun e=>H (mQ.1 e)
 have U:(ao b==[48])=false:=by rw[be];simpa using H
 have e:a*b⁻¹=a / b:=(Rat.div_def a b).symm;obtain⟨m,Z⟩:=xE b.num.natAbs;rw[<-Z] at j;have lm:(ai m).length<=1000000000:=by omega
 have M:(ai b.den).length<=1000000000:=by omega
 have fi:(ai b⁻¹.num.natAbs).length<=40000/\(ai b⁻¹.den).length<=40000:=by
  rcases Int.lt_or_gt_of_ne J with h | h
  .obtain⟨S,X⟩:=Cg h
   rw[S,X,Int.natAbs_neg,Int.natAbs_natCast,<-Z];exact⟨W,j⟩
  .obtain⟨S,X⟩:=uU h
   rw[S,X,Int.natAbs_natCast,<-Z];exact⟨W,j⟩
 have L:=fun h=>Cg (b:=b) h
 have K:=fun h=>uU (b:=b) h
 obtain⟨w,hw⟩:=xE (b⁻¹);rw[<-hw] at fi e L K;obtain⟨f1,f2⟩:=fi;rcases Int.lt_or_gt_of_ne J with h | h
 .obtain⟨S,X⟩:=L h
  have G:(ao b)[0]? =some 45:=by rw[jq h];rfl
  have F:bL (-b.num)=ai m:=by rw[gF (by omega),Int.natAbs_neg,Z]
  have ln:(bL b.num).length<=1000000000:=by have:=dn b.num;rw[<-Z] at this;omega
  have N:(bL (-(b.den:Int))).length<=1000000000:=by have:=dn (-(b.den:Int));rw[Int.natAbs_neg,Int.natAbs_natCast] at this;omega
  by_cases R:m=1
  .have V:bL (-(b.den:Int))=ao w:=by unfold ao;rw[if_pos (by rw[X,<-Z,R]),S]
   have O:=congrArg iH V;rw[aD] at O;have O:=O.symm;have Y:(ai 1).length<=1000000000:=by decide
   have lj:(ao w).length<=1000000000:=by rw[<-V];first | exact N | exact M
   simp[aa,C,f127,U,ag,aV,bE,bz,cM,aP,aB,aD,bq,cI,B,G,F,ln,M,R,V,O,Y,lj,u,o,f1,f2,e]
  .have V:bL (-(b.den:Int))++47::ai m=ao w:=by unfold ao;rw[if_neg (by rw[X,<-Z];exact R),S,X,<-Z]
   simp[aa,C,f127,U,ag,aV,bE,bz,cM,aP,aB,aD,bq,cI,B,G,F,ln,N,lm,M,R,V,u,o,f1,f2,e]
 .obtain⟨S,X⟩:=K h
  obtain⟨c,r,hc,hd⟩:=kU (q:=b) (by omega);have G:(ao b)[0]? =some c:=by rw[hc];rfl
  have D:=fy hd;have F:bL b.num=ai m:=by rw[gF (by omega),Z]
  by_cases R:m=1
  .have V:bL (b.den:Int)=ao w:=by unfold ao;rw[if_pos (by rw[X,<-Z,R]),S]
   have O:=congrArg iH V;rw[aD] at O;have O:=O.symm;have Y:(ai 1).length<=1000000000:=by decide
   have lj:(ao w).length<=1000000000:=by rw[<-V];first | exact N | exact M
   simp[aa,C,f127,U,ag,aV,bE,bz,aB,bq,cI,B,G,D,F,M,R,V,Y,u,o,f1,f2,e]
  .have V:bL (b.den:Int)++47::ai m=ao w:=by unfold ao;rw[if_neg (by rw[X,<-Z];exact R),S,X,<-Z]
   simp[aa,C,f127,U,ag,aV,bE,bz,aB,bq,cI,B,G,D,F,lm,M,R,V,u,o,f1,f2,e]
variable{s:List UInt8}
theorem Ld(h:s.idxOf? 47=none):yT s=if okI s then 0 else 2:=by
 unfold yT dY okI;rw[h];cases hn:iH s with
 |none=>simp
 |some n=>
  have:(ai 1).length<=200:=by decide
  simp[this]
variable{i:Nat}
theorem Lb(h:s.idxOf? 47=some i)(h1:okI (s.take i)=false):yT s=2:=by
 unfold yT dY;rw[h];unfold okI at h1;cases hn:iH (s.take i) with
 |none=>simp[hn]
 |some n=>
  rw[hn] at h1;simp only[decide_eq_false_iff_not] at h1;simp only[hn];cases hd:xe (s.drop (i+1)) with
  |none=>simp[]
  |some d=>
   simp only[Rx];by_cases Z:1<d/\n.natAbs.gcd d=1
   .rw[dif_pos Z]
    simp only;rw[if_neg (by intro h;exact h1 h.1)]
   .rw[dif_neg Z]
theorem Lc(h:s.idxOf? 47=some i)(h1:okI (s.drop (i+1))=false):yT s=2:=by
 unfold yT dY;rw[h];unfold okI at h1;cases hn:iH (s.take i) with
 |none=>simp[hn]
 |some n=>
  simp only[hn];cases hd:xe (s.drop (i+1)) with
  |none=>simp[]
  |some d=>
   rw[LM hd] at h1;simp only[decide_eq_false_iff_not,Int.natAbs_natCast] at h1;simp only[Rx];by_cases Z:1<d/\n.natAbs.gcd d=1
   .rw[dif_pos Z]
    simp only;rw[if_neg (by intro h;exact h1 h.2)]
   .rw[dif_neg Z]
theorem Ep{d:Int}(h:s.idxOf? 47=some i)(I:iH (s.take i)=some n)(hd:iH (s.drop (i+1))=some d)(H:(ai n.natAbs).length<=200)(hd2:(ai d.natAbs).length<=200):
  yT s=if 1<d/\n.natAbs.gcd d.natAbs=1 then 0 else 2:=by
 unfold yT dY;rw[h];simp only[I];by_cases X:0<=d
 .rw[VC hd X]
  simp only[Rx];have e:d.toNat=d.natAbs:=by omega
  rw[e];by_cases Z:1<d/\n.natAbs.gcd d.natAbs=1
  .rw[if_pos Z,dif_pos ⟨by omega,Z.2⟩]
   simp only;rw[if_pos ⟨H,hd2⟩]
  .rw[if_neg Z,dif_neg (fun e=>Z ⟨by omega,e.2⟩)]
 .have:xe (s.drop (i+1))=none:=by
   cases hx:xe (s.drop (i+1)) with
   |none=>rfl
   |some u=>
    rw[LM hx] at hd;cases hd;omega
  rw[this];rw[if_neg (fun e=>by omega)]
theorem qz(s:List UInt8)(H:s.length<=1000000000)(mem:Mem):
  kO prog 86 [.str s] mem (.int .i64 (yT s)) mem:=by
 have R:aX prog 86=some f86:=by kernel_rfl
 refine aA kH ?_ mem;have X:=jH s 47;cases hx:s.idxOf? 47 with
 |none=>
  rw[hx] at X;simp only at X;rw[Ld hx];cases ho:okI s with
  |true=>simp[aa,R,f86,ag,aV,bE,bz,cM,aP,aQ,ak,H,X,si,ho]
  |false=>simp[aa,R,f86,ag,aV,bE,bz,cM,aP,aQ,ak,H,X,si,ho]
 |some i=>
  rw[hx] at X;simp only at X;have Z:(0:Int)<=i:=by omega
  obtain⟨a,U⟩:=xE (s.take i);obtain⟨b,S⟩:=xE (s.drop (i+1));have N:a.length<=1000000000:=by rw[U,S2];omega
  have K:b.length<=1000000000:=by rw[S,QQj];omega
  cases ho:okI a with
  |false=>
   rw[Lb hx (by rw[<-U];exact ho)];simp[aa,R,f86,ag,aV,bE,bz,cM,aP,aQ,ak,H,X,Z,<-U,<-S,N,si,ho]
  |true=>
   cases ho2:okI b with
   |false=>
    rw[Lc hx (by rw[<-S];exact ho2)];simp[aa,R,f86,ag,aV,bE,bz,cM,aP,aQ,ak,H,X,Z,<-U,<-S,N,K,si,ho,ho2]
   |true=>
    have M:∃n,iH a=some n/\(ai n.natAbs).length<=200:=by
     unfold okI at ho;cases hx:iH a with
     |none=>rw[hx] at ho;cases ho
     |some n=>rw[hx] at ho;exact⟨n,rfl,by simpa using ho⟩
    have O:∃n,iH b=some n/\(ai n.natAbs).length<=200:=by
     unfold okI at ho2;cases hx:iH b with
     |none=>rw[hx] at ho2;cases ho2
     |some n=>rw[hx] at ho2;exact⟨n,rfl,by simpa using ho2⟩
    obtain⟨n,M,o⟩:=M;obtain⟨d,O,d2⟩:=O;rw[Ep hx (by rw[<-U];exact M) (by rw[<-S];exact O) o d2];have F:iH [49]=some 1:=rfl;have G:Le d 1<=0↔¬1<d:=by
     unfold Le;split
     .constructor<;>intro h<;>omega
     .split<;>constructor<;>intro h<;>omega
    have B:(a==[48])=decide (n=0):=by rw[bK M,fT]
    have u:(ai n.natAbs).length<=100000:=by omega
    have d3:(ai d.natAbs).length<=100000:=by omega
    by_cases D:1<d
    .have V :¬Le d 1<=0:=fun e=>G.1 e D
     by_cases C:n=0
     .have L:¬n.natAbs.gcd d.natAbs=1:=by subst C;simp;omega
      rw[if_neg (fun e=>L e.2)];simp[aa,R,f86,ag,aV,bE,bz,cM,aP,aQ,ak,H,X,Z,<-U,<-S,N,K,si,ho,ho2,O,F,V,B,C]
     .by_cases L:n.natAbs.gcd d.natAbs=1
      .rw[if_pos ⟨D,L⟩]
       simp[aa,R,f86,ag,aV,bE,bz,cM,aP,aQ,ak,H,X,Z,<-U,<-S,N,K,si,ho,ho2,M,O,F,V,B,C,u,d3,fz,L]
      .rw[if_neg (fun e=>L e.2)]
       simp[aa,R,f86,ag,aV,bE,bz,cM,aP,aQ,ak,H,X,Z,<-U,<-S,N,K,si,ho,ho2,M,O,F,V,B,C,u,d3,fz,L]
    .have V :Le d 1<=0:=G.2 D
     rw[if_neg (fun e=>D e.1)];simp[aa,R,f86,ag,aV,bE,bz,cM,aP,aQ,ak,H,X,Z,<-U,<-S,N,K,si,ho,ho2,O,F,V]
noncomputable def aT(f:FuncId)(args:List AV):Option AV:=
 match f,args with
 |86,[.str s]=>if s.length<=1000000000 then some (.int .i64 (yT s)) else none
 |128,[.str s,.str t]=>match dY s,dY t with
  |some a,some b=>if (ai a.num.natAbs).length<=40000/\(ai a.den).length<=40000/\(ai b.num.natAbs).length<=40000/\(ai b.den).length<=40000 then some (.str (ao (a-b))) else none
  |_,_=>none
 |127,[.str s,.str t]=>match dY s,dY t with
  |some a,some b=>if b≠0/\(ai a.num.natAbs).length<=40000/\(ai a.den).length<=40000/\(ai b.num.natAbs).length<=40000/\(ai b.den).length<=40000 then some (.tuple [.str (ao (a / b)),.int .i64 0]) else none
  |_,_=>none
 |f,args=>aV f args
theorem cQ:qS prog (ag aT):=bP fun f U v h mem=>by
 unfold aT at h;split at h
 .split at h
  next Z=>cases h;exact qz _ Z mem
  .cases h
 .split at h
  .rename_i m n X V
   split at h
   next Z=>cases h;rw[au X,au V];exact Qk m n ⟨Z.1,Z.2.1⟩ ⟨Z.2.2.1,Z.2.2.2⟩ mem
   .cases h
  .cases h
 .split at h
  .rename_i m n X V
   split at h
   next Z=>cases h;rw[au X,au V];exact PK m n Z.1 ⟨Z.2.1,Z.2.2.1⟩ ⟨Z.2.2.2.1,Z.2.2.2.2⟩ mem
   .cases h
  .cases h
 .have:=kH.fn _ _ mem ⟨v,none,[]⟩ (by unfold ag;simp only;rw[h])
  simpa [afh.mem] using this
theorem Vr(h:yT s=0):∃q,dY s=some q/\s=ao q/\(ai q.num.natAbs).length<=200/\(ai q.den).length<=200:=by
 unfold yT at h;cases hq:dY s with
 |none=>rw[hq] at h;cases h
 |some q=>
  rw[hq] at h;simp only at h;split at h
  next Z=>exact⟨q,rfl,au hq,Z.1,Z.2⟩
  .cases h
end Go.Proofs
