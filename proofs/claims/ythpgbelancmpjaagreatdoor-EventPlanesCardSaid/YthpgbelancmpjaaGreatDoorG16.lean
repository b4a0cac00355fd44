/- See G38. -/
import Derived.Test.YthpgbelancmpjaaGreatDoorG15
set_option linter.all false
set_option maxRecDepth 100000
set_option maxHeartbeats 40000000
namespace Go.Proofs
open Go.Eng
open Tryz
noncomputable def cP(f:FuncId)(args:List AV):Option AV:=
 match f,args with
 |204,[.str s,.str t]=>match iE s,iE t with
  |some m,some n=>if (ai m.natAbs).length<=100000/\(ai n.natAbs).length<=100000 then some (.str (bF (m+n))) else none
  |_,_=>none
 |133,[.str s,.str t]=>match iE s,iE t with
  |some m,some n=>if (ai m.natAbs).length<=100000/\(ai n.natAbs).length<=100000 then some (.str (bF (m*n))) else none
  |_,_=>none
 |208,[.str s,.str t]=>match iE s,xq t with
  |some m,some n=>if (ai m.natAbs).length<=100000/\(ai n).length<=100000/\0<n/\(0<=m\/m.natAbs%n=0) then some (.tuple [.str (bF (m / n)),.str (ai (m.natAbs%n)),.int .i64 0]) else none
  |_,_=>none
 |140,[.str s,.str t]=>match iE s,iE t with
  |some m,some n=>if (ai m.natAbs).length<=100000/\(ai n.natAbs).length<=100000 then some (.str (ai (m.natAbs.gcd n.natAbs))) else none
  |_,_=>none
 |138,[.str s]=>if s.length<=1000000000 then some (.int .i64 (if okT (Lib.hasPrefix s [45]) (Lib.trimPrefix s [45]) then 0 else 2)) else none
 |f,args=>aP f args
theorem Km:qS prog (ah cP):=bM fun f U v h mem=>by
 unfold cP at h;split at h
 .split at h
  .rename_i m n X V
   split at h
   .rename_i Z
    cases h;rw[bE X,bE V];exact PR m n Z.1 Z.2 mem
   .cases h
  .cases h
 .split at h
  .rename_i m n X V
   split at h
   .rename_i Z
    cases h;rw[bE X,bE V];exact Qd m n Z.1 Z.2 mem
   .cases h
  .cases h
 .split at h
  .rename_i m n X V
   split at h
   .rename_i Z
    cases h;obtain⟨S,R,O,N⟩:=Z;rw[bE X,gK V];exact Fm m n O N S R mem
   .cases h
  .cases h
 .split at h
  .rename_i m n X V
   split at h
   .rename_i Z
    cases h;rw[bE X,bE V];exact P5 m n Z.1 Z.2 mem
   .cases h
  .cases h
 .split at h
  .rename_i M
   cases h;exact Hx _ M mem
  .cases h
 .have:=yQ.fn _ _ mem ⟨v,none,[]⟩ (by unfold ah;simp only;rw[h])
  simpa [afl.mem] using this
noncomputable def bG(f:FuncId)(args:List AV):Option AV:=
 match f,args with
 |129,[.str s]=>match eh s with
  |some q=>if s.length<=1000000000 then some (if (ai q.num.natAbs).length<=9/\(q.den=1\/(ai q.den).length<=9) then .tuple [.int .i64 q.num,.int .i64 q.den,.bool true] else .tuple [.int .i64 0,.int .i64 0,.bool false]) else none
  |none=>none
 |130,[.int .i64 n,.int .i64 d]=>if d.toNat≠0/\n.natAbs<=4611686018427387904/\0<=d/\d.toNat<=4611686018427387904 then some (.str (aq (mkRat n d.toNat))) else none
 |131,[.str s]=>match eh s with
  |some q=>if s.length<=1000000000 then some (.tuple [.str (bF q.num),.str (ai q.den)]) else none
  |none=>none
 |206,[.str s,.str t]=>match iE s,xq t with
  |some n,some d=>if s.length<=1000000000/\t.length<=1000000000 then some (.str (if d=1 then bF n else bF n++47::ai d)) else none
  |_,_=>none
 |81,[.str s]=>match eh s with
  |some q=>if s.length<=1000000000 then some (.str (aq (-q))) else none
  |none=>none
 |178,[.str s]=>match eh s with
  |some q=>some (.int .i64 (ga q))
  |none=>none
 |f,args=>cP f args
theorem zc:qS prog (ah bG):=bM fun f U v h mem=>by
 unfold bG at h;split at h
 .split at h
  .rename_i q X
   split at h
   .rename_i Z
    cases h;rw[aw X] at Z |-;exact H3 q Z mem
   .cases h
  .cases h
 .split at h
  .rename_i V
   obtain⟨S,R,O,N⟩:=V;cases h;have:=Ie _ _ R S N mem;rw[QQi O] at this;rw[Rat.mkRat_def,dif_neg S];exact this
  .cases h
 .split at h
  .rename_i q X
   split at h
   .rename_i Z
    cases h;rw[aw X] at Z |-;exact MY q Z mem
   .cases h
  .cases h
 .split at h
  .rename_i m n M L
   split at h
   .rename_i V
    cases h;rw[bE M,gK L] at V |-;exact P7 m n V.1 V.2 mem
   .cases h
  .cases h
 .split at h
  .rename_i q X
   split at h
   .rename_i Z
    cases h;rw[aw X] at Z |-;exact Qf q Z mem
   .cases h
  .cases h
 .split at h
  .rename_i q X
   cases h;rw[aw X];exact Bh q mem
  .cases h
 .have:=Km.fn _ _ mem ⟨v,none,[]⟩ (by unfold ah;simp only;rw[h])
  simpa [afl.mem] using this
theorem cK(u:Nat):iE (ai u)=some (u:Int):=aD (u:Int)
def fI(q:Rat):Prop:=(ai q.num.natAbs).length<=40000/\(ai q.den).length<=40000
variable{q:Rat}
theorem gC(h:fI q):(aq q).length<=1000000000:=by
 have:=dj q.num;have Z:=h.1;have X:=h.2;unfold aq;split
 .omega
 .simp only[Qs,List.length_cons];omega
variable{d:Nat}
theorem tn(n:Int)(hd:d≠0):aq (mkRat n d)=if d / n.natAbs.gcd d=1 then bF (n / (n.natAbs.gcd d:Nat)) else bF (n / (n.natAbs.gcd d:Nat))++47::ai (d / n.natAbs.gcd d):=by unfold aq;rw[Rat.num_mkRat,Rat.den_mkRat,if_neg hd,if_neg hd,Nat.gcd_comm d]
theorem fy(n:Nat):(ai n==[49])=decide (n=1):=by
 rw[Bool.eq_iff_iff,beq_iff_eq,GE];constructor
 .intro e;exact AW (e.trans (show [49]=ai 1 from rfl))
 .rintro rfl;rfl
theorem Ho(h:d≠0):jz (d:Int)=1:=by unfold jz;rw[if_neg (by omega),if_neg (by omega)]
theorem HM(n:Int)(d:Nat)(hd:d≠0)(I:(ai n.natAbs).length<=100000)(H:(ai d).length<=100000)(mem:Mem):
  kO prog 132 [.str (bF n),.str (ai d)] mem (.str (aq (mkRat n d))) mem:=by
 have L:aZ prog 132=some f132:=by kernel_rfl
 refine aA zc ?_ mem;rw[tn n hd];have K:=Ho hd;have Z:0<n.natAbs.gcd d:=Nat.gcd_pos_of_pos_right _ (by omega);have X:n.natAbs.gcd d∣n.natAbs:=Nat.gcd_dvd_left _ _;have G:n.natAbs.gcd d∣d:=Nat.gcd_dvd_right _ _;have F:n.natAbs.gcd d<=d:=Nat.le_of_dvd (by omega) G;obtain⟨g,U⟩:=xE (n.natAbs.gcd d);rw[<-U] at Z X G F |-;have C:=dj n;have B:(bF n).length<=1000000000:=by omega
 have S:(ai d).length<=1000000000:=by omega
 by_cases V:g=1
 .have u:n / (g:Int)=n:=by rw[V];exact Int.ediv_one n
  have o:d / g=d:=by rw[V];exact Nat.div_one d
  rw[u,o];simp[ae,L,f132,ah,bG,cP,aP,aS,cK,bk,aD,K,I,H,<-U,fy,V,B,S]
 .have R:(ai g).length<=100000:=by have:=bB F;omega
  have m:n.natAbs%g=0:=Nat.mod_eq_zero_of_dvd X;have O:bF ((d:Int) / (g:Int))=ai (d / g):=by rw[<-Int.natCast_ediv];rfl
  have j:(ai (n / (g:Int)).natAbs).length<=100000:=by have:=bB (Int.natAbs_ediv_le_natAbs n g);omega
  have Y:=dj (n / (g:Int));have N:(bF (n / (g:Int))).length<=1000000000:=by omega
  have M:(ai (d / g)).length<=1000000000:=by have:=bB (Nat.div_le_self d g);omega
  simp[ae,L,f132,ah,bG,cP,aP,aS,cK,bk,aD,K,I,H,<-U,fy,V,R,Z,m,O,N,M]
noncomputable def bO(f:FuncId)(args:List AV):Option AV:=
 match f,args with
 |132,[.str s,.str t]=>match iE s,xq t with
  |some n,some d=>if d≠0/\(ai n.natAbs).length<=100000/\(ai d).length<=100000 then some (.str (aq (mkRat n d))) else none
  |_,_=>none
 |f,args=>bG f args
theorem kF:qS prog (ah bO):=bM fun f X v h mem=>by
 unfold bO at h;split at h
 .split at h
  .rename_i m n V U
   split at h
   .rename_i Z
    cases h;rw[bE V,gK U];exact HM m n Z.1 Z.2.1 Z.2.2 mem
   .cases h
  .cases h
 .have:=zc.fn _ _ mem ⟨v,none,[]⟩ (by unfold ah;simp only;rw[h])
  simpa [afl.mem] using this
def AL(a b:Rat):Int:=MG (a.num*b.den) (b.num*a.den)
variable{a b:Rat}
theorem Oe:AL a b<=0↔a<=b:=by
 rw[Rat.le_iff];unfold AL MG;split
 .constructor<;>intro h<;>omega
 .split<;>constructor<;>intro h<;>omega
theorem He(a b:Rat):(aq a==aq b)=decide (a=b):=by rw[Bool.eq_iff_iff,beq_iff_eq,GE];exact⟨dy,fun h=>by rw[h]⟩
def qk(q:Rat):Prop:=(ai q.num.natAbs).length<=9/\(q.den=1\/(ai q.den).length<=9)
theorem RH(h:qk q):q.num.natAbs<10 ^ 9/\q.den<10 ^ 9:=by
 have Z:=cq q.num.natAbs;have X:=cq q.den;have h3:10 ^ (ai q.num.natAbs).length<=10 ^ 9:=P3 (by omega) h.1;refine⟨by omega,?_⟩;rcases h.2 with h4 | h4
 .omega
 .have V:10 ^ (ai q.den).length<=10 ^ 9:=P3 (by omega) h4
  omega
section
variable (ha:fI a)(hb:fI b)
include ha hb
theorem Pe:(ai (a.num*(b.den:Int)).natAbs).length<=80000:=by rw[QQl,Int.natAbs_natCast];exact dH ha.1 hb.2
theorem LL:(ai (a.den*b.den)).length<=80000:=dH ha.2 hb.2
theorem Tj:(ai (a.num*b.num).natAbs).length<=80000:=by rw[QQl];exact dH ha.1 hb.1
end
theorem lG{α:Type}(h:¬qk q)(x y:α):(if (ai q.num.natAbs).length<=9/\(q.den=1\/(ai q.den).length<=9) then x else y)=y:=if_neg h
theorem ez{α:Type}(h:qk q)(x y:α):(if (ai q.num.natAbs).length<=9/\(q.den=1\/(ai q.den).length<=9) then x else y)=x:=if_pos h
theorem tH(a b:Rat)(H:fI a)(I:fI b)(mem:Mem):
  kO prog 136 [.str (aq a),.str (aq b)] mem (.int .i64 (AL a b)) mem:=by
 have S:aZ prog 136=some f136:=by kernel_rfl
 refine aA kF ?_ mem;have O:=gC H;have N:=gC I;by_cases G:a=b
 .subst G
  have:AL a a=0:=by unfold AL MG;simp
  simp[ae,S,f136,this]
 .have Z:=He a b
  rw[decide_eq_false G] at Z;obtain⟨X,M⟩:=xE (a.num*(b.den:Int));obtain⟨Y,L⟩:=xE (b.num*(a.den:Int));have F:AL a b=MG X Y:=by unfold AL;rw[<-M,<-L]
  by_cases C:qk a/\qk b
  .obtain⟨V,R⟩:=C
   obtain⟨j,J⟩:=RH V;obtain⟨b1,b2⟩:=RH R;have x1:X.natAbs<10 ^ 9*10 ^ 9:=by rw[M];exact fV j (by simpa using b2)
   have y1:Y.natAbs<10 ^ 9*10 ^ 9:=by rw[L];exact fV b1 (by simpa using J)
   have w1:IntKind.i64.wrap (a.num*(b.den:Int))=X:=by rw[<-M];exact af
   have w2:IntKind.i64.wrap (b.num*(a.den:Int))=Y:=by rw[<-L];exact af
   rw[F];unfold MG;by_cases U:X<Y
   .simp[ae,S,f136,Z,ah,bO,bG,aF,O,N,ez V,ez R,w1,w2,U]
   .by_cases K:Y<X
    .simp[ae,S,f136,Z,ah,bO,bG,aF,O,N,ez V,ez R,w1,w2,U,K]
    .simp[ae,S,f136,Z,ah,bO,bG,aF,O,N,ez V,ez R,w1,w2,U,K]
  .rw[F]
   have B:(ai a.num.natAbs).length<=100000:=by have:=H.1;omega
   have u:(ai a.den).length<=100000:=by have:=H.2;omega
   have o:(ai b.num.natAbs).length<=100000:=by have:=I.1;omega
   have m:(ai b.den).length<=100000:=by have:=I.2;omega
   by_cases V:qk a
   .have R:¬qk b:=fun h=>C ⟨V,h⟩
    simp[ae,S,f136,Z,ah,bO,bG,cP,aP,aF,aD,cK,O,N,ez V,lG R,B,u,o,m,<-M,<-L]
   .simp[ae,S,f136,Z,ah,bO,bG,cP,aP,aF,aD,cK,O,N,lG V,B,u,o,m,<-M,<-L]
theorem mQ(q:Rat):(aq q==[49])=decide (q=1):=by
 have:=He q 1
 rwa [show aq 1=[49] from rfl] at this
theorem PT(a b:Rat)(H:fI a)(I:fI b)(mem:Mem):
  kO prog 126 [.str (aq a),.str (aq b)] mem (.str (aq (a+b))) mem:=by
 have N:aZ prog 126=some f126:=by kernel_rfl
 refine aA kF ?_ mem;have F:=gC H;have C:=gC I;by_cases Z:a=0
 .subst Z
  have:aq 0=[48]:=rfl;simp[ae,N,f126,this,Rat.zero_add]
 by_cases K:b=0
 .subst K
  have:aq 0=[48]:=rfl;simp[ae,N,f126,this,ba,Z,Rat.add_zero]
 have pa:=a.den_pos;have pb:=b.den_pos;have V:a.den*b.den≠0:=Nat.mul_ne_zero a.den_nz b.den_nz;have M:=Rat.add_def' a b;obtain⟨X,U⟩:=xE (a.num*(b.den:Int));obtain⟨Y,S⟩:=xE (b.num*(a.den:Int));obtain⟨D,R⟩:=xE (a.den*b.den);rw[<-U,<-S,<-R] at M;rw[<-R] at V;rw[M];by_cases B:qk a/\qk b
 .obtain⟨O,G⟩:=B
  obtain⟨a1,u⟩:=RH O;obtain⟨b1,o⟩:=RH G;have m:X.natAbs<10 ^ 9*10 ^ 9:=by rw[U];exact fV a1 (by simpa using o)
  have j:Y.natAbs<10 ^ 9*10 ^ 9:=by rw[S];exact fV b1 (by simpa using u)
  have d1:D<10 ^ 9*10 ^ 9:=by rw[R];exact Nat.mul_lt_mul'' u o
  have w1:IntKind.i64.wrap (a.num*(b.den:Int))=X:=by rw[<-U];exact af
  have w2:IntKind.i64.wrap (b.num*(a.den:Int))=Y:=by rw[<-S];exact af
  have w3:IntKind.i64.wrap (X+Y)=X+Y:=af;have w4:IntKind.i64.wrap ((a.den:Int)*(b.den:Int))=(D:Int):=by rw[<-Int.natCast_mul,<-R];exact af
  have c1:(X+Y).natAbs<=4611686018427387904:=by omega
  have c2:D<=4611686018427387904:=by omega
  simp[ae,N,f126,ba,Z,K,ah,bO,bG,aF,F,C,ez O,ez G,w1,w2,w3,w4,V,c1,c2]
 .have J:(ai a.num.natAbs).length<=100000:=by have:=H.1;omega
  have s2:(ai a.den).length<=100000:=by have:=H.2;omega
  have s3:(ai b.num.natAbs).length<=100000:=by have:=I.1;omega
  have s4:(ai b.den).length<=100000:=by have:=I.2;omega
  have m:(ai X.natAbs).length<=80000:=by rw[U];exact Pe H I
  have j:(ai Y.natAbs).length<=80000:=by rw[S];exact Pe I H
  have s5:(ai X.natAbs).length<=100000:=by omega
  have s6:(ai Y.natAbs).length<=100000:=by omega
  have s7:(ai (X+Y).natAbs).length<=100000:=by have h1:=jL m j;have h2:=bB (Int.natAbs_add_le X Y);omega
  have s8:(ai D).length<=100000:=by
   have:(ai D).length<=80000:=by rw[R];exact LL H I
   omega
  have L:bF ((a.den:Int)*(b.den:Int))=ai D:=by rw[<-Int.natCast_mul,<-R];rfl
  by_cases O:qk a
  .have G:¬qk b:=fun h=>B ⟨O,h⟩
   simp[ae,N,f126,ba,Z,K,ah,bO,bG,cP,aF,aD,cK,bk,F,C,ez O,lG G,J,s2,s3,s4,<-U,<-S,s5,s6,s7,s8,L,V]
  .simp[ae,N,f126,ba,Z,K,ah,bO,bG,cP,aF,aD,cK,bk,F,C,lG O,J,s2,s3,s4,<-U,<-S,s5,s6,s7,s8,L,V]
theorem Qe(a b:Rat)(H:fI a)(I:fI b)(mem:Mem):
  kO prog 82 [.str (aq a),.str (aq b)] mem (.str (aq (a*b))) mem:=by
 have R:aZ prog 82=some f82:=by kernel_rfl
 refine aA kF ?_ mem;have C:=gC H;have B:=gC I;have u:aq 0=[48]:=rfl;have o:aq 1=[49]:=rfl;by_cases Z:a=0
 .subst Z
  simp[ae,R,f82,u,Rat.zero_mul]
 by_cases L:b=0
 .subst L
  simp[ae,R,f82,u,ba,Z,Rat.mul_zero]
 by_cases V:a=1
 .subst V
  simp[ae,R,f82,o,ba,L,Rat.one_mul]
 by_cases U:b=1
 .subst U
  simp[ae,R,f82,o,ba,mQ,Z,V,Rat.mul_one]
 have pa:=a.den_pos;have pb:=b.den_pos;have S:a.den*b.den≠0:=Nat.mul_ne_zero a.den_nz b.den_nz;have K:=Rat.mul_def' a b;obtain⟨X,O⟩:=xE (a.num*b.num);obtain⟨D,N⟩:=xE (a.den*b.den);rw[<-O,<-N] at K;rw[<-N] at S;rw[K];by_cases m:qk a/\qk b
 .obtain⟨M,F⟩:=m
  obtain⟨a1,a2⟩:=RH M;obtain⟨b1,b2⟩:=RH F;have x1:X.natAbs<10 ^ 9*10 ^ 9:=by rw[O];exact fV a1 b1
  have d1:D<10 ^ 9*10 ^ 9:=by rw[N];exact Nat.mul_lt_mul'' a2 b2
  have w1:IntKind.i64.wrap (a.num*b.num)=X:=by rw[<-O];exact af
  have w4:IntKind.i64.wrap ((a.den:Int)*(b.den:Int))=(D:Int):=by rw[<-Int.natCast_mul,<-N];exact af
  have c1:X.natAbs<=4611686018427387904:=by omega
  have c2:D<=4611686018427387904:=by omega
  simp[ae,R,f82,ba,mQ,Z,L,V,U,ah,bO,bG,aF,C,B,ez M,ez F,w1,w4,S,c1,c2]
 .have j:(ai a.num.natAbs).length<=100000:=by have:=H.1;omega
  have Y:(ai a.den).length<=100000:=by have:=H.2;omega
  have J:(ai b.num.natAbs).length<=100000:=by have:=I.1;omega
  have s4:(ai b.den).length<=100000:=by have:=I.2;omega
  have x1:(ai X.natAbs).length<=80000:=by rw[O];exact Tj H I
  have s5:(ai X.natAbs).length<=100000:=by omega
  have s8:(ai D).length<=100000:=by
   have:(ai D).length<=80000:=by rw[N];exact LL H I
   omega
  have G:bF ((a.den:Int)*(b.den:Int))=ai D:=by rw[<-Int.natCast_mul,<-N];rfl
  by_cases M:qk a
  .have F:¬qk b:=fun h=>m ⟨M,h⟩
   simp[ae,R,f82,ba,mQ,Z,L,V,U,ah,bO,bG,cP,aF,aD,cK,bk,C,B,ez M,lG F,j,Y,J,s4,<-O,s5,s8,G,S]
  .simp[ae,R,f82,ba,mQ,Z,L,V,U,ah,bO,bG,cP,aF,aD,cK,bk,C,B,lG M,j,Y,J,s4,<-O,s5,s8,G,S]
theorem TU(t:List UInt8):okT false t=(decide (t.length<=200)&&gJ t):=by
 cases t with
 |nil=>rfl
 |cons c r=>
  unfold okT gJ;simp only[List.length_cons,Bool.or_false,QQg];rw[Bool.eq_iff_iff];simp;cases r with
  |nil=>simp
  |cons x r=>simp;grind
theorem V0(t:List UInt8):okT true t=(decide (t.length<=200)&&gJ t&& !(t.head? ==some 48)):=by
 cases t with
 |nil=>rfl
 |cons c r=>
  unfold okT gJ;simp only[List.length_cons,Bool.or_true,Bool.and_true,QQg,List.head?_cons];rw[Bool.eq_iff_iff];simp
  grind
def okI(s:List UInt8):Bool:=match iE s with
 |some n=>decide ((ai n.natAbs).length<=200)
 |none=>false
theorem ER(r:List UInt8):iE (45::r)=match xq r with
  |some (u+1)=>some (Int.negSucc u)
  |_=>none:=rfl
variable{t:List UInt8}
theorem ES(h:∀r,t≠45::r):iE t=(xq t).map Int.ofNat:=by
 unfold iE;split
 next r=>exact absurd rfl (h r)
 .cases xq t<;>rfl
theorem AY(h:gJ t=true):xq t=some (fg t):=by unfold xq;rw[if_pos h]
theorem G9(h:gJ t=false):xq t=none:=by unfold xq;rw[h];rfl
theorem sk(s:List UInt8):okT (Lib.hasPrefix s [45]) (Lib.trimPrefix s [45])=okI s:=by
 unfold Lib.trimPrefix;have Z:∀t:List UInt8,(∀r,t≠45::r)->okT false t=okI t:=by
  intro t U;rw[TU];unfold okI;rw[ES U];cases hc:gJ t with
  |true=>
   have:=sj hc;rw[AY hc];show _=decide ((ai (Int.ofNat (fg t)).natAbs).length<=200)
   rw[show(Int.ofNat (fg t)).natAbs=fg t from rfl,this,Bool.and_true]
  |false=>
   rw[G9 hc,Bool.and_false];rfl
 cases s with
 |nil=>rw[show Lib.hasPrefix [] [45]=false from rfl];exact Z [] (by simp)
 |cons c r=>
  by_cases h:c=45
  .subst h
   rw[show Lib.hasPrefix (45::r) [45]=true by simp[Lib.hasPrefix,List.isPrefixOf]];simp only[if_true,List.length_singleton,List.drop_succ_cons,List.drop_zero];rw[V0];unfold okI;rw[ER];cases hc:gJ r with
   |true=>
    rw[AY hc,Bool.and_true];have X:=sj hc;cases hvd:fg r with
    |zero=>
     rw[hvd,iV] at X;rw[<-X];rfl
    |succ u=>
     rw[hvd] at X;have V:=wZ (u+1) (by omega);rw[X] at V;show _=decide ((ai (Int.negSucc u).natAbs).length<=200)
     rw[show(Int.negSucc u).natAbs=u+1 from rfl,X];have:(r.head? ==some 48)=false:=by simpa using V
     rw[this];simp
   |false=>
    rw[G9 hc];simp
  .have S:Lib.hasPrefix (c::r) [45]=false:=by
    have R :¬(45:UInt8)=c:=fun e=>h e.symm
    simp[Lib.hasPrefix,List.isPrefixOf,R]
   rw[S];exact Z (c::r) (by intro O e;exact h (List.cons.inj e).1)
variable{n:Int}{r:List UInt8}
theorem VP(h:iE r=some n)(H:0<=n):xq r=some n.toNat:=by rw[bE h,gE H,bk];congr 1;omega
theorem L8{n:Nat}(h:xq r=some n):iE r=some (n:Int):=by rw[gK h];exact cK n
theorem jG:∀(s:List UInt8) (c:UInt8),Lib.indexByte s c=match s.idxOf? c with
  |some i=>(i:Int)
  |none=> -1
 | [],_=>rfl
 |b::l,c=>by
  unfold Lib.indexByte;rw[List.idxOf?_cons,jG l c];by_cases h:b=c
  .subst h;simp
  .have Z :(b==c)=false:=by simpa using h
   rw[Z];simp only[Bool.false_eq_true,if_false];cases l.idxOf? c with
   |none=>simp
   |some i=>
    have X:¬(((i:Int)== -1)=true):=by rw[beq_iff_eq];omega
    simp only[Option.map_some];rw[if_neg X,Int.natCast_add];rfl
def zj(s:List UInt8):Int:=match eh s with
 |some q=>if (ai q.num.natAbs).length<=200/\(ai q.den).length<=200 then 0 else 2
 |none=>2
noncomputable def bH(f:FuncId)(args:List AV):Option AV:=
 match f,args with
 |136,[.str s,.str t]=>match eh s,eh t with
  |some a,some b=>if (ai a.num.natAbs).length<=40000/\(ai a.den).length<=40000/\(ai b.num.natAbs).length<=40000/\(ai b.den).length<=40000 then some (.int .i64 (AL a b)) else none
  |_,_=>none
 |126,[.str s,.str t]=>match eh s,eh t with
  |some a,some b=>if (ai a.num.natAbs).length<=40000/\(ai a.den).length<=40000/\(ai b.num.natAbs).length<=40000/\(ai b.den).length<=40000 then some (.str (aq (a+b))) else none
  |_,_=>none
 |82,[.str s,.str t]=>match eh s,eh t with
  |some a,some b=>if (ai a.num.natAbs).length<=40000/\(ai a.den).length<=40000/\(ai b.num.natAbs).length<=40000/\(ai b.den).length<=40000 then some (.str (aq (a*b))) else none
  |_,_=>none
 |f,args=>bO f args
theorem mG:qS prog (ah bH):=bM fun f U v h mem=>by
 unfold bH at h;split at h
 .split at h
  .rename_i m n X V
   split at h
   .rename_i Z
    cases h;rw[aw X,aw V];exact tH m n ⟨Z.1,Z.2.1⟩ ⟨Z.2.2.1,Z.2.2.2⟩ mem
   .cases h
  .cases h
 .split at h
  .rename_i m n X V
   split at h
   .rename_i Z
    cases h;rw[aw X,aw V];exact PT m n ⟨Z.1,Z.2.1⟩ ⟨Z.2.2.1,Z.2.2.2⟩ mem
   .cases h
  .cases h
 .split at h
  .rename_i m n X V
   split at h
   .rename_i Z
    cases h;rw[aw X,aw V];exact Qe m n ⟨Z.1,Z.2.1⟩ ⟨Z.2.2.1,Z.2.2.2⟩ mem
   .cases h
  .cases h
 .have:=kF.fn _ _ mem ⟨v,none,[]⟩ (by unfold ah;simp only;rw[h])
  simpa [afl.mem] using this
theorem QB(a b:Rat)(I:fI a)(H:fI b)(mem:Mem):
  kO prog 128 [.str (aq a),.str (aq b)] mem (.str (aq (a-b))) mem:=by
 have Z:aZ prog 128=some f128:=by kernel_rfl
 refine aA mG ?_ mem;have X:=gC H;obtain⟨V,U⟩:=I;obtain⟨S,R⟩:=H;have e:a+ -b=a-b:=(Rat.sub_eq_add_neg a b).symm;simp[ae,Z,f128,ah,bH,bO,bG,aF,X,V,U,S,R,e]
theorem ve(h:0<b.num):b⁻¹.num=(b.den:Int)/\b⁻¹.den=b.num.natAbs:=by rw[Rat.num_inv,Rat.den_inv,Int.sign_eq_one_of_pos h,if_neg (by omega)];exact⟨Int.one_mul _,rfl⟩
theorem Ct(h:b.num<0):b⁻¹.num= -(b.den:Int)/\b⁻¹.den=b.num.natAbs:=by rw[Rat.num_inv,Rat.den_inv,Int.sign_eq_neg_one_of_neg h,if_neg (by omega)];exact⟨by omega,rfl⟩
theorem PX(a b:Rat)(H:b≠0)(ha:fI a)(I:fI b)(mem:Mem):
  kO prog 127 [.str (aq a),.str (aq b)] mem (.tuple [.str (aq (a / b)),.int .i64 0]) mem:=by
 have B:aZ prog 127=some f127:=by kernel_rfl
 refine aA mG ?_ mem;have u:=gC I;obtain⟨o,j⟩:=ha;obtain⟨Y,b2⟩:=I;have hn:b.num≠0:=fun e=>H (mO.1 e)
 have U:(aq b==[48])=false:=by rw[ba];simpa using H
 have e:a*b⁻¹=a / b:=(Rat.div_def a b).symm;obtain⟨m,Z⟩:=xE b.num.natAbs;rw[<-Z] at Y;have lm:(ai m).length<=1000000000:=by omega
 have M:(ai b.den).length<=1000000000:=by omega
 have fi:(ai b⁻¹.num.natAbs).length<=40000/\(ai b⁻¹.den).length<=40000:=by
  rcases Int.lt_or_gt_of_ne hn with h | h
  .obtain⟨S,X⟩:=Ct h
   rw[S,X,Int.natAbs_neg,Int.natAbs_natCast,<-Z];exact⟨b2,Y⟩
  .obtain⟨S,X⟩:=ve h
   rw[S,X,Int.natAbs_natCast,<-Z];exact⟨b2,Y⟩
 have L:=fun h=>Ct (b:=b) h
 have K:=fun h=>ve (b:=b) h
 obtain⟨w,hw⟩:=xE (b⁻¹);rw[<-hw] at fi e L K;obtain⟨f1,f2⟩:=fi;rcases Int.lt_or_gt_of_ne hn with h | h
 .obtain⟨S,X⟩:=L h
  have G:(aq b)[0]? =some 45:=by rw[jl h];rfl
  have F:bF (-b.num)=ai m:=by rw[gE (by omega),Int.natAbs_neg,Z]
  have ln:(bF b.num).length<=1000000000:=by have:=dj b.num;rw[<-Z] at this;omega
  have N:(bF (-(b.den:Int))).length<=1000000000:=by have:=dj (-(b.den:Int));rw[Int.natAbs_neg,Int.natAbs_natCast] at this;omega
  by_cases R:m=1
  .have V:bF (-(b.den:Int))=aq w:=by unfold aq;rw[if_pos (by rw[X,<-Z,R]),S]
   have O:=congrArg iE V;rw[aD] at O;have O:=O.symm;have J:(ai 1).length<=1000000000:=by decide
   have lj:(aq w).length<=1000000000:=by rw[<-V];first | exact N | exact M
   simp[ae,B,f127,U,ah,bH,bO,bG,cP,aP,aF,aD,bk,cK,u,G,F,ln,M,R,V,O,J,lj,o,j,f1,f2,e]
  .have V:bF (-(b.den:Int))++47::ai m=aq w:=by unfold aq;rw[if_neg (by rw[X,<-Z];exact R),S,X,<-Z]
   simp[ae,B,f127,U,ah,bH,bO,bG,cP,aP,aF,aD,bk,cK,u,G,F,ln,N,lm,M,R,V,o,j,f1,f2,e]
 .obtain⟨S,X⟩:=K h
  obtain⟨c,r,hc,hd⟩:=kX (q:=b) (by omega);have G:(aq b)[0]? =some c:=by rw[hc];rfl
  have C:=fv hd;have F:bF b.num=ai m:=by rw[gE (by omega),Z]
  by_cases R:m=1
  .have V:bF (b.den:Int)=aq w:=by unfold aq;rw[if_pos (by rw[X,<-Z,R]),S]
   have O:=congrArg iE V;rw[aD] at O;have O:=O.symm;have J:(ai 1).length<=1000000000:=by decide
   have lj:(aq w).length<=1000000000:=by rw[<-V];first | exact N | exact M
   simp[ae,B,f127,U,ah,bH,bO,bG,aF,bk,cK,u,G,C,F,M,R,V,J,o,j,f1,f2,e]
  .have V:bF (b.den:Int)++47::ai m=aq w:=by unfold aq;rw[if_neg (by rw[X,<-Z];exact R),S,X,<-Z]
   simp[ae,B,f127,U,ah,bH,bO,bG,aF,bk,cK,u,G,C,F,lm,M,R,V,o,j,f1,f2,e]
variable{s:List UInt8}
theorem Lr(h:s.idxOf? 47=none):zj s=if okI s then 0 else 2:=by
 unfold zj eh okI;rw[h];cases hn:iE s with
 |none=>simp
 |some n=>
  have:(ai 1).length<=200:=by decide
  simp[this]
variable{i:Nat}
theorem Lp(h:s.idxOf? 47=some i)(h1:okI (s.take i)=false):zj s=2:=by
 unfold zj eh;rw[h];unfold okI at h1;cases hn:iE (s.take i) with
 |none=>simp[hn]
 |some n=>
  rw[hn] at h1;simp only[decide_eq_false_iff_not] at h1;simp only[hn];cases hd:xq (s.drop (i+1)) with
  |none=>simp[]
  |some d=>
   simp only[RI];by_cases Z:1<d/\n.natAbs.gcd d=1
   .rw[dif_pos Z]
    simp only;rw[if_neg (by intro h;exact h1 h.1)]
   .rw[dif_neg Z]
theorem Lq(h:s.idxOf? 47=some i)(h1:okI (s.drop (i+1))=false):zj s=2:=by
 unfold zj eh;rw[h];unfold okI at h1;cases hn:iE (s.take i) with
 |none=>simp[hn]
 |some n=>
  simp only[hn];cases hd:xq (s.drop (i+1)) with
  |none=>simp[]
  |some d=>
   rw[L8 hd] at h1;simp only[decide_eq_false_iff_not,Int.natAbs_natCast] at h1;simp only[RI];by_cases Z:1<d/\n.natAbs.gcd d=1
   .rw[dif_pos Z]
    simp only;rw[if_neg (by intro h;exact h1 h.2)]
   .rw[dif_neg Z]
theorem EE{d:Int}(h:s.idxOf? 47=some i)(I:iE (s.take i)=some n)(hd:iE (s.drop (i+1))=some d)(H:(ai n.natAbs).length<=200)(hd2:(ai d.natAbs).length<=200):
  zj s=if 1<d/\n.natAbs.gcd d.natAbs=1 then 0 else 2:=by
 unfold zj eh;rw[h];simp only[I];by_cases X:0<=d
 .rw[VP hd X]
  simp only[RI];have e:d.toNat=d.natAbs:=by omega
  rw[e];by_cases Z:1<d/\n.natAbs.gcd d.natAbs=1
  .rw[if_pos Z,dif_pos ⟨by omega,Z.2⟩]
   simp only;rw[if_pos ⟨H,hd2⟩]
  .rw[if_neg Z,dif_neg (fun e=>Z ⟨by omega,e.2⟩)]
 .have:xq (s.drop (i+1))=none:=by
   cases hx:xq (s.drop (i+1)) with
   |none=>rfl
   |some u=>
    rw[L8 hx] at hd;cases hd;omega
  rw[this];rw[if_neg (fun e=>by omega)]
theorem qB(s:List UInt8)(H:s.length<=1000000000)(mem:Mem):
  kO prog 86 [.str s] mem (.int .i64 (zj s)) mem:=by
 have R:aZ prog 86=some f86:=by kernel_rfl
 refine aA mG ?_ mem;have X:=jG s 47;cases hx:s.idxOf? 47 with
 |none=>
  rw[hx] at X;simp only at X;rw[Lr hx];cases ho:okI s with
  |true=>simp[ae,R,f86,ah,bH,bO,bG,cP,aP,aS,ak,H,X,sk,ho]
  |false=>simp[ae,R,f86,ah,bH,bO,bG,cP,aP,aS,ak,H,X,sk,ho]
 |some i=>
  rw[hx] at X;simp only at X;have Z:(0:Int)<=i:=by omega
  obtain⟨a,U⟩:=xE (s.take i);obtain⟨b,S⟩:=xE (s.drop (i+1));have M:a.length<=1000000000:=by rw[U,SP];omega
  have G:b.length<=1000000000:=by rw[S,QXX];omega
  cases ho:okI a with
  |false=>
   rw[Lp hx (by rw[<-U];exact ho)];simp[ae,R,f86,ah,bH,bO,bG,cP,aP,aS,ak,H,X,Z,<-U,<-S,M,sk,ho]
  |true=>
   cases ho2:okI b with
   |false=>
    rw[Lq hx (by rw[<-S];exact ho2)];simp[ae,R,f86,ah,bH,bO,bG,cP,aP,aS,ak,H,X,Z,<-U,<-S,M,G,sk,ho,ho2]
   |true=>
    have L:∃n,iE a=some n/\(ai n.natAbs).length<=200:=by
     unfold okI at ho;cases hx:iE a with
     |none=>rw[hx] at ho;cases ho
     |some n=>rw[hx] at ho;exact⟨n,rfl,by simpa using ho⟩
    have O:∃n,iE b=some n/\(ai n.natAbs).length<=200:=by
     unfold okI at ho2;cases hx:iE b with
     |none=>rw[hx] at ho2;cases ho2
     |some n=>rw[hx] at ho2;exact⟨n,rfl,by simpa using ho2⟩
    obtain⟨n,L,m⟩:=L;obtain⟨d,O,d2⟩:=O;rw[EE hx (by rw[<-U];exact L) (by rw[<-S];exact O) m d2];have C:iE [49]=some 1:=rfl;have F:MG d 1<=0↔¬1<d:=by
     unfold MG;split
     .constructor<;>intro h<;>omega
     .split<;>constructor<;>intro h<;>omega
    have N:(a==[48])=decide (n=0):=by rw[bE L,fU]
    have o:(ai n.natAbs).length<=100000:=by omega
    have d3:(ai d.natAbs).length<=100000:=by omega
    by_cases B:1<d
    .have V :¬MG d 1<=0:=fun e=>F.1 e B
     by_cases u:n=0
     .have K:¬n.natAbs.gcd d.natAbs=1:=by subst u;simp;omega
      rw[if_neg (fun e=>K e.2)];simp[ae,R,f86,ah,bH,bO,bG,cP,aP,aS,ak,H,X,Z,<-U,<-S,M,G,sk,ho,ho2,O,C,V,N,u]
     .by_cases K:n.natAbs.gcd d.natAbs=1
      .rw[if_pos ⟨B,K⟩]
       simp[ae,R,f86,ah,bH,bO,bG,cP,aP,aS,ak,H,X,Z,<-U,<-S,M,G,sk,ho,ho2,L,O,C,V,N,u,o,d3,fy,K]
      .rw[if_neg (fun e=>K e.2)]
       simp[ae,R,f86,ah,bH,bO,bG,cP,aP,aS,ak,H,X,Z,<-U,<-S,M,G,sk,ho,ho2,L,O,C,V,N,u,o,d3,fy,K]
    .have V :MG d 1<=0:=F.2 B
     rw[if_neg (fun e=>B e.1)];simp[ae,R,f86,ah,bH,bO,bG,cP,aP,aS,ak,H,X,Z,<-U,<-S,M,G,sk,ho,ho2,O,C,V]
noncomputable def bn(f:FuncId)(args:List AV):Option AV:=
 match f,args with
 |86,[.str s]=>if s.length<=1000000000 then some (.int .i64 (zj s)) else none
 |128,[.str s,.str t]=>match eh s,eh t with
  |some a,some b=>if (ai a.num.natAbs).length<=40000/\(ai a.den).length<=40000/\(ai b.num.natAbs).length<=40000/\(ai b.den).length<=40000 then some (.str (aq (a-b))) else none
  |_,_=>none
 |127,[.str s,.str t]=>match eh s,eh t with
  |some a,some b=>if b≠0/\(ai a.num.natAbs).length<=40000/\(ai a.den).length<=40000/\(ai b.num.natAbs).length<=40000/\(ai b.den).length<=40000 then some (.tuple [.str (aq (a / b)),.int .i64 0]) else none
  |_,_=>none
 |f,args=>bH f args
theorem cU:qS prog (ah bn):=bM fun f U v h mem=>by
 unfold bn at h;split at h
 .split at h
  next Z=>cases h;exact qB _ Z mem
  .cases h
 .split at h
  .rename_i m n X V
   split at h
   next Z=>cases h;rw[aw X,aw V];exact QB m n ⟨Z.1,Z.2.1⟩ ⟨Z.2.2.1,Z.2.2.2⟩ mem
   .cases h
  .cases h
 .split at h
  .rename_i m n X V
   split at h
   next Z=>cases h;rw[aw X,aw V];exact PX m n Z.1 ⟨Z.2.1,Z.2.2.1⟩ ⟨Z.2.2.2.1,Z.2.2.2.2⟩ mem
   .cases h
  .cases h
 .have:=mG.fn _ _ mem ⟨v,none,[]⟩ (by unfold ah;simp only;rw[h])
  simpa [afl.mem] using this
theorem VF(h:zj s=0):∃q,eh s=some q/\s=aq q/\(ai q.num.natAbs).length<=200/\(ai q.den).length<=200:=by
 unfold zj at h;cases hq:eh s with
 |none=>rw[hq] at h;cases h
 |some q=>
  rw[hq] at h;simp only at h;split at h
  next Z=>exact⟨q,rfl,aw hq,Z.1,Z.2⟩
  .cases h
end Go.Proofs
