/- See I36. -/
import Derived.Test.YtgafjliihahjgaaGreatDoorI14
set_option linter.all false
set_option maxRecDepth 100000
set_option maxHeartbeats 40000000
namespace Go.Proofs
open Go.Eng
open Tryz
noncomputable def cI(f:FuncId)(args:List AV):Option AV:=
 match f,args with
 |169,[.str s,.str t]=>match mZ s,mZ t with
  |some m,some n=>if (az m.natAbs).length<=100000/\(az n.natAbs).length<=100000 then some (.str (cf (m+n))) else none
  |_,_=>none
 |119,[.str s,.str t]=>match mZ s,mZ t with
  |some m,some n=>if (az m.natAbs).length<=100000/\(az n.natAbs).length<=100000 then some (.str (cf (m*n))) else none
  |_,_=>none
 |171,[.str s,.str t]=>match mZ s,zW t with
  |some m,some n=>if (az m.natAbs).length<=100000/\(az n).length<=100000/\0<n/\(0<=m\/m.natAbs%n=0) then some (.tuple [.str (cf (m / n)),.str (az (m.natAbs%n)),.int .i64 0]) else none
  |_,_=>none
 |96,[.str s,.str t]=>match mZ s,mZ t with
  |some m,some n=>if (az m.natAbs).length<=100000/\(az n.natAbs).length<=100000 then some (.str (az (m.natAbs.gcd n.natAbs))) else none
  |_,_=>none
 |94,[.str s]=>if s.length<=1000000000 then some (.int .i64 (if okT (Lib.hasPrefix s [45]) (Lib.trimPrefix s [45]) then 0 else 2)) else none
 |f,args=>aL f args
theorem Lh:adM prog (af cI):=bX fun f W v h mem=>by
 unfold cI at h;split at h
 .split at h
  .rename_i m n Z X
   split at h
   .rename_i hc
    cases h;rw[dy Z,dy X];exact QM m n hc.1 hc.2 mem
   .cases h
  .cases h
 .split at h
  .rename_i m n Z X
   split at h
   .rename_i hc
    cases h;rw[dy Z,dy X];exact Q9 m n hc.1 hc.2 mem
   .cases h
  .cases h
 .split at h
  .rename_i m n Z X
   split at h
   .rename_i hc
    cases h;obtain⟨V,S,O,M⟩:=hc;rw[dy Z,jo X];exact Gy m n O M V S mem
   .cases h
  .cases h
 .split at h
  .rename_i m n Z X
   split at h
   .rename_i hc
    cases h;rw[dy Z,dy X];exact Q1 m n hc.1 hc.2 mem
   .cases h
  .cases h
 .split at h
  .rename_i K
   cases h;exact It _ K mem
  .cases h
 .have:=zB.fn _ _ mem ⟨v,none,[]⟩ (by unfold af;simp only;rw[h])
  simpa [afA.mem] using this
noncomputable def aX(f:FuncId)(args:List AV):Option AV:=
 match f,args with
 |115,[.str s]=>match eS s with
  |some q=>if s.length<=1000000000 then some (if (az q.num.natAbs).length<=9/\(q.den=1\/(az q.den).length<=9) then .tuple [.int .i64 q.num,.int .i64 q.den,.bool true] else .tuple [.int .i64 0,.int .i64 0,.bool false]) else none
  |none=>none
 |116,[.int .i64 n,.int .i64 d]=>if d.toNat≠0/\n.natAbs<=4611686018427387904/\0<=d/\d.toNat<=4611686018427387904 then some (.str (aB (mkRat n d.toNat))) else none
 |117,[.str s]=>match eS s with
  |some q=>if s.length<=1000000000 then some (.tuple [.str (cf q.num),.str (az q.den)]) else none
  |none=>none
 |172,[.str s,.str t]=>match mZ s,zW t with
  |some n,some d=>if s.length<=1000000000/\t.length<=1000000000 then some (.str (if d=1 then cf n else cf n++47::az d)) else none
  |_,_=>none
 |137,[.str s]=>match eS s with
  |some q=>if s.length<=1000000000 then some (.str (aB (-q))) else none
  |none=>none
 |89,[.str s]=>match eS s with
  |some q=>some (.int .i64 (oB q))
  |none=>none
 |f,args=>cI f args
theorem zC:adM prog (af aX):=bX fun f X v h mem=>by
 unfold aX at h;split at h
 .split at h
  .rename_i q hq
   split at h
   .rename_i Z
    cases h;rw[aA hq] at Z |-;exact I3 q Z mem
   .cases h
  .cases h
 .split at h
  .rename_i hc
   obtain⟨W,V,S,O⟩:=hc;cases h;have:=Ja _ _ V W O mem;rw[QQe S] at this;rw[Rat.mkRat_def,dif_neg W];exact this
  .cases h
 .split at h
  .rename_i q hq
   split at h
   .rename_i Z
    cases h;rw[aA hq] at Z |-;exact NR q Z mem
   .cases h
  .cases h
 .split at h
  .rename_i m n M K
   split at h
   .rename_i hc
    cases h;rw[dy M,jo K] at hc |-;exact Q5 m n hc.1 hc.2 mem
   .cases h
  .cases h
 .split at h
  .rename_i q hq
   split at h
   .rename_i Z
    cases h;rw[aA hq] at Z |-;exact Rb q Z mem
   .cases h
  .cases h
 .split at h
  .rename_i q hq
   cases h;rw[aA hq];exact B0 q mem
  .cases h
 .have:=Lh.fn _ _ mem ⟨v,none,[]⟩ (by unfold af;simp only;rw[h])
  simpa [afA.mem] using this
theorem fg(u:Nat):mZ (az u)=some (u:Int):=aW (u:Int)
def aga(q:Rat):Prop:=(az q.num.natAbs).length<=40000/\(az q.den).length<=40000
variable{q:Rat}
theorem jZ(h:aga q):(aB q).length<=1000000000:=by
 have:=dz q.num;have Z:=h.1;have X:=h.2;unfold aB;split
 .omega
 .simp only[Nm,List.length_cons];omega
variable{d:Nat}
theorem zj(n:Int)(hd:d≠0):aB (mkRat n d)=if d / n.natAbs.gcd d=1 then cf (n / (n.natAbs.gcd d:Nat)) else cf (n / (n.natAbs.gcd d:Nat))++47::az (d / n.natAbs.gcd d):=by unfold aB;rw[Rat.num_mkRat,Rat.den_mkRat,if_neg hd,if_neg hd,Nat.gcd_comm d]
theorem nP(n:Nat):(az n==[49])=decide (n=1):=by
 rw[Bool.eq_iff_iff,beq_iff_eq,L0];constructor
 .intro e;exact H4 (e.trans (show [49]=az 1 from rfl))
 .rintro rfl;rfl
theorem QA(h:d≠0):oz (d:Int)=1:=by unfold oz;rw[if_neg (by omega),if_neg (by omega)]
theorem IT(n:Int)(d:Nat)(hd:d≠0)(H:(az n.natAbs).length<=100000)(y:(az d).length<=100000)(mem:Mem):
  kO prog 118 [.str (cf n),.str (az d)] mem (.str (aB (mkRat n d))) mem:=by
 have B:aS prog 118=some f118:=by kernel_rfl
 refine aD zC ?_ mem;rw[zj n hd];have A:=QA hd;have Z:0<n.natAbs.gcd d:=Nat.gcd_pos_of_pos_right _ (by omega);have X:n.natAbs.gcd d∣n.natAbs:=Nat.gcd_dvd_left _ _;have W:n.natAbs.gcd d∣d:=Nat.gcd_dvd_right _ _;have V:n.natAbs.gcd d<=d:=Nat.le_of_dvd (by omega) W;obtain⟨g,O⟩:=xE (n.natAbs.gcd d);rw[<-O] at Z X W V |-;have z:=dz n;have M:(cf n).length<=1000000000:=by omega
 have K:(az d).length<=1000000000:=by omega
 by_cases S:g=1
 .have u:n / (g:Int)=n:=by rw[S];exact Int.ediv_one n
  have m:d / g=d:=by rw[S];exact Nat.div_one d
  rw[u,m];simp[aa,B,f118,af,aX,cI,aL,aP,fg,ej,aW,A,H,y,<-O,nP,S,M,K]
 .have J:(az g).length<=100000:=by have:=dM V;omega
  have G:n.natAbs%g=0:=Nat.mod_eq_zero_of_dvd X;have F:cf ((d:Int) / (g:Int))=az (d / g):=by rw[<-Int.natCast_ediv];rfl
  have j:(az (n / (g:Int)).natAbs).length<=100000:=by have:=dM (Int.natAbs_ediv_le_natAbs n g);omega
  have Y:=dz (n / (g:Int));have D:(cf (n / (g:Int))).length<=1000000000:=by omega
  have C:(az (d / g)).length<=1000000000:=by have:=dM (Nat.div_le_self d g);omega
  simp[aa,B,f118,af,aX,cI,aL,aP,fg,ej,aW,A,H,y,<-O,nP,S,J,Z,G,F,D,C]
noncomputable def ba(f:FuncId)(args:List AV):Option AV:=
 match f,args with
 |118,[.str s,.str t]=>match mZ s,zW t with
  |some n,some d=>if d≠0/\(az n.natAbs).length<=100000/\(az d).length<=100000 then some (.str (aB (mkRat n d))) else none
  |_,_=>none
 |f,args=>aX f args
theorem lx:adM prog (af ba):=bX fun f Z v h mem=>by
 unfold ba at h;split at h
 .split at h
  .rename_i m n X W
   split at h
   .rename_i hc
    cases h;rw[dy X,jo W];exact IT m n hc.1 hc.2.1 hc.2.2 mem
   .cases h
  .cases h
 .have:=zC.fn _ _ mem ⟨v,none,[]⟩ (by unfold af;simp only;rw[h])
  simpa [afA.mem] using this
def nL(a b:Rat):Int:=Ml (a.num*b.den) (b.num*a.den)
variable{a b:Rat}
theorem HN:nL a b<0↔a<b:=by
 rw[Rat.lt_iff];unfold nL Ml;split
 .simp[*]
 .split<;>simp[*]
theorem vT:nL a b<=0↔a<=b:=by
 rw[Rat.le_iff];unfold nL Ml;split
 .constructor<;>intro h<;>omega
 .split<;>constructor<;>intro h<;>omega
theorem H5(a b:Rat):(aB a==aB b)=decide (a=b):=by rw[Bool.eq_iff_iff,beq_iff_eq,L0];exact⟨kW,fun h=>by rw[h]⟩
def qk(q:Rat):Prop:=(az q.num.natAbs).length<=9/\(q.den=1\/(az q.den).length<=9)
theorem SU(h:qk q):q.num.natAbs<10 ^ 9/\q.den<10 ^ 9:=by
 have Z:=dC q.num.natAbs;have X:=dC q.den;have h3:10 ^ (az q.num.natAbs).length<=10 ^ 9:=P1 (by omega) h.1;refine⟨by omega,?_⟩;rcases h.2 with h4 | h4
 .omega
 .have W:10 ^ (az q.den).length<=10 ^ 9:=P1 (by omega) h4
  omega
section
variable (ha:aga a)(hb:aga b)
include ha hb
theorem Qe:(az (a.num*(b.den:Int)).natAbs).length<=80000:=by rw[QXQ,Int.natAbs_natCast];exact ke ha.1 hb.2
theorem Mw:(az (a.den*b.den)).length<=80000:=ke ha.2 hb.2
theorem UG:(az (a.num*b.num).natAbs).length<=80000:=by rw[QXQ];exact ke ha.1 hb.1
end
theorem ml{α:Type}(h:¬qk q)(x y:α):(if (az q.num.natAbs).length<=9/\(q.den=1\/(az q.den).length<=9) then x else y)=y:=if_neg h
theorem ez{α:Type}(h:qk q)(x y:α):(if (az q.num.natAbs).length<=9/\(q.den=1\/(az q.den).length<=9) then x else y)=x:=if_pos h
theorem uA(a b:Rat)(y:aga a)(H:aga b)(mem:Mem):
  kO prog 85 [.str (aB a),.str (aB b)] mem (.int .i64 (nL a b)) mem:=by
 have S:aS prog 85=some f85:=by kernel_rfl
 refine aD lx ?_ mem;have M:=jZ y;have K:=jZ H;by_cases J:a=b
 .subst J
  have:nL a a=0:=by unfold nL Ml;simp
  simp[aa,S,f85,this]
 .have Z:=H5 a b
  rw[decide_eq_false J] at Z;obtain⟨X,G⟩:=xE (a.num*(b.den:Int));obtain⟨Y,F⟩:=xE (b.num*(a.den:Int));have hc:nL a b=Ml X Y:=by unfold nL;rw[<-G,<-F]
  by_cases hq:qk a/\qk b
  .obtain⟨W,O⟩:=hq
   obtain⟨u,m⟩:=SU W;obtain⟨j,R⟩:=SU O;have Q:X.natAbs<10 ^ 9*10 ^ 9:=by rw[G];exact gb u (by simpa using R)
   have I:Y.natAbs<10 ^ 9*10 ^ 9:=by rw[F];exact gb j (by simpa using m)
   have w1:IntKind.i64.wrap (a.num*(b.den:Int))=X:=by rw[<-G];exact ai
   have w2:IntKind.i64.wrap (b.num*(a.den:Int))=Y:=by rw[<-F];exact ai
   rw[hc];unfold Ml;by_cases V:X<Y
   .simp[aa,S,f85,Z,af,ba,aX,aw,M,K,ez W,ez O,w1,w2,V]
   .by_cases D:Y<X
    .simp[aa,S,f85,Z,af,ba,aX,aw,M,K,ez W,ez O,w1,w2,V,D]
    .simp[aa,S,f85,Z,af,ba,aX,aw,M,K,ez W,ez O,w1,w2,V,D]
  .rw[hc]
   have C:(az a.num.natAbs).length<=100000:=by have:=y.1;omega
   have B:(az a.den).length<=100000:=by have:=y.2;omega
   have A:(az b.num.natAbs).length<=100000:=by have:=H.1;omega
   have z:(az b.den).length<=100000:=by have:=H.2;omega
   by_cases W:qk a
   .have O:¬qk b:=fun h=>hq ⟨W,h⟩
    simp[aa,S,f85,Z,af,ba,aX,cI,aL,aw,aW,fg,M,K,ez W,ml O,C,B,A,z,<-G,<-F]
   .simp[aa,S,f85,Z,af,ba,aX,cI,aL,aw,aW,fg,M,K,ml W,C,B,A,z,<-G,<-F]
theorem nS(q:Rat):(aB q==[49])=decide (q=1):=by
 have:=H5 q 1
 rwa [show aB 1=[49] from rfl] at this
theorem QN(a b:Rat)(y:aga a)(H:aga b)(mem:Mem):
  kO prog 111 [.str (aB a),.str (aB b)] mem (.str (aB (a+b))) mem:=by
 have J:aS prog 111=some f111:=by kernel_rfl
 refine aD lx ?_ mem;have B:=jZ y;have A:=jZ H;by_cases Z:a=0
 .subst Z
  have:aB 0=[48]:=rfl;simp[aa,J,f111,this,Rat.zero_add]
 by_cases W:b=0
 .subst W
  have:aB 0=[48]:=rfl;simp[aa,J,f111,this,bK,Z,Rat.add_zero]
 have pa:=a.den_pos;have pb:=b.den_pos;have V:a.den*b.den≠0:=Nat.mul_ne_zero a.den_nz b.den_nz;have G:=Rat.add_def' a b;obtain⟨X,S⟩:=xE (a.num*(b.den:Int));obtain⟨Y,O⟩:=xE (b.num*(a.den:Int));obtain⟨D,M⟩:=xE (a.den*b.den);rw[<-S,<-O,<-M] at G;rw[<-M] at V;rw[G];by_cases hq:qk a/\qk b
 .obtain⟨K,C⟩:=hq
  obtain⟨a1,z⟩:=SU K;obtain⟨b1,u⟩:=SU C;have m:X.natAbs<10 ^ 9*10 ^ 9:=by rw[S];exact gb a1 (by simpa using u)
  have j:Y.natAbs<10 ^ 9*10 ^ 9:=by rw[O];exact gb b1 (by simpa using z)
  have d1:D<10 ^ 9*10 ^ 9:=by rw[M];exact Nat.mul_lt_mul'' z u
  have w1:IntKind.i64.wrap (a.num*(b.den:Int))=X:=by rw[<-S];exact ai
  have w2:IntKind.i64.wrap (b.num*(a.den:Int))=Y:=by rw[<-O];exact ai
  have w3:IntKind.i64.wrap (X+Y)=X+Y:=ai;have w4:IntKind.i64.wrap ((a.den:Int)*(b.den:Int))=(D:Int):=by rw[<-Int.natCast_mul,<-M];exact ai
  have c1:(X+Y).natAbs<=4611686018427387904:=by omega
  have c2:D<=4611686018427387904:=by omega
  simp[aa,J,f111,bK,Z,W,af,ba,aX,aw,B,A,ez K,ez C,w1,w2,w3,w4,V,c1,c2]
 .have R:(az a.num.natAbs).length<=100000:=by have:=y.1;omega
  have Q:(az a.den).length<=100000:=by have:=y.2;omega
  have I:(az b.num.natAbs).length<=100000:=by have:=H.1;omega
  have s4:(az b.den).length<=100000:=by have:=H.2;omega
  have m:(az X.natAbs).length<=80000:=by rw[S];exact Qe y H
  have j:(az Y.natAbs).length<=80000:=by rw[O];exact Qe H y
  have s5:(az X.natAbs).length<=100000:=by omega
  have s6:(az Y.natAbs).length<=100000:=by omega
  have s7:(az (X+Y).natAbs).length<=100000:=by have h1:=sV m j;have h2:=dM (Int.natAbs_add_le X Y);omega
  have s8:(az D).length<=100000:=by
   have:(az D).length<=80000:=by rw[M];exact Mw y H
   omega
  have F:cf ((a.den:Int)*(b.den:Int))=az D:=by rw[<-Int.natCast_mul,<-M];rfl
  by_cases K:qk a
  .have C:¬qk b:=fun h=>hq ⟨K,h⟩
   simp[aa,J,f111,bK,Z,W,af,ba,aX,cI,aw,aW,fg,ej,B,A,ez K,ml C,R,Q,I,s4,<-S,<-O,s5,s6,s7,s8,F,V]
  .simp[aa,J,f111,bK,Z,W,af,ba,aX,cI,aw,aW,fg,ej,B,A,ml K,R,Q,I,s4,<-S,<-O,s5,s6,s7,s8,F,V]
theorem Ra(a b:Rat)(y:aga a)(H:aga b)(mem:Mem):
  kO prog 74 [.str (aB a),.str (aB b)] mem (.str (aB (a*b))) mem:=by
 have M:aS prog 74=some f74:=by kernel_rfl
 refine aD lx ?_ mem;have A:=jZ y;have z:=jZ H;have u:aB 0=[48]:=rfl;have m:aB 1=[49]:=rfl;by_cases Z:a=0
 .subst Z
  simp[aa,M,f74,u,Rat.zero_mul]
 by_cases W:b=0
 .subst W
  simp[aa,M,f74,u,bK,Z,Rat.mul_zero]
 by_cases V:a=1
 .subst V
  simp[aa,M,f74,m,bK,W,Rat.one_mul]
 by_cases S:b=1
 .subst S
  simp[aa,M,f74,m,bK,nS,Z,V,Rat.mul_one]
 have pa:=a.den_pos;have pb:=b.den_pos;have O:a.den*b.den≠0:=Nat.mul_ne_zero a.den_nz b.den_nz;have F:=Rat.mul_def' a b;obtain⟨X,K⟩:=xE (a.num*b.num);obtain⟨D,J⟩:=xE (a.den*b.den);rw[<-K,<-J] at F;rw[<-J] at O;rw[F];by_cases hq:qk a/\qk b
 .obtain⟨G,B⟩:=hq
  obtain⟨a1,a2⟩:=SU G;obtain⟨b1,b2⟩:=SU B;have x1:X.natAbs<10 ^ 9*10 ^ 9:=by rw[K];exact gb a1 b1
  have d1:D<10 ^ 9*10 ^ 9:=by rw[J];exact Nat.mul_lt_mul'' a2 b2
  have w1:IntKind.i64.wrap (a.num*b.num)=X:=by rw[<-K];exact ai
  have w4:IntKind.i64.wrap ((a.den:Int)*(b.den:Int))=(D:Int):=by rw[<-Int.natCast_mul,<-J];exact ai
  have c1:X.natAbs<=4611686018427387904:=by omega
  have c2:D<=4611686018427387904:=by omega
  simp[aa,M,f74,bK,nS,Z,W,V,S,af,ba,aX,aw,A,z,ez G,ez B,w1,w4,O,c1,c2]
 .have j:(az a.num.natAbs).length<=100000:=by have:=y.1;omega
  have Y:(az a.den).length<=100000:=by have:=y.2;omega
  have R:(az b.num.natAbs).length<=100000:=by have:=H.1;omega
  have Q:(az b.den).length<=100000:=by have:=H.2;omega
  have x1:(az X.natAbs).length<=80000:=by rw[K];exact UG y H
  have I:(az X.natAbs).length<=100000:=by omega
  have s8:(az D).length<=100000:=by
   have:(az D).length<=80000:=by rw[J];exact Mw y H
   omega
  have C:cf ((a.den:Int)*(b.den:Int))=az D:=by rw[<-Int.natCast_mul,<-J];rfl
  by_cases G:qk a
  .have B:¬qk b:=fun h=>hq ⟨G,h⟩
   simp[aa,M,f74,bK,nS,Z,W,V,S,af,ba,aX,cI,aw,aW,fg,ej,A,z,ez G,ml B,j,Y,R,Q,<-K,I,s8,C,O]
  .simp[aa,M,f74,bK,nS,Z,W,V,S,af,ba,aX,cI,aw,aW,fg,ej,A,z,ml G,j,Y,R,Q,<-K,I,s8,C,O]
theorem Vn(t:List UInt8):okT false t=(decide (t.length<=200)&&jW t):=by
 cases t with
 |nil=>rfl
 |cons c r=>
  unfold okT jW;simp only[List.length_cons,Bool.or_false,QQK];rw[Bool.eq_iff_iff];simp;cases r with
  |nil=>simp
  |cons x r=>simp;grind
theorem Xi(t:List UInt8):okT true t=(decide (t.length<=200)&&jW t&& !(t.head? ==some 48)):=by
 cases t with
 |nil=>rfl
 |cons c r=>
  unfold okT jW;simp only[List.length_cons,Bool.or_true,Bool.and_true,QQK,List.head?_cons];rw[Bool.eq_iff_iff];simp
  grind
def okI(s:List UInt8):Bool:=match mZ s with
 |some n=>decide ((az n.natAbs).length<=200)
 |none=>false
theorem Sy(r:List UInt8):mZ (45::r)=match zW r with
  |some (u+1)=>some (Int.negSucc u)
  |_=>none:=rfl
variable{t:List UInt8}
theorem Sz(h:∀r,t≠45::r):mZ t=(zW t).map Int.ofNat:=by
 unfold mZ;split
 next r=>exact absurd rfl (h r)
 .cases zW t<;>rfl
theorem Qp(h:jW t=true):zW t=some (iU t):=by unfold zW;rw[if_pos h]
theorem Vi(h:jW t=false):zW t=none:=by unfold zW;rw[h];rfl
theorem sY(s:List UInt8):okT (Lib.hasPrefix s [45]) (Lib.trimPrefix s [45])=okI s:=by
 unfold Lib.trimPrefix;have Z:∀t:List UInt8,(∀r,t≠45::r)->okT false t=okI t:=by
  intro t V;rw[Vn];unfold okI;rw[Sz V];cases hc:jW t with
  |true=>
   have:=xU hc;rw[Qp hc];show _=decide ((az (Int.ofNat (iU t)).natAbs).length<=200)
   rw[show(Int.ofNat (iU t)).natAbs=iU t from rfl,this,Bool.and_true]
  |false=>
   rw[Vi hc,Bool.and_false];rfl
 cases s with
 |nil=>rw[show Lib.hasPrefix [] [45]=false from rfl];exact Z [] (by simp)
 |cons c r=>
  by_cases h:c=45
  .subst h
   rw[show Lib.hasPrefix (45::r) [45]=true by simp[Lib.hasPrefix,List.isPrefixOf]];simp only[if_true,List.length_singleton,List.drop_succ_cons,List.drop_zero];rw[Xi];unfold okI;rw[Sy];cases hc:jW r with
   |true=>
    rw[Qp hc,Bool.and_true];have X:=xU hc;cases hvd:iU r with
    |zero=>
     rw[hvd,sX] at X;rw[<-X];rfl
    |succ u=>
     rw[hvd] at X;have W:=DH (u+1) (by omega);rw[X] at W;show _=decide ((az (Int.negSucc u).natAbs).length<=200)
     rw[show(Int.negSucc u).natAbs=u+1 from rfl,X];have:(r.head? ==some 48)=false:=by simpa using W
     rw[this];simp
   |false=>
    rw[Vi hc];simp
  .have S:Lib.hasPrefix (c::r) [45]=false:=by
    have O :¬(45:UInt8)=c:=fun e=>h e.symm
    simp[Lib.hasPrefix,List.isPrefixOf,O]
   rw[S];exact Z (c::r) (by intro M e;exact h (List.cons.inj e).1)
variable{n:Int}{r:List UInt8}
theorem W3(h:mZ r=some n)(y:0<=n):zW r=some n.toNat:=by rw[dy h,kD y,ej];congr 1;omega
theorem MT{n:Nat}(h:zW r=some n):mZ r=some (n:Int):=by rw[jo h];exact fg n
theorem sN:∀(s:List UInt8) (c:UInt8),Lib.indexByte s c=match s.idxOf? c with
  |some i=>(i:Int)
  |none=> -1
 | [],_=>rfl
 |b::l,c=>by
  unfold Lib.indexByte;rw[List.idxOf?_cons,sN l c];by_cases h:b=c
  .subst h;simp
  .have Z :(b==c)=false:=by simpa using h
   rw[Z];simp only[Bool.false_eq_true,if_false];cases l.idxOf? c with
   |none=>simp
   |some i=>
    have X:¬(((i:Int)== -1)=true):=by rw[beq_iff_eq];omega
    simp only[Option.map_some];rw[if_neg X,Int.natCast_add];rfl
def xz(s:List UInt8):Int:=match eS s with
 |some q=>if (az q.num.natAbs).length<=200/\(az q.den).length<=200 then 0 else 2
 |none=>2
noncomputable def aI(f:FuncId)(args:List AV):Option AV:=
 match f,args with
 |85,[.str s,.str t]=>match eS s,eS t with
  |some a,some b=>if (az a.num.natAbs).length<=40000/\(az a.den).length<=40000/\(az b.num.natAbs).length<=40000/\(az b.den).length<=40000 then some (.int .i64 (nL a b)) else none
  |_,_=>none
 |111,[.str s,.str t]=>match eS s,eS t with
  |some a,some b=>if (az a.num.natAbs).length<=40000/\(az a.den).length<=40000/\(az b.num.natAbs).length<=40000/\(az b.den).length<=40000 then some (.str (aB (a+b))) else none
  |_,_=>none
 |74,[.str s,.str t]=>match eS s,eS t with
  |some a,some b=>if (az a.num.natAbs).length<=40000/\(az a.den).length<=40000/\(az b.num.natAbs).length<=40000/\(az b.den).length<=40000 then some (.str (aB (a*b))) else none
  |_,_=>none
 |f,args=>ba f args
theorem nJ:adM prog (af aI):=bX fun f W v h mem=>by
 unfold aI at h;split at h
 .split at h
  .rename_i m n Z X
   split at h
   .rename_i hc
    cases h;rw[aA Z,aA X];exact uA m n ⟨hc.1,hc.2.1⟩ ⟨hc.2.2.1,hc.2.2.2⟩ mem
   .cases h
  .cases h
 .split at h
  .rename_i m n Z X
   split at h
   .rename_i hc
    cases h;rw[aA Z,aA X];exact QN m n ⟨hc.1,hc.2.1⟩ ⟨hc.2.2.1,hc.2.2.2⟩ mem
   .cases h
  .cases h
 .split at h
  .rename_i m n Z X
   split at h
   .rename_i hc
    cases h;rw[aA Z,aA X];exact Ra m n ⟨hc.1,hc.2.1⟩ ⟨hc.2.2.1,hc.2.2.2⟩ mem
   .cases h
  .cases h
 .have:=lx.fn _ _ mem ⟨v,none,[]⟩ (by unfold af;simp only;rw[h])
  simpa [afA.mem] using this
theorem Rl(a b:Rat)(H:aga a)(y:aga b)(mem:Mem):
  kO prog 88 [.str (aB a),.str (aB b)] mem (.str (aB (a-b))) mem:=by
 have Z:aS prog 88=some f88:=by kernel_rfl
 refine aD nJ ?_ mem;have X:=jZ y;obtain⟨W,V⟩:=H;obtain⟨S,O⟩:=y;have e:a+ -b=a-b:=(Rat.sub_eq_add_neg a b).symm;simp[aa,Z,f88,af,aI,ba,aX,aw,X,W,V,S,O,e]
theorem Dl(h:0<b.num):b⁻¹.num=(b.den:Int)/\b⁻¹.den=b.num.natAbs:=by rw[Rat.num_inv,Rat.den_inv,Int.sign_eq_one_of_pos h,if_neg (by omega)];exact⟨Int.one_mul _,rfl⟩
theorem Dk(h:b.num<0):b⁻¹.num= -(b.den:Int)/\b⁻¹.den=b.num.natAbs:=by rw[Rat.num_inv,Rat.den_inv,Int.sign_eq_neg_one_of_neg h,if_neg (by omega)];exact⟨by omega,rfl⟩
theorem QR(a b:Rat)(y:b≠0)(ha:aga a)(H:aga b)(mem:Mem):
  kO prog 136 [.str (aB a),.str (aB b)] mem (.tuple [.str (aB (a / b)),.int .i64 0]) mem:=by
 have A:aS prog 136=some f136:=by kernel_rfl
 refine aD nJ ?_ mem;have z:=jZ H;obtain⟨u,j⟩:=ha;obtain⟨Y,Q⟩:=H;have I:b.num≠0:=fun e=>y (Bv.1 e)
 have O:(aB b==[48])=false:=by rw[bK];simpa using y
 have e:a*b⁻¹=a / b:=(Rat.div_def a b).symm;obtain⟨m,X⟩:=xE b.num.natAbs;rw[<-X] at Y;have lm:(az m).length<=1000000000:=by omega
 have G:(az b.den).length<=1000000000:=by omega
 have fi:(az b⁻¹.num.natAbs).length<=40000/\(az b⁻¹.den).length<=40000:=by
  rcases Int.lt_or_gt_of_ne I with h | h
  .obtain⟨M,W⟩:=Dk h
   rw[M,W,Int.natAbs_neg,Int.natAbs_natCast,<-X];exact⟨Q,Y⟩
  .obtain⟨M,W⟩:=Dl h
   rw[M,W,Int.natAbs_natCast,<-X];exact⟨Q,Y⟩
 have F:=fun h=>Dk (b:=b) h
 have D:=fun h=>Dl (b:=b) h
 obtain⟨w,hw⟩:=xE (b⁻¹);rw[<-hw] at fi e F D;obtain⟨f1,f2⟩:=fi;rcases Int.lt_or_gt_of_ne I with h | h
 .obtain⟨M,W⟩:=F h
  have C:(aB b)[0]? =some 45:=by rw[qj h];rfl
  have V:cf (-b.num)=az m:=by rw[kD (by omega),Int.natAbs_neg,X]
  have ln:(cf b.num).length<=1000000000:=by have:=dz b.num;rw[<-X] at this;omega
  have J:(cf (-(b.den:Int))).length<=1000000000:=by have:=dz (-(b.den:Int));rw[Int.natAbs_neg,Int.natAbs_natCast] at this;omega
  by_cases Z:m=1
  .have S:cf (-(b.den:Int))=aB w:=by unfold aB;rw[if_pos (by rw[W,<-X,Z]),M]
   have K:=congrArg mZ S;rw[aW] at K;have K:=K.symm;have R:(az 1).length<=1000000000:=by decide
   have lj:(aB w).length<=1000000000:=by rw[<-S];first | exact J | exact G
   simp[aa,A,f136,O,af,aI,ba,aX,cI,aL,aw,aW,ej,fg,z,C,V,ln,G,Z,S,K,R,lj,u,j,f1,f2,e]
  .have S:cf (-(b.den:Int))++47::az m=aB w:=by unfold aB;rw[if_neg (by rw[W,<-X];exact Z),M,W,<-X]
   simp[aa,A,f136,O,af,aI,ba,aX,cI,aL,aw,aW,ej,fg,z,C,V,ln,J,lm,G,Z,S,u,j,f1,f2,e]
 .obtain⟨M,W⟩:=D h
  obtain⟨c,r,hc,hd⟩:=tt (q:=b) (by omega);have C:(aB b)[0]? =some c:=by rw[hc];rfl
  have B:=iE hd;have V:cf b.num=az m:=by rw[kD (by omega),X]
  by_cases Z:m=1
  .have S:cf (b.den:Int)=aB w:=by unfold aB;rw[if_pos (by rw[W,<-X,Z]),M]
   have K:=congrArg mZ S;rw[aW] at K;have K:=K.symm;have R:(az 1).length<=1000000000:=by decide
   have lj:(aB w).length<=1000000000:=by rw[<-S];first | exact J | exact G
   simp[aa,A,f136,O,af,aI,ba,aX,aw,ej,fg,z,C,B,V,G,Z,S,R,u,j,f1,f2,e]
  .have S:cf (b.den:Int)++47::az m=aB w:=by unfold aB;rw[if_neg (by rw[W,<-X];exact Z),M,W,<-X]
   simp[aa,A,f136,O,af,aI,ba,aX,aw,ej,fg,z,C,B,V,lm,G,Z,S,u,j,f1,f2,e]
variable{s:List UInt8}
theorem Ur(h:s.idxOf? 47=none):xz s=if okI s then 0 else 2:=by
 unfold xz eS okI;rw[h];cases hn:mZ s with
 |none=>simp
 |some n=>
  have:(az 1).length<=200:=by decide
  simp[this]
variable{i:Nat}
theorem Up(h:s.idxOf? 47=some i)(h1:okI (s.take i)=false):xz s=2:=by
 unfold xz eS;rw[h];unfold okI at h1;cases hn:mZ (s.take i) with
 |none=>simp[hn]
 |some n=>
  rw[hn] at h1;simp only[decide_eq_false_iff_not] at h1;simp only[hn];cases hd:zW (s.drop (i+1)) with
  |none=>simp[]
  |some d=>
   simp only[SV];by_cases hc:1<d/\n.natAbs.gcd d=1
   .rw[dif_pos hc]
    simp only;rw[if_neg (by intro h;exact h1 h.1)]
   .rw[dif_neg hc]
theorem Uq(h:s.idxOf? 47=some i)(h1:okI (s.drop (i+1))=false):xz s=2:=by
 unfold xz eS;rw[h];unfold okI at h1;cases hn:mZ (s.take i) with
 |none=>simp[hn]
 |some n=>
  simp only[hn];cases hd:zW (s.drop (i+1)) with
  |none=>simp[]
  |some d=>
   rw[MT hd] at h1;simp only[decide_eq_false_iff_not,Int.natAbs_natCast] at h1;simp only[SV];by_cases hc:1<d/\n.natAbs.gcd d=1
   .rw[dif_pos hc]
    simp only;rw[if_neg (by intro h;exact h1 h.2)]
   .rw[dif_neg hc]
theorem Sg{d:Int}(h:s.idxOf? 47=some i)(H:mZ (s.take i)=some n)(hd:mZ (s.drop (i+1))=some d)(y:(az n.natAbs).length<=200)(hd2:(az d.natAbs).length<=200):
  xz s=if 1<d/\n.natAbs.gcd d.natAbs=1 then 0 else 2:=by
 unfold xz eS;rw[h];simp only[H];by_cases Z:0<=d
 .rw[W3 hd Z]
  simp only[SV];have e:d.toNat=d.natAbs:=by omega
  rw[e];by_cases hc:1<d/\n.natAbs.gcd d.natAbs=1
  .rw[if_pos hc,dif_pos ⟨by omega,hc.2⟩]
   simp only;rw[if_pos ⟨y,hd2⟩]
  .rw[if_neg hc,dif_neg (fun e=>hc ⟨by omega,e.2⟩)]
 .have:zW (s.drop (i+1))=none:=by
   cases hx:zW (s.drop (i+1)) with
   |none=>rfl
   |some u=>
    rw[MT hx] at hd;cases hd;omega
  rw[this];rw[if_neg (fun e=>by omega)]
theorem qX(s:List UInt8)(y:s.length<=1000000000)(mem:Mem):
  kO prog 55 [.str s] mem (.int .i64 (xz s)) mem:=by
 have O:aS prog 55=some f55:=by kernel_rfl
 refine aD nJ ?_ mem;have X:=sN s 47;cases hx:s.idxOf? 47 with
 |none=>
  rw[hx] at X;simp only at X;rw[Ur hx];cases ho:okI s with
  |true=>simp[aa,O,f55,af,aI,ba,aX,cI,aL,aP,ar,y,X,sY,ho]
  |false=>simp[aa,O,f55,af,aI,ba,aX,cI,aL,aP,ar,y,X,sY,ho]
 |some i=>
  rw[hx] at X;simp only at X;have Z:(0:Int)<=i:=by omega
  obtain⟨a,V⟩:=xE (s.take i);obtain⟨b,S⟩:=xE (s.drop (i+1));have J:a.length<=1000000000:=by rw[V,P3];omega
  have D:b.length<=1000000000:=by rw[S,QXZ];omega
  cases ho:okI a with
  |false=>
   rw[Up hx (by rw[<-V];exact ho)];simp[aa,O,f55,af,aI,ba,aX,cI,aL,aP,ar,y,X,Z,<-V,<-S,J,sY,ho]
  |true=>
   cases ho2:okI b with
   |false=>
    rw[Uq hx (by rw[<-S];exact ho2)];simp[aa,O,f55,af,aI,ba,aX,cI,aL,aP,ar,y,X,Z,<-V,<-S,J,D,sY,ho,ho2]
   |true=>
    have G:∃n,mZ a=some n/\(az n.natAbs).length<=200:=by
     unfold okI at ho;cases hx:mZ a with
     |none=>rw[hx] at ho;cases ho
     |some n=>rw[hx] at ho;exact⟨n,rfl,by simpa using ho⟩
    have M:∃n,mZ b=some n/\(az n.natAbs).length<=200:=by
     unfold okI at ho2;cases hx:mZ b with
     |none=>rw[hx] at ho2;cases ho2
     |some n=>rw[hx] at ho2;exact⟨n,rfl,by simpa using ho2⟩
    obtain⟨n,G,m⟩:=G;obtain⟨d,M,d2⟩:=M;rw[Sg hx (by rw[<-V];exact G) (by rw[<-S];exact M) m d2];have B:mZ [49]=some 1:=rfl;have C:Ml d 1<=0↔¬1<d:=by
     unfold Ml;split
     .constructor<;>intro h<;>omega
     .split<;>constructor<;>intro h<;>omega
    have K:(a==[48])=decide (n=0):=by rw[dy G,lX]
    have u:(az n.natAbs).length<=100000:=by omega
    have d3:(az d.natAbs).length<=100000:=by omega
    by_cases A:1<d
    .have W :¬Ml d 1<=0:=fun e=>C.1 e A
     by_cases z:n=0
     .have F:¬n.natAbs.gcd d.natAbs=1:=by subst z;simp;omega
      rw[if_neg (fun e=>F e.2)];simp[aa,O,f55,af,aI,ba,aX,cI,aL,aP,ar,y,X,Z,<-V,<-S,J,D,sY,ho,ho2,M,B,W,K,z]
     .by_cases F:n.natAbs.gcd d.natAbs=1
      .rw[if_pos ⟨A,F⟩]
       simp[aa,O,f55,af,aI,ba,aX,cI,aL,aP,ar,y,X,Z,<-V,<-S,J,D,sY,ho,ho2,G,M,B,W,K,z,u,d3,nP,F]
      .rw[if_neg (fun e=>F e.2)]
       simp[aa,O,f55,af,aI,ba,aX,cI,aL,aP,ar,y,X,Z,<-V,<-S,J,D,sY,ho,ho2,G,M,B,W,K,z,u,d3,nP,F]
    .have W :Ml d 1<=0:=C.2 A
     rw[if_neg (fun e=>A e.1)];simp[aa,O,f55,af,aI,ba,aX,cI,aL,aP,ar,y,X,Z,<-V,<-S,J,D,sY,ho,ho2,M,B,W]
noncomputable def aq(f:FuncId)(args:List AV):Option AV:=
 match f,args with
 |55,[.str s]=>if s.length<=1000000000 then some (.int .i64 (xz s)) else none
 |88,[.str s,.str t]=>match eS s,eS t with
  |some a,some b=>if (az a.num.natAbs).length<=40000/\(az a.den).length<=40000/\(az b.num.natAbs).length<=40000/\(az b.den).length<=40000 then some (.str (aB (a-b))) else none
  |_,_=>none
 |136,[.str s,.str t]=>match eS s,eS t with
  |some a,some b=>if b≠0/\(az a.num.natAbs).length<=40000/\(az a.den).length<=40000/\(az b.num.natAbs).length<=40000/\(az b.den).length<=40000 then some (.tuple [.str (aB (a / b)),.int .i64 0]) else none
  |_,_=>none
 |f,args=>aI f args
theorem cw:adM prog (af aq):=bX fun f W v h mem=>by
 unfold aq at h;split at h
 .split at h
  next hc=>cases h;exact qX _ hc mem
  .cases h
 .split at h
  .rename_i m n Z X
   split at h
   next hc=>cases h;rw[aA Z,aA X];exact Rl m n ⟨hc.1,hc.2.1⟩ ⟨hc.2.2.1,hc.2.2.2⟩ mem
   .cases h
  .cases h
 .split at h
  .rename_i m n Z X
   split at h
   next hc=>cases h;rw[aA Z,aA X];exact QR m n hc.1 ⟨hc.2.1,hc.2.2.1⟩ ⟨hc.2.2.2.1,hc.2.2.2.2⟩ mem
   .cases h
  .cases h
 .have:=nJ.fn _ _ mem ⟨v,none,[]⟩ (by unfold af;simp only;rw[h])
  simpa [afA.mem] using this
theorem Bo(h:xz s=0):∃q,eS s=some q/\s=aB q/\(az q.num.natAbs).length<=200/\(az q.den).length<=200:=by
 unfold xz at h;cases hq:eS s with
 |none=>rw[hq] at h;cases h
 |some q=>
  rw[hq] at h;simp only at h;split at h
  next hc=>exact⟨q,rfl,aA hq,hc.1,hc.2⟩
  .cases h
end Go.Proofs
