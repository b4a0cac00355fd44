/- See C54. -/
import Derived.Test.YtffdedmakncfmaaGreatDoorC22
set_option linter.all false
set_option maxRecDepth 100000
set_option maxHeartbeats 40000000
namespace Go.Proofs
open Go.Eng
open Tryz
variable{a b:Int}
theorem CN(hs:decide (a<0)=decide (b<0)):dS (decide (a<0)) (a.natAbs+b.natAbs)=bB (a+b):=by
 rw[←gW (a+b)];have:(a+b).natAbs=a.natAbs+b.natAbs:=by by_cases Z:a<0<;>by_cases X:b<0<;>simp[Z,X] at hs<;>omega
 rw[this];by_cases Z:a<0<;>by_cases X:b<0<;>simp[Z,X] at hs
 ·rw[decide_eq_true Z,decide_eq_true (by omega)]
 ·rw[decide_eq_false Z,decide_eq_false (by omega)]
section
variable (hs:¬decide (a<0)=decide (b<0))
include hs
theorem Hq(y:a.natAbs<b.natAbs):dS (decide (b<0)) (b.natAbs-a.natAbs)=bB (a+b):=by
 rw[←gW (a+b)];have V:(a+b).natAbs=b.natAbs-a.natAbs:=by by_cases X:a<0<;>by_cases Z:b<0<;>simp[X,Z] at hs<;>omega
 rw[V];by_cases X:a<0<;>by_cases Z:b<0<;>simp[X,Z] at hs
 ·rw[decide_eq_false Z,decide_eq_false (by omega)]
 ·rw[decide_eq_true Z,decide_eq_true (by omega)]
theorem Hp(y:b.natAbs≤a.natAbs):dS (decide (a<0)) (a.natAbs-b.natAbs)=bB (a+b):=by
 rw[←gW (a+b)];have U:(a+b).natAbs=a.natAbs-b.natAbs:=by by_cases Z:a<0<;>by_cases X:b<0<;>simp[Z,X] at hs<;>omega
 rw[U];by_cases V:a.natAbs-b.natAbs=0
 ·unfold dS;rw[if_pos V,if_pos V]
 by_cases Z:a<0<;>by_cases X:b<0<;>simp[Z,X] at hs
 ·rw[decide_eq_true Z,decide_eq_true (by omega)]
 ·rw[decide_eq_false Z,decide_eq_false (by omega)]
end
theorem eg(n:Nat):(dig 10000 n).length≤(ai n).length:=by
 obtain⟨X,Z,U⟩:=kI _ (ai n) (Nat.le_refl _) (du _);rw[dz] at Z;have V:aU (ft (ai n))=dig 10000 n:=by rw[←dJ (by omega) X,Z]
 have:=cS (ft (ai n));rw[V] at this;omega
noncomputable def bW(f:FuncId)(args:List AV):Option AV:=
 match f,args with
 |182,[.str s]=>match jP s with
  |some n=>if (ai n.natAbs).length≤1000000000 then some (if (ai n.natAbs).length≤17 then .tuple [.int .i64 n,.bool true] else .tuple [.int .i64 0,.bool false]) else none
  |none=>none
 |f,args=>bV f args
theorem Ch:qS prog (ag bW):=bF fun f Z v h mem=>by
 unfold bW at h;split at h
 ·split at h
  ·rename_i n X
   split at h
   next V=>cases h;rw[bS X];exact IB n V mem
   ·cases h
  ·cases h
 ·have:=Cg.fn _ _ mem ⟨v,none,[]⟩ (by unfold ag;simp only;rw[h])
  simpa [y9.mem] using this
noncomputable def dG:afF:=fun c Z M=>((ag bW).or cY) c Z M
theorem vI:qS prog dG:=Ch.or Ll
variable{A:List Nat}
theorem rs0(ow:Bool)(l:Mem):aZ .i64 (.cells ow 1 (iN .i64 A)::l) (.slice 0 0 A.length none)=some A:=aP rfl (by simp) (List.take_of_length_le (by simp))
theorem rs1(ow:Bool)(a0:afU)(l:Mem):aZ .i64 (a0::.cells ow 1 (iN .i64 A)::l) (.slice 1 0 A.length none)=some A:=aP rfl (by simp) (List.take_of_length_le (by simp))
theorem rs2(ow:Bool)(a0 a1:afU)(l:Mem):aZ .i64 (a0::a1::.cells ow 1 (iN .i64 A)::l) (.slice 2 0 A.length none)=some A:=aP rfl (by simp) (List.take_of_length_le (by simp))
theorem rs3(ow:Bool)(a0 a1 y:afU)(l:Mem):aZ .i64 (a0::a1::y::.cells ow 1 (iN .i64 A)::l) (.slice 3 0 A.length none)=some A:=aP rfl (by simp) (List.take_of_length_le (by simp))
theorem Rc(a b:Int)(ha:(ai a.natAbs).length≤10000)(hb:(ai b.natAbs).length≤10000)(mem:Mem):kO prog 115 [.str (bB a),.str (bB b)] mem (.str (bB (a+b))) mem:=by
 have o:aS prog 115=some f115:=by kernel_rfl
 refine ao vI ?_ mem;have c1:decide (a<0)=decide (b<0)→dS (decide (a<0)) (a.natAbs+b.natAbs)=bB (a+b):=CN;have c2:¬decide (a<0)=decide (b<0)→a.natAbs<b.natAbs→dS (decide (b<0)) (b.natAbs-a.natAbs)=bB (a+b):=Hq;have c3:¬decide (a<0)=decide (b<0)→b.natAbs≤a.natAbs→dS (decide (a<0)) (a.natAbs-b.natAbs)=bB (a+b):=Hp;obtain⟨n,M⟩:∃n,a.natAbs=n:=⟨_,rfl⟩
 obtain⟨m,L⟩:∃m,b.natAbs=m:=⟨_,rfl⟩
 rw[M,L] at c1 c2 c3;rw[M] at ha;rw[L] at hb;have X:(ai n).length≤1000000000:=by omega
 have V:(ai m).length≤1000000000:=by omega
 by_cases hq:(ai n).length≤17∧(ai m).length≤17
 ·obtain⟨O,N⟩:=hq
  have s1:n<10 ^ 17:=by have h1:=bZ n;have h2:10 ^ (ai n).length≤10 ^ 17:=Nat.pow_le_pow_right (by omega) O;omega
  have s2:m<10 ^ 17:=by have h1:=bZ m;have h2:10 ^ (ai m).length≤10 ^ 17:=Nat.pow_le_pow_right (by omega) N;omega
  have w1:IntKind.i64.wrap (a+b)=a+b:=af;have hf:dL (a+b)=true:=by unfold dL;simp;omega
  simp[aa,o,f115,dG,afF.or,ag,bW,bV,aB,M,L,X,V,O,N,w1,hf]
 ·have da:=eg n
  have db:=eg m;have R:(ai n).length≤1000000:=by omega
  have Q:(ai m).length≤1000000:=by omega
  have y:dig 10000 n≠[]∨dig 10000 m≠[]:=by
   by_cases h:(ai n).length≤17
   ·right
    rw[ne_eq,eU (by omega)];intro e;apply hq;rw[e];exact⟨h,by decide⟩
   ·left
    rw[ne_eq,eU (by omega)];intro e;apply h;rw[e];decide
  have j:au 10000 (dig 10000 n)=n:=bC (by omega) _;have Y:au 10000 (dig 10000 m)=m:=bC (by omega) _;have W:lok 10000 (dig 10000 n)=true:=bT (by omega) _;have J:lok 10000 (dig 10000 m)=true:=bT (by omega) _;have ta:aU (dig 10000 n)=dig 10000 n:=bY (by omega) _;have tb:aU (dig 10000 m)=dig 10000 m:=bY (by omega) _;obtain⟨A,I⟩:=xE (dig 10000 n);obtain⟨B,H⟩:=xE (dig 10000 m);rw[←I] at da j W ta y;rw[←H] at db Y J tb y;have ac7:=y.symm;have g1:A.length≤1000000:=by omega
  have g2:B.length≤1000000:=by omega
  have g3:A.length≤1000000000:=by omega
  have g4:B.length≤1000000000:=by omega
  by_cases hs:(decide (a<0))=(decide (b<0))
  ·obtain⟨S,hS⟩:=xE (dig 10000 (n+m))
   have K:au 10000 S=n+m:=by rw[hS];exact bC (by omega) _
   have G:lok 10000 S=true:=by rw[hS];exact bT (by omega) _
   have F:aU S=S:=by rw[hS];exact bY (by omega) _
   have D:S.length≤100000:=by have h1:=jE ha hb;have h2:=eg (n+m);rw[hS];omega
   have Z:=c1 hs;have U :(decide (a<0)==decide (b<0))=true:=by rw[hs];simp
   have C:0≤(n:Int)+(m:Int):=by omega
   have u:((n:Int)+(m:Int)).toNat=n+m:=by omega
   by_cases O:(ai n).length≤17
   ·have N:¬(ai m).length≤17:=fun e=>hq ⟨O,e⟩
    simp[aa,o,f115,dG,afF.or,ag,bW,bV,cJ,bM,aq,aB,bk,M,L,X,V,O,N,cY,bJ,cw,aJ,aD,R,Q,←I,←H,rs0,rs1,rs2,y,W,J,g1,g2,j,Y,C,u,←hS,G,F,D,K,U,Z]
   ·by_cases N:(ai m).length≤17
    ·simp[aa,o,f115,dG,afF.or,ag,bW,bV,cJ,bM,aq,aB,bk,M,L,X,V,O,N,cY,bJ,cw,aJ,aD,R,Q,←I,←H,rs0,rs1,rs2,y,W,J,g1,g2,j,Y,C,u,←hS,G,F,D,K,U,Z]
    ·simp[aa,o,f115,dG,afF.or,ag,bW,bV,cJ,bM,aq,aB,bk,M,L,X,V,O,N,cY,bJ,cw,aJ,aD,R,Q,←I,←H,rs0,rs1,rs2,y,W,J,g1,g2,j,Y,C,u,←hS,G,F,D,K,U,Z]
  ·have U :(decide (a<0)==decide (b<0))=false:=by cases h1:decide (a<0)<;>cases h2:decide (b<0)<;>simp[h1,h2] at hs ⊢
   by_cases FS:n<m
   ·obtain⟨S,hS⟩:=xE (dig 10000 (m-n))
    have K:au 10000 S=m-n:=by rw[hS];exact bC (by omega) _
    have G:lok 10000 S=true:=by rw[hS];exact bT (by omega) _
    have F:aU S=S:=by rw[hS];exact bY (by omega) _
    have D:S.length≤100000:=by have h1:=bx (show m-n≤m by omega);have h2:=eg (m-n);rw[hS];omega
    have Z:=c2 hs FS;have C:0≤(m:Int)+ -(n:Int):=by omega
    have u:((m:Int)+ -(n:Int)).toNat=m-n:=by omega
    by_cases O:(ai n).length≤17
    ·have N:¬(ai m).length≤17:=fun e=>hq ⟨O,e⟩
     simp[aa,o,f115,dG,afF.or,ag,bW,bV,cJ,bM,aq,aB,bk,M,L,X,V,O,N,cY,bJ,cw,cq,cI,aJ,aD,R,Q,←I,←H,rs0,rs1,rs2,ac7,W,J,ta,tb,g1,g2,g3,j,Y,C,u,FS,←hS,G,F,D,K,U,Z]
    ·by_cases N:(ai m).length≤17
     ·simp[aa,o,f115,dG,afF.or,ag,bW,bV,cJ,bM,aq,aB,bk,M,L,X,V,O,N,cY,bJ,cw,cq,cI,aJ,aD,R,Q,←I,←H,rs0,rs1,rs2,ac7,W,J,ta,tb,g1,g2,g3,j,Y,C,u,FS,←hS,G,F,D,K,U,Z]
     ·simp[aa,o,f115,dG,afF.or,ag,bW,bV,cJ,bM,aq,aB,bk,M,L,X,V,O,N,cY,bJ,cw,cq,cI,aJ,aD,R,Q,←I,←H,rs0,rs1,rs2,ac7,W,J,ta,tb,g1,g2,g3,j,Y,C,u,FS,←hS,G,F,D,K,U,Z]
   ·obtain⟨S,hS⟩:=xE (dig 10000 (n-m))
    have K:au 10000 S=n-m:=by rw[hS];exact bC (by omega) _
    have G:lok 10000 S=true:=by rw[hS];exact bT (by omega) _
    have F:aU S=S:=by rw[hS];exact bY (by omega) _
    have D:S.length≤100000:=by have h1:=bx (show n-m≤n by omega);have h2:=eg (n-m);rw[hS];omega
    have Z:=c3 hs (by omega);have C:0≤(n:Int)+ -(m:Int):=by omega
    have u:((n:Int)+ -(m:Int)).toNat=n-m:=by omega
    by_cases O:(ai n).length≤17
    ·have N:¬(ai m).length≤17:=fun e=>hq ⟨O,e⟩
     simp[aa,o,f115,dG,afF.or,ag,bW,bV,cJ,bM,aq,aB,bk,M,L,X,V,O,N,cY,bJ,cw,cq,cI,aJ,aD,R,Q,←I,←H,rs0,rs1,rs2,y,W,J,ta,tb,g1,g2,g3,j,Y,C,u,FS,←hS,G,F,D,K,U,Z]
    ·by_cases N:(ai m).length≤17
     ·simp[aa,o,f115,dG,afF.or,ag,bW,bV,cJ,bM,aq,aB,bk,M,L,X,V,O,N,cY,bJ,cw,cq,cI,aJ,aD,R,Q,←I,←H,rs0,rs1,rs2,y,W,J,ta,tb,g1,g2,g3,j,Y,C,u,FS,←hS,G,F,D,K,U,Z]
     ·simp[aa,o,f115,dG,afF.or,ag,bW,bV,cJ,bM,aq,aB,bk,M,L,X,V,O,N,cY,bJ,cw,cq,cI,aJ,aD,R,Q,←I,←H,rs0,rs1,rs2,y,W,J,ta,tb,g1,g2,g3,j,Y,C,u,FS,←hS,G,F,D,K,U,Z]
noncomputable def gQ(f:FuncId)(args:List AV):Option AV:=
 match f,args with
 |115,[.str s,.str t]=>match jP s,jP t with
  |some a,some b=>if (ai a.natAbs).length≤10000∧(ai b.natAbs).length≤10000 then some (.str (bB (a+b))) else none
  |_,_=>none
 |f,args=>bW f args
theorem OC:qS prog (ag gQ):=bF fun f Z v h mem=>by
 unfold gQ at h;split at h
 ·split at h
  ·rename_i m n V U
   split at h
   next X=>cases h;rw[bS V,bS U];exact Rc m n X.1 X.2 mem
   ·cases h
  ·cases h
 ·have:=Ch.fn _ _ mem ⟨v,none,[]⟩ (by unfold ag;simp only;rw[h])
  simpa [y9.mem] using this
noncomputable def iD(f:FuncId)(args:List AV):Option AV:=gQ f args
theorem OD:qS prog (ag iD):=OC
theorem Re(a b:Int)(y:(ai a.natAbs).length≤5000)(H:(ai b.natAbs).length≤5000)(mem:Mem):kO prog 79 [.str (bB a),.str (bB b)] mem (.str (bB (a*b))) mem:=by
 have G:aS prog 79=some f79:=by kernel_rfl
 refine ao vI ?_ mem;have X:=Fp a b;have V:(a*b).natAbs=a.natAbs*b.natAbs:=Int.natAbs_mul a b;obtain⟨n,R⟩:∃n,a.natAbs=n:=⟨_,rfl⟩
 obtain⟨m,Q⟩:∃m,b.natAbs=m:=⟨_,rfl⟩
 rw[R,Q] at X V;rw[R] at y;rw[Q] at H;by_cases F:(ai n).length+(ai m).length≤18
 ·have I:(ai n).length≤18:=by omega
  have q2:(ai m).length≤18:=by omega
  have s3:n*m<10 ^ 18:=by have D:=bZ n;have C:=bZ m;have h3:n*m<10 ^ (ai n).length*10 ^ (ai m).length:=Nat.mul_lt_mul'' D C;rw[←Nat.pow_add] at h3;have h4:10 ^ ((ai n).length+(ai m).length)≤10 ^ 18:=Nat.pow_le_pow_right (by omega) F;omega
  obtain⟨p,O⟩:=xE (a*b);rw[←O] at V;have w0:IntKind.i64.wrap (((ai n).length:Int)+((ai m).length:Int))=(((ai n).length+(ai m).length:Nat):Int):=by rw[af];omega
  have Z:(((ai n).length+(ai m).length:Nat):Int)≤18:=by omega
  have w1:IntKind.i64.wrap (a*b)=p:=by rw[←O];exact af
  have hf:dL p=true:=by unfold dL;simp;omega
  obtain⟨l,N⟩:=xE ((ai n).length+(ai m).length);rw[←N] at w0 Z;rw[←O];simp[aa,G,f79,dG,afF.or,ag,bW,bV,cJ,bM,aJ,aD,aB,R,Q,w0,Z,I,q2,w1,hf]
 ·have da:=eg n
  have db:=eg m;have M:(ai n).length≤1000000:=by omega
  have L:(ai m).length≤1000000:=by omega
  have K:dig 10000 n≠[]∨dig 10000 m≠[]:=by
   by_cases h:n=0
   ·right
    rw[ne_eq,eU (by omega)];intro e;apply F;rw[h,e];decide
   ·left
    rw[ne_eq,eU (by omega)];exact h
  have u:au 10000 (dig 10000 n)=n:=bC (by omega) _;have o:au 10000 (dig 10000 m)=m:=bC (by omega) _;have j:lok 10000 (dig 10000 n)=true:=bT (by omega) _;have Y:lok 10000 (dig 10000 m)=true:=bT (by omega) _;obtain⟨A,W⟩:=xE (dig 10000 n);obtain⟨B,J⟩:=xE (dig 10000 m);rw[←W] at da u j K;rw[←J] at db o Y K;have g1:A.length≤5000:=by omega
  have g2:B.length≤5000:=by omega
  obtain⟨S,hS⟩:=xE (dig 10000 (n*m));have vs:au 10000 S=n*m:=by rw[hS];exact bC (by omega) _
  have os:lok 10000 S=true:=by rw[hS];exact bT (by omega) _
  have ts:aU S=S:=by rw[hS];exact bY (by omega) _
  have g5:S.length≤100000:=by have D:=dq y H;have C:=eg (n*m);rw[hS];omega
  obtain⟨mn,U⟩:=xE (!(decide (a<0)==decide (b<0)));rw[←U] at X;have w0:IntKind.i64.wrap (((ai n).length:Int)+((ai m).length:Int))=(((ai n).length+(ai m).length:Nat):Int):=by rw[af];omega
  have Z:¬(((ai n).length+(ai m).length:Nat):Int)≤18:=by omega
  obtain⟨l,N⟩:=xE ((ai n).length+(ai m).length);rw[←N] at w0 Z;have hlN:¬l≤18:=by omega
  simp[aa,G,f79,dG,afF.or,ag,bW,bV,cJ,bM,aq,aJ,aD,bk,R,Q,w0,Z,cY,bJ,cw,M,L,←W,←J,rs0,rs1,rs2,K,j,Y,g1,g2,u,o,←hS,os,ts,g5,vs,←U,X]
theorem Gf(a:Int)(b:Nat)(y:0<b)(H:0≤a∨a.natAbs%b=0)(ha:(ai a.natAbs).length≤10000)(hb:(ai b).length≤10000)(mem:Mem):
  kO prog 121 [.str (bB a),.str (ai b)] mem (.tuple [.str (bB (a / b)),.str (ai (a.natAbs%b))]) mem:=by
 have I:aS prog 121=some f121:=by kernel_rfl
 refine ao vI ?_ mem;have V:jP (ai b)=some (b:Int):=aB (b:Int);have O:Lib.hasPrefix (ai b) [45]=false:=by have:=aJ (b:Int);rw[show bB (b:Int)=ai b from rfl] at this;rw[this];simp
 have N:Lib.trimPrefix (ai b) [45]=ai b:=by have:=aD (b:Int);rw[show bB (b:Int)=ai b from rfl,Int.natAbs_natCast] at this;exact this
 have K:=Fo y H;have Y:=ze y H;obtain⟨n,m⟩:∃n,a.natAbs=n:=⟨_,rfl⟩
 rw[m] at K Y ha H ⊢;have U:(ai n).length≤1000000000:=by omega
 have S:(ai b).length≤1000000000:=by omega
 have aeS:n%b<b:=Nat.mod_lt _ y;obtain⟨q,hq⟩:=xE (n / b);obtain⟨r,hr⟩:=xE (n%b);rw[←hq] at K;rw[←hr] at Y H aeS ⊢;obtain⟨Z,hZ⟩:=xE (a / (b:Int));rw[←hZ] at K Y ⊢;have aeT :¬b=0:=by omega
 by_cases o:(ai n).length≤17∧(ai b).length≤17
 ·obtain⟨G,F⟩:=o
  have s1:n<10 ^ 17:=by have h1:=bZ n;have h2:10 ^ (ai n).length≤10 ^ 17:=Nat.pow_le_pow_right (by omega) G;omega
  have s2:b<10 ^ 17:=by have h1:=bZ b;have h2:10 ^ (ai b).length≤10 ^ 17:=Nat.pow_le_pow_right (by omega) F;omega
  have hZb:Z.natAbs≤n:=by rw[hZ,←m];exact Int.natAbs_ediv_le_natAbs _ _
  have w1:IntKind.i64.wrap (a.tdiv (b:Int))=Z:=by rw[Y.1];exact af
  have w2:IntKind.i64.wrap Z=Z:=af;have hf1:dL Z=true:=by unfold dL;simp;omega
  have hf2:dL (r:Int)=true:=by unfold dL;simp;omega
  have hrs:bB (r:Int)=ai r:=rfl;have hrn:¬(r:Int)<0:=by omega
  simp[aa,I,f121,dG,afF.or,ag,bW,bV,aB,V,m,U,S,G,F,aeT,Y,w2,hrn,hf1,hf2,hrs,Nat.testBit]
 ·have da:=eg n
  have db:=eg b;have M:(ai n).length≤1000000:=by omega
  have L:(ai b).length≤1000000:=by omega
  have W:au 10000 (dig 10000 n)=n:=bC (by omega) _;have vb:au 10000 (dig 10000 b)=b:=bC (by omega) _;have oa:lok 10000 (dig 10000 n)=true:=bT (by omega) _;have ob:lok 10000 (dig 10000 b)=true:=bT (by omega) _;have tb:aU (dig 10000 b)=dig 10000 b:=bY (by omega) _;have hn0:dig 10000 n=[]↔n=0:=eU (by omega);obtain⟨A,J⟩:=xE (dig 10000 n);obtain⟨B,hB⟩:=xE (dig 10000 b);rw[←J] at da W oa hn0;rw[←hB] at db vb ob tb;have g1:A.length≤50000:=by omega
  have g2:B.length≤50000:=by omega
  have C:dS false r=ai r:=mY r;obtain⟨Q,hQ⟩:=xE (dig 10000 q);obtain⟨R,j⟩:=xE (dig 10000 r);have vq:au 10000 Q=q:=by rw[hQ];exact bC (by omega) _
  have oq:lok 10000 Q=true:=by rw[hQ];exact bT (by omega) _
  have tq:aU Q=Q:=by rw[hQ];exact bY (by omega) _
  have gq:Q.length≤100000:=by have h1:=bx (show q≤n by rw[hq];exact Nat.div_le_self _ _);have h2:=eg q;rw[hQ];omega
  have vr:au 10000 R=r:=by rw[j];exact bC (by omega) _
  have or:lok 10000 R=true:=by rw[j];exact bT (by omega) _
  have tr:aU R=R:=by rw[j];exact bY (by omega) _
  have gr:R.length≤100000:=by have h1:=bx (show r≤b by omega);have h2:=eg r;rw[j];omega
  by_cases D:A=[]
  ·have ac8:=hn0.1 D
   have hq0:q=0:=by rw[hq,ac8];exact Nat.zero_div _
   have ac9:r=0:=by rw[hr,ac8];exact Nat.zero_mod _
   have X:¬a<0:=by omega
   rw[hq0] at K;have aeU:bB Z=[48]:=by rw[←K];rfl
   have hrd:ai r=[48]:=by rw[ac9];exact jH
   have e1:∀l,aZ .i64 (.cells true 1 []::l) (.slice 0 0 0 none)=some []:=fun l=>aP (A:=[]) rfl (by simp) rfl
   have e2:∀a0 a1 l,aZ .i64 (a0::a1::.cells true 1 []::l) (.slice 2 0 0 none)=some []:=fun a0 a1 l=>aP (A:=[]) rfl (by simp) rfl
   have k1:lok 10000 []=true:=rfl;have k2:aU []=[]:=rfl;have k3:au 10000 []=0:=rfl;have k4:∀mn,dS mn 0=[48]:=fun mn=>rfl
   have k5:dS false n=[48]:=by rw[ac8];rfl
   rw[aeU,hrd];rw[D] at J W;clear K C hQ j;by_cases G:(ai n).length≤17
   ·have F:¬(ai b).length≤17:=fun e=>o ⟨G,e⟩
    simp[aa,I,f121,dG,afF.or,ag,bW,bV,cJ,bM,aq,aB,V,bk,m,U,S,G,F,cY,bJ,aJ,aD,O,N,M,L,←J,←hB,rs1,ob,tb,g2,W,vb,y,e1,e2,k1,k2,k5,X]
   ·by_cases F:(ai b).length≤17
    ·simp[aa,I,f121,dG,afF.or,ag,bW,bV,cJ,bM,aq,aB,V,bk,m,U,S,G,F,cY,bJ,aJ,aD,O,N,M,L,←J,←hB,rs1,ob,tb,g2,W,vb,y,e1,e2,k1,k2,k5,X]
    ·simp[aa,I,f121,dG,afF.or,ag,bW,bV,cJ,bM,aq,aB,V,bk,m,U,S,G,F,cY,bJ,aJ,aD,O,N,M,L,←J,←hB,rs1,ob,tb,g2,W,vb,y,e1,e2,k1,k2,k5,X]
  ·by_cases X:a<0
   ·have ac9:r=0:=by rcases H with h | h<;>omega
    have hR0:R=[]:=by rw[j,ac9];exact dK _
    have hRl:¬0<R.length:=by rw[hR0];simp
    have u :dS true q=bB Z:=by rw[←K,decide_eq_true X]
    by_cases G:(ai n).length≤17
    ·have F:¬(ai b).length≤17:=fun e=>o ⟨G,e⟩
     simp[aa,I,f121,dG,afF.or,ag,bW,bV,cJ,bM,aq,aB,V,bk,m,U,S,G,F,cY,bJ,aJ,aD,O,N,M,L,←J,←hB,rs0,rs1,rs2,rs3,oa,ob,tb,g1,g2,W,vb,y,←hq,←hr,←hQ,←j,vq,oq,tq,gq,vr,or,tr,gr,C,D,X,hRl,u]
    ·by_cases F:(ai b).length≤17
     ·simp[aa,I,f121,dG,afF.or,ag,bW,bV,cJ,bM,aq,aB,V,bk,m,U,S,G,F,cY,bJ,aJ,aD,O,N,M,L,←J,←hB,rs0,rs1,rs2,rs3,oa,ob,tb,g1,g2,W,vb,y,←hq,←hr,←hQ,←j,vq,oq,tq,gq,vr,or,tr,gr,C,D,X,hRl,u]
     ·simp[aa,I,f121,dG,afF.or,ag,bW,bV,cJ,bM,aq,aB,V,bk,m,U,S,G,F,cY,bJ,aJ,aD,O,N,M,L,←J,←hB,rs0,rs1,rs2,rs3,oa,ob,tb,g1,g2,W,vb,y,←hq,←hr,←hQ,←j,vq,oq,tq,gq,vr,or,tr,gr,C,D,X,hRl,u]
   ·have u :dS false q=bB Z:=by rw[←K,decide_eq_false X]
    by_cases G:(ai n).length≤17
    ·have F:¬(ai b).length≤17:=fun e=>o ⟨G,e⟩
     simp[aa,I,f121,dG,afF.or,ag,bW,bV,cJ,bM,aq,aB,V,bk,m,U,S,G,F,cY,bJ,aJ,aD,O,N,M,L,←J,←hB,rs0,rs1,rs2,rs3,oa,ob,tb,g1,g2,W,vb,y,←hq,←hr,←hQ,←j,vq,oq,tq,gq,vr,or,tr,gr,C,D,X,u]
    ·by_cases F:(ai b).length≤17
     ·simp[aa,I,f121,dG,afF.or,ag,bW,bV,cJ,bM,aq,aB,V,bk,m,U,S,G,F,cY,bJ,aJ,aD,O,N,M,L,←J,←hB,rs0,rs1,rs2,rs3,oa,ob,tb,g1,g2,W,vb,y,←hq,←hr,←hQ,←j,vq,oq,tq,gq,vr,or,tr,gr,C,D,X,u]
     ·simp[aa,I,f121,dG,afF.or,ag,bW,bV,cJ,bM,aq,aB,V,bk,m,U,S,G,F,cY,bJ,aJ,aD,O,N,M,L,←J,←hB,rs0,rs1,rs2,rs3,oa,ob,tb,g1,g2,W,vb,y,←hq,←hr,←hQ,←j,vq,oq,tq,gq,vr,or,tr,gr,C,D,X,u]
noncomputable def fc(f:FuncId)(args:List AV):Option AV:=
 match f,args with
 |121,[.str s,.str t]=>match jP s,xX t with
  |some a,some b=>if (ai a.natAbs).length≤10000∧(ai b).length≤10000∧0<b∧(0≤a∨a.natAbs%b=0) then some (.tuple [.str (bB (a / b)),.str (ai (a.natAbs%b))]) else none
  |_,_=>none
 |79,[.str s,.str t]=>match jP s,jP t with
  |some a,some b=>if (ai a.natAbs).length≤5000∧(ai b.natAbs).length≤5000 then some (.str (bB (a*b))) else none
  |_,_=>none
 |f,args=>iD f args
theorem Cj:qS prog (ag fc):=bF fun f U v h mem=>by
 unfold fc at h;split at h
 ·split at h
  ·rename_i m n X V
   split at h
   next Z=>cases h;rw[bS X,gw V];exact Gf m n Z.2.2.1 Z.2.2.2 Z.1 Z.2.1 mem
   ·cases h
  ·cases h
 ·split at h
  ·rename_i m n X V
   split at h
   next Z=>cases h;rw[bS X,bS V];exact Re m n Z.1 Z.2 mem
   ·cases h
  ·cases h
 ·have:=OD.fn _ _ mem ⟨v,none,[]⟩ (by unfold ag;simp only;rw[h])
  simpa [y9.mem] using this
theorem xz(n:Nat):(ai n==[48])=decide (n=0):=by
 rw[Bool.eq_iff_iff,beq_iff_eq,decide_eq_true_eq];constructor
 ·intro e;exact Bs (e.trans (show [48]=ai 0 from rfl))
 ·rintro rfl;rfl
theorem EF{K:Nat}(x y:Nat)(I:(ai x).length≤10000)(J:(ai y).length≤10000)(W:2*y+1<K){b:Code}(H:ah f120=[b]):
  ∃F:Env→Bool→Env,∀Z d,(ad Z 0=.str (ai x)∧ad Z 1=.str (ai y))→
   aW (bh prog) (fun _=>[0,1]) (ag fc) K 22 0 true (.loop b) ⟨Z,[],d⟩=some (.exit 0,⟨F Z d,[],d⟩)∧ad (F Z d) 0=.str (ai (x.gcd y)):=by
 refine bj rfl (fun Z=>ad Z 0=.str (ai x)∧ad Z 1=.str (ai y)) (fun _ R =>ad R 0=.str (ai (x.gcd y))) ?_;rintro Z d ⟨h0,h1⟩;have S:aA [0,1] (ae b) Z ((0,.str (ai x))::(1,.str (ai y))::Z)=aA [0,1] (ae b) Z Z:=by simp[aA,h0,h1]
 rw[←S];refine bz (α:=Nat×Nat) (fun s=>⟨aA [0,1] (ae b) Z ((0,.str (ai s.1))::(1,.str (ai s.2))::Z),[],d⟩)
  (fun s=>s.2) (fun s=>s.1.gcd s.2=x.gcd y∧(ai s.1).length≤10000∧(ai s.2).length≤10000) (.exit 0) _ d _ (by simp) ?_ K (x,y) ⟨rfl,I,J⟩ (by show y<K;omega)
 rintro ⟨a,c⟩ ⟨hg,ha,hc⟩;simp only at hg ha hc ⊢;clear S;simp[ah,aE,f120] at H;by_cases X:c=0
 ·right
  subst X;rw[Nat.gcd_zero_right] at hg;rw[←hg];subst H;simp[xz]
 ·left
  have V:0<c:=by omega
  have Q:a%c<c:=Nat.mod_lt _ V;have U:(ai (a%c)).length≤10000:=by have:=bx (show a%c≤c by omega);omega
  refine⟨(c,a%c),?_⟩;refine bP (show(c.gcd (a%c)=x.gcd y∧(ai c).length≤10000∧(ai (a%c)).length≤10000)∧a%c<c from⟨⟨by rw[←hg,Nat.gcd_comm a c,Nat.gcd_rec c a,Nat.gcd_comm],hc,U⟩,Q⟩) ?_;subst H;simp[xz,X,ag,fc,cn,bk,ha,hc,V]
theorem Rd(a b:Int)(y:(ai a.natAbs).length≤10000)(H:(ai b.natAbs).length≤10000)(mem:Mem):kO prog 120 [.str (bB a),.str (bB b)] mem (.str (ai (a.natAbs.gcd b.natAbs))) mem:=by
 have V:aS prog 120=some f120:=by kernel_rfl
 refine cK Cj (lv:=fun _=>[0,1]) (K:=2*b.natAbs+2) rfl rfl ?_ mem;obtain⟨c,Z⟩:∃c,ah f120=[c]:=⟨_,rfl⟩
 obtain⟨F,X⟩:=EF (K:=2*b.natAbs+2) a.natAbs b.natAbs y H (by omega) Z;obtain⟨K,U⟩:=xE (2*b.natAbs+2);rw[←U] at X ⊢;simp[ah,aE,f120] at Z;subst Z;simp[aa,V,f120,ag,fc,iD,gQ,bW,bV,aB,X]
end Go.Proofs
