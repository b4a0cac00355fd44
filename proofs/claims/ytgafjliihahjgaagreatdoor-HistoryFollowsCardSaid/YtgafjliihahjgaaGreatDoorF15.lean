/- See F54. -/
import Derived.Test.YtgafjliihahjgaaGreatDoorF13
import Derived.Test.YtgafjliihahjgaaGreatDoorF14
set_option linter.all false
set_option maxRecDepth 100000
set_option maxHeartbeats 40000000
namespace Go.Proofs
open Go.Eng
open Tryz
theorem QK(q:Rat)(A:(ak q).length≤1000000000)(mem:Mem):kO prog 258 [.str (ak q)] mem (.str (ak (-q))) mem:=by
 have X:aK prog 258=some f258:=by kernel_rfl
 refine aA (al _) ?_ mem;by_cases Z:q=0
 ·subst Z
  simp[aa,X,f258,cg]
 ·have M:¬q.num=0:=fun e=>Z (Ao.1 e)
  by_cases S:q.num<0
  ·have e:=oT S
   have W:(45::ak (-q)==[48])=false:=by rw[←e,cg];simpa using Z
   rw[e];have h3:(1:Int)≤((ak (-q)).length:Int)+1:=by omega
   simp[aa,X,f258,W,h3]
  ·have e:=rH (q:=q) (by omega)
   obtain⟨c,r,V,hc⟩:=rG (q:=q) (by omega);have W:(c::r==[48])=false:=by rw[←V,cg];simpa using Z
   have O:=gH hc;rw[e,V];rw[V] at A;simp only[List.length_cons] at A;have h3:1+(r.length+1)≤9223372036854775807:=by omega
   simp[aa,X,f258,W,O,h3,gv]
noncomputable def iW(f:FuncId)(args:List AV):Option AV:=
 match f,args with
 |34,[.int .i64 n,.int .i64 d]=>if 0<d∧n.natAbs<10 ^ 8∧d.toNat<10 ^ 8 then some (.str (ak (mkRat n d.toNat))) else none
 |81,[.str s,.str t]=>match dC s,dC t with
  |some a,some b=>if (ak a).length≤9∧(ak b).length≤9 then some (.str (ak (a+b))) else none
  |_,_=>none
 |214,[.str s,.str t]=>match dC s,dC t with
  |some a,some b=>if (ak a).length≤9∧(ak b).length≤9 then some (.str (ak (a*b))) else none
  |_,_=>none
 |258,[.str s]=>match dC s with
  |some a=>if (ak a).length≤9 then some (.str (ak (-a))) else none
  |none=>none
 |_,_=>none
theorem oC:HS prog (af iW):=bH fun f W v h mem=>by
 unfold iW at h;split at h
 ·rename_i n d
  split at h
  ·rename_i hc
   cases h;have:=Ij n d.toNat (by omega) hc.2.1 hc.2.2 mem;rw[Int.toNat_of_nonneg (by omega)] at this;exact this
  ·cases h
 ·split at h
  ·rename_i m n Z X
   split at h
   next hc=>cases h;rw[aw Z,aw X];exact DT m n hc.1 hc.2 mem
   ·cases h
  ·cases h
 ·split at h
  ·rename_i m n Z X
   split at h
   next hc=>cases h;rw[aw Z,aw X];exact QJ m n hc.1 hc.2 mem
   ·cases h
  ·cases h
 ·split at h
  ·rename_i m Z
   split at h
   next hc=>cases h;rw[aw Z];exact QK m (by omega) mem
   ·cases h
  ·cases h
 ·cases h
theorem QL(a b:Rat)(A:(ak a).length≤9)(G:(ak b).length≤9)(H:(ak (-b)).length≤9)(mem:Mem):
  kO prog 213 [.str (ak a),.str (ak b)] mem (.str (ak (a-b))) mem:=by
 have Z:aK prog 213=some f213:=by kernel_rfl
 refine aA oC ?_ mem;have e:a+ -b=a-b:=(Rat.sub_eq_add_neg a b).symm;simp[aa,Z,f213,af,iW,ao,A,G,H,e]
def zS(n:Int):List UInt8:=ak (n:Rat)
variable{n:Int}
theorem fX(h:n.natAbs<10 ^ 4):(ak (n:Rat)).length≤9:=by
 have e:ak (n:Rat)=cC n:=by unfold ak;simp
 rw[e];have Z:=fH n;have X:(aR n.natAbs).length≤4:=bD (by omega) h;omega
noncomputable def BA(f:FuncId)(args:List AV):Option AV:=
 match f,args with
 |213,[.str s,.str t]=>match dC s,dC t with
  |some a,some b=>if (ak a).length≤9∧(ak b).length≤9∧(ak (-b)).length≤9 then some (.str (ak (a-b))) else none
  |_,_=>none
 |f,args=>iW f args
theorem Ol:HS prog (af BA):=bH fun f Z v h mem=>by
 unfold BA at h;split at h
 ·split at h
  ·rename_i m n X W
   split at h
   next hc=>cases h;rw[aw X,aw W];exact QL m n hc.1 hc.2.1 hc.2.2 mem
   ·cases h
  ·cases h
 ·have:=oC.fn _ _ mem ⟨v,none,[]⟩ (by unfold af;simp only;rw[h])
  simpa [aeQ.mem] using this
variable{a b:Int}
theorem Ma(A:a.natAbs≤30)(G:b.natAbs≤30):(a*b).natAbs≤900:=by rw[Int.natAbs_mul];exact Nat.mul_le_mul A G
theorem Nh(a b c d:Int)(A:a.natAbs≤30)(G:b.natAbs≤30)(hc:c.natAbs≤30)(H:d.natAbs≤30)(mem:Mem):
  kO prog 133 [.str (zS a),.str (zS b),.str (zS c),.str (zS d)] mem (.str (zS (a*d-b*c))) mem:=by
 have V:aK prog 133=some f133:=by kernel_rfl
 have S:=Ma A H;have O:=Ma G hc;have Z:(a:Rat)*(d:Rat)=((a*d:Int):Rat):=(Rat.intCast_mul a d).symm;have X:(b:Rat)*(c:Rat)=((b*c:Int):Rat):=(Rat.intCast_mul b c).symm;obtain⟨x,M⟩:=xE (a*d);obtain⟨y,K⟩:=xE (b*c);rw[←M] at S Z ⊢;rw[←K] at O X ⊢;have W:(x:Rat)-(y:Rat)=((x-y:Int):Rat):=(Rat.intCast_sub x y).symm;obtain⟨z,J⟩:=xE (x-y);rw[←J] at W ⊢;have F:=fX (n:=a) (by omega);have D:=fX (n:=b) (by omega);have C:=fX (n:=c) (by omega);have B:=fX (n:=d) (by omega);have u:=fX (n:=x) (by omega);have m:=fX (n:=y) (by omega);have j:(ak (-(y:Rat))).length≤9:=by rw[←Rat.intCast_neg];exact fX (n:= -y) (by omega)
 refine aA Ol ?_ mem;simp[aa,V,f133,af,BA,iW,zS,ao,F,D,C,B,u,m,j,Z,X,W]
abbrev Z3:=Int×Int×Int
def zA(v:Z3):AV:=.agg [.str (zS v.1),.str (zS v.2.1),.str (zS v.2.2)]
def fq(n:Nat)(v:Z3):Prop:=v.1.natAbs≤n∧v.2.1.natAbs≤n∧v.2.2.natAbs≤n
instance (n:Nat) (v:Z3):Decidable (fq n v):=inferInstanceAs (Decidable (v.1.natAbs≤n∧v.2.1.natAbs≤n∧v.2.2.natAbs≤n))
theorem bV(h0: -1000000≤n)(A:n≤1000000):IntKind.i64.wrap n=n:=by rw[aq]
def jZ(a b:Z3):Z3:=(a.2.1*b.2.2-a.2.2*b.2.1,a.2.2*b.1-a.1*b.2.2,a.1*b.2.1-a.2.1*b.1)
theorem Zp(h:zS a=zS b):a=b:=by
 have:=eO h
 exact_mod_cast this
theorem o6(n:Int):(zS n==[48])=decide (n=0):=by
 have Z:zS 0=[48]:=rfl;by_cases h:n=0
 ·subst h;rfl
 ·rw[decide_eq_false h]
  have:zS n≠[48]:=fun e=>h (Zp (e.trans Z.symm))
  simpa using this
def iu(v:Z3):Bool:=decide (v.1=0)&&decide (v.2.1=0)&&decide (v.2.2=0)
theorem Nt(v:Z3)(mem:Mem):kO prog 79 [zA v] mem (.bool (iu v)) mem:=by
 have V:aK prog 79=some f79:=by kernel_rfl
 refine aA (al _) ?_ mem;obtain⟨a,b,c⟩:=v;have Z:=o6 a;have X:=o6 b;have W:=o6 c;unfold iu zA;simp only;obtain⟨A,S⟩:=xE (zS a);obtain⟨B,O⟩:=xE (zS b);obtain⟨C,M⟩:=xE (zS c);rw[←S] at Z ⊢;rw[←O] at X ⊢;rw[←M] at W ⊢;rw[←Z,←X,←W];cases h1:(A==[48])<;>cases h2:(B==[48])<;>cases h3:(C==[48])<;>simp[aa,V,f79,h1,h2,h3]
noncomputable def vy(f:FuncId)(args:List AV):Option AV:=
 match f,args with
 |133,[.str s,.str t,.str u,.str v]=>match dC s,dC t,dC u,dC v with
  |some a,some b,some c,some d=>if (a.den=1∧b.den=1∧c.den=1∧d.den=1)∧a.num.natAbs≤30∧b.num.natAbs≤30∧c.num.natAbs≤30∧d.num.natAbs≤30 then some (.str (zS (a.num*d.num-b.num*c.num))) else none
  |_,_,_,_=>none
 |_,_=>none
theorem gT{q:Rat}(h:q.den=1):q=(q.num:Rat):=Rat.ext rfl h
theorem By:HS prog (af vy):=bH fun f Z v h mem=>by
 unfold vy at h;split at h
 ·split at h
  ·rename_i a b c d X W hc V
   split at h
   ·rename_i S
    obtain⟨⟨d1,d2,d3,d4⟩,O,M,K,J⟩:=S;cases h;rw[aw X,aw W,aw hc,aw V];have:=Nh a.num b.num c.num d.num O M K J mem;unfold zS at this ⊢;rw[←gT d1,←gT d2,←gT d3,←gT d4] at this;exact this
   ·cases h
  ·cases h
 ·cases h
theorem HD(a b:Z3)(A:fq 30 a)(hb:fq 30 b)(mem:Mem):kO prog 82 [zA a,zA b] mem (zA (jZ a b)) mem:=by
 have hG:aK prog 82=some f82:=by kernel_rfl
 obtain⟨W,V,S⟩:=a;obtain⟨O,M,K⟩:=b;obtain⟨D,C,h3⟩:=A;obtain⟨B,z,u⟩:=hb;simp only at D C h3 B z u;refine aA By ?_ mem;obtain⟨X,J⟩:∃X,aC f82=[X]:=⟨_,rfl⟩
 obtain⟨I',F⟩:=dj J (l:=[0,1,0,4,0,16,0,64,255,0,512,0,2048,0,8192,0,32768,131071,0,262144,0,1048576,0,4194304,0,16777216,67108863,134217727,268435455]) (j:=28) (by kernel_rfl) (by decide);simp[aC,bn,f82] at J;subst J;have Z:∀n:Int,dC (zS n)=some (n:Rat):=fun n=>ao _
 unfold zA jZ;simp only;obtain⟨A1,m⟩:=xE (zS W);obtain⟨A2,Y⟩:=xE (zS V);obtain⟨A3,R⟩:=xE (zS S);obtain⟨B1,I⟩:=xE (zS O);obtain⟨B2,H⟩:=xE (zS M);obtain⟨B3,G⟩:=xE (zS K);have p1:dC A1=some (W:Rat):=by rw[m];exact Z _
 have p2:dC A2=some (V:Rat):=by rw[Y];exact Z _
 have p3:dC A3=some (S:Rat):=by rw[R];exact Z _
 have p4:dC B1=some (O:Rat):=by rw[I];exact Z _
 have p5:dC B2=some (M:Rat):=by rw[H];exact Z _
 have p6:dC B3=some (K:Rat):=by rw[G];exact Z _
 rw[←m,←Y,←R,←I,←H,←G];obtain⟨C1,f1⟩:=xE (zS (V*K-S*M));obtain⟨C2,f2⟩:=xE (zS (S*O-W*K));obtain⟨C3,f3⟩:=xE (zS (W*M-V*O));rw[←f1,←f2,←f3];simp[aa,hG,f82,-aB,ag I',aS,aO,aP,F,af,vy,p1,p2,p3,p4,p5,p6,D,C,h3,B,z,u,←f1,←f2,←f3,bW,aE,Nat.testBit]
theorem UL(n:Int):mkRat n 1=(n:Rat):=by have:=Rat.mkRat_self (n:Rat);exact this
theorem HZ(n:Int)(A:n.natAbs<10 ^ 8)(mem:Mem):kO prog 44 [.int .i64 n] mem (.str (zS n)) mem:=by
 have Z:aK prog 44=some f44:=by kernel_rfl
 refine aA oC ?_ mem;have h:n.natAbs<100000000:=A;have e:=UL n;simp[aa,Z,f44,af,iW,h,e,zS]
noncomputable def vi(f:FuncId)(args:List AV):Option AV:=
 match f,args with
 |44,[.int .i64 n]=>if n.natAbs<10 ^ 8 then some (.str (zS n)) else none
 |_,_=>none
theorem Bd:HS prog (af vi):=bH fun f Z v h mem=>by
 unfold vi at h;split at h
 ·split at h
  next hc=>cases h;exact HZ _ hc mem
  ·cases h
 ·cases h
theorem AQ(v:Z3)(A:fq 10000 v)(mem:Mem):kO prog 25 [.int .i64 v.1,.int .i64 v.2.1,.int .i64 v.2.2] mem (zA v) mem:=by
 have Z:aK prog 25=some f25:=by kernel_rfl
 refine aA Bd ?_ mem;obtain⟨a,b,c⟩:=v;obtain⟨X,W,h3⟩:=A;simp only at X W h3;have V:a.natAbs<100000000:=by omega
 have S:b.natAbs<100000000:=by omega
 have g3:c.natAbs<100000000:=by omega
 simp[aa,Z,f25,af,vi,zA,V,S,g3,bW,aE]
def tz(v:Z3):Z3:=(v.1.tmod 3,v.2.1.tmod 3,v.2.2.tmod 3)
def bN(v:Z3):Z3:=if iu (tz v) then (0,0,1) else tz v
def eJ(n b:Z3):Z3:=if iu (jZ n b) then (if iu (jZ n (1,0,0)) then (if iu (jZ n (0,1,0)) then (0,0,0) else jZ n (0,1,0)) else jZ n (1,0,0)) else jZ n b
theorem YC(x:Int): -2≤x.tmod 3∧x.tmod 3≤2:=by
 have Z:=Int.tmod_lt_of_pos x (show(0:Int)<3 by decide);have X: -3<x.tmod 3:=by have:=Int.tmod_lt_of_pos (-x) (show(0:Int)<3 by decide);rw[Int.neg_tmod] at this;omega
 omega
theorem gp(v:Z3):fq 2 (tz v):=by obtain⟨a,b,c⟩:=v;have Z:=YC a;have X:=YC b;have h3:=YC c;unfold fq tz;simp only;omega
theorem cw(v:Z3):fq 2 (bN v):=by
 unfold bN;split
 ·exact⟨by decide,by decide,by decide⟩
 ·exact gp v
theorem kI(v:Z3):iu (bN v)=false:=by
 unfold bN;split
 ·rfl
 next h=>simpa using h
noncomputable def jH(f:FuncId)(args:List AV):Option AV:=
 match f,args with
 |25,[.int .i64 a,.int .i64 b,.int .i64 c]=>if a.natAbs≤10000∧b.natAbs≤10000∧c.natAbs≤10000 then some (zA (a,b,c)) else none
 |79,[.agg [.str s,.str t,.str u]]=>match dC s,dC t,dC u with
  |some a,some b,some c=>if a.den=1∧b.den=1∧c.den=1 then some (.bool (iu (a.num,b.num,c.num))) else none
  |_,_,_=>none
 |82,[.agg [.str s,.str t,.str u],.agg [.str s',.str t',.str u']]=>match dC s,dC t,dC u,dC s',dC t',dC u' with
  |some a,some b,some c,some d,some e,some f=>if (a.den=1∧b.den=1∧c.den=1∧d.den=1∧e.den=1∧f.den=1)∧fq 30 (a.num,b.num,c.num)∧fq 30 (d.num,e.num,f.num) then some (zA (jZ (a.num,b.num,c.num) (d.num,e.num,f.num))) else none
  |_,_,_,_,_,_=>none
 |f,args=>vi f args
theorem Be:HS prog (af jH):=bH fun f V v h mem=>by
 unfold jH at h;split at h
 ·split at h
  next hc=>cases h;exact AQ (_,_,_) hc mem
  ·cases h
 ·split at h
  ·rename_i a b c Z X hc
   split at h
   ·rename_i W
    obtain⟨d1,d2,d3⟩:=W;cases h;rw[aw Z,aw X,aw hc];have:=Nt (a.num,b.num,c.num) mem;unfold zA zS at this;simp only at this;rw[←gT d1,←gT d2,←gT d3] at this;exact this
   ·cases h
  ·cases h
 ·split at h
  ·rename_i a b c d e f Z X hc S he O
   split at h
   ·rename_i W
    obtain⟨⟨d1,d2,d3,d4,d5,d6⟩,M,K⟩:=W;cases h;rw[aw Z,aw X,aw hc,aw S,aw he,aw O];have:=HD (a.num,b.num,c.num) (d.num,e.num,f.num) M K mem;unfold zA at this;simp only at this;have k:∀q:Rat,q.den=1→zS q.num=ak q:=fun q hq=>by unfold zS;rw[←gT hq]
    rw[k a d1,k b d2,k c d3,k d d4,k e d5,k f d6] at this;exact this
   ·cases h
  ·cases h
 ·have:=Bd.fn _ _ mem ⟨v,none,[]⟩ (by unfold af;simp only;rw[h])
  simpa [aeQ.mem] using this
theorem ij(n:Int):dC (zS n)=some (n:Rat):=ao _
theorem ZZ:zS 1=[49]:=rfl
theorem Fb(v:Z3)(A:fq 200 v)(mem:Mem):kO prog 46 [.agg [.int .i8 v.1,.int .i8 v.2.1,.int .i8 v.2.2]] mem (zA (bN v)) mem:=by
 have F:aK prog 46=some f46:=by kernel_rfl
 refine aA Be ?_ mem;have X:=gp v;unfold bN;obtain⟨a,b,c⟩:=v;obtain⟨u,m,h3⟩:=A;unfold tz at X ⊢;simp only at u m h3 X ⊢;have D:IntKind.i64.wrap a=a:=bV (by omega) (by omega);have C:IntKind.i64.wrap b=b:=bV (by omega) (by omega);have B:IntKind.i64.wrap c=c:=bV (by omega) (by omega);obtain⟨x,W⟩:=xE (a.tmod 3);obtain⟨y,V⟩:=xE (b.tmod 3);obtain⟨z,S⟩:=xE (c.tmod 3);rw[←W,←V,←S] at X ⊢;obtain⟨j,Y,g3⟩:=X;simp only at j Y g3;have O :x.natAbs≤10000:=by omega
 have M :y.natAbs≤10000:=by omega
 have K :z.natAbs≤10000:=by omega
 have R:=ij x;have I:=ij y;have H:=ij z;have G:zS 0=[48]:=rfl;cases hzero:iu (x,y,z) with
 |true=>
  have Z:=hzero;unfold iu at Z;simp only[Bool.and_eq_true,decide_eq_true_eq] at Z;obtain⟨⟨rfl,rfl⟩,rfl⟩:=Z;have J:dC [48]=some ((0:Int):Rat):=ij 0;simp[aa,F,f46,af,jH,D,C,B,←W,←V,←S,zA,hzero,G,ZZ,J]
 |false=>
  simp[aa,F,f46,af,jH,D,C,B,←W,←V,←S,zA,O,M,K,R,I,H,hzero]
theorem nC{a b:Z3}(A:fq 2 a)(G:fq 2 b):fq 8 (jZ a b):=by
 obtain⟨O,M,K⟩:=a;obtain⟨J,F,D⟩:=b;obtain⟨Z,X,h3⟩:=A;obtain⟨W,V,S⟩:=G;simp only at Z X h3 W V S;have m:∀x y:Int,x.natAbs≤2→y.natAbs≤2→(x*y).natAbs≤4:=fun x y C B=>by rw[Int.natAbs_mul];exact Nat.mul_le_mul C B
 unfold jZ fq;simp only;have z:=m M D X S;have u:=m K F h3 V;have j:=m K J h3 W;have Y:=m O D Z S;have R:=m O F Z V;have I:=m M J X W;omega
theorem E9(n b:Z3)(A:fq 2 n)(G:fq 2 b)(mem:Mem):kO prog 48 [zA n,zA b] mem (zA (eJ n b)) mem:=by
 have O:aK prog 48=some f48:=by kernel_rfl
 refine cV Be (lv:=fun _=>[13]) (K:=9) rfl rfl ?_ mem;have u:fq 2 (1,0,0):=by decide
 have m:fq 2 (0,1,0):=by decide
 have c1:=nC A G;have c2:=nC A u;have c3:=nC A m;have Z:fq 30 n:=⟨by have:=A.1;omega,by have:=A.2.1;omega,by have:=A.2.2;omega⟩;have X:fq 30 b:=⟨by have:=G.1;omega,by have:=G.2.1;omega,by have:=G.2.2;omega⟩;have W:fq 30 (1,0,0):=by decide
 have V:fq 30 (0,1,0):=by decide
 unfold eJ;obtain⟨j,S⟩:=xE (jZ n b);obtain⟨Y,M⟩:=xE (jZ n (1,0,0));obtain⟨R,C⟩:=xE (jZ n (0,1,0));rw[←S,←M,←C];obtain⟨n1,n2,n3⟩:=n;obtain⟨b1,b2,b3⟩:=b;obtain⟨I,H,p3⟩:=j;obtain⟨q1,q2,q3⟩:=Y;obtain⟨r1,r2,r3⟩:=R;have J:zS 0=[48]:=rfl;have F:zS 1=[49]:=rfl;have B:dC [48]=some ((0:Int):Rat):=ij 0;have z:dC [49]=some ((1:Int):Rat):=ij 1;have w2' :IntKind.i64.wrap (1+1)=2:=rfl;have w3' :IntKind.i64.wrap (2+1)=3:=rfl;have D:=ij;cases y1:iu (I,H,p3) with
 |false=>
  simp[aa,O,f48,af,jH,zA,D,J,F,Z,X,←S,y1,aQ,er,Nat.testBit]
 |true=>
  cases y2:iu (q1,q2,q3) with
  |false=>
   simp[aa,O,f48,af,jH,zA,D,B,z,J,F,Z,X,W,←S,←M,y1,y2,aQ,er,w1,Nat.testBit]
  |true=>
   cases y3:iu (r1,r2,r3) with
   |false=>
    simp[aa,O,f48,af,jH,zA,D,B,z,J,F,Z,X,W,V,←S,←M,←C,y1,y2,y3,aQ,er,w1,w2,Nat.testBit]
   |true=>
    simp[aa,O,f48,af,jH,zA,D,B,z,J,F,Z,X,W,V,←S,←M,←C,y1,y2,y3,aQ,er,w1,w2,w3,Nat.testBit]
def Hq(a b:Z3):Int:=a.1*b.1+a.2.1*b.2.1+a.2.2*b.2.2
theorem BU(n b:Z3):Hq (jZ n b) n=0:=by
 obtain⟨Z,X,W⟩:=n;obtain⟨V,S,O⟩:=b;unfold Hq jZ;simp only
 grind
theorem sk(n b:Z3):Hq (eJ n b) n=0:=by
 unfold eJ;split
 ·split
  ·split
   ·simp[Hq]
   ·exact BU _ _
  ·exact BU _ _
 ·exact BU _ _
theorem kF{n b:Z3}(A:fq 2 n)(G:fq 2 b):fq 8 (eJ n b):=by
 unfold eJ;split
 ·split
  ·split
   ·decide
   ·exact nC A (by decide)
  ·exact nC A (by decide)
 ·exact nC A G
theorem Xl(h:n.natAbs<10 ^ 4):xv (zS n)=0:=by have:dg 4 1 (n:Rat):=YO h;exact qT (this.mono (by omega) (by omega))
theorem Xw{v:Z3}(h:fq 99 v):sw [zS v.1,zS v.2.1,zS v.2.2]=0:=by obtain⟨Z,X,h3⟩:=h;simp[sw,Xl (n:=v.1) (by omega),Xl (n:=v.2.1) (by omega),Xl (n:=v.2.2) (by omega)]
theorem At(v n:Z3)(G:fq 99 v)(H:fq 99 n)(A:Hq v n=0)(M:Mem):kO prog 255 [zA v,zA n] M (.int .i64 0) M:=by
 have u:aK prog 255=some f255:=by kernel_rfl
 have J:=Xw G;obtain⟨Z,X,W⟩:=v;obtain⟨j,Y,R⟩:=n;obtain⟨F,D,h3⟩:=G;obtain⟨C,B,z⟩:=H;simp only at F D h3 C B z J;have k:∀m:Nat,m≤99→(aR m).length≤2:=fun m hm=>bD (k:=2) (by omega) (by omega)
 have I:(aR 1).length≤1:=bD (k:=1) (by omega) (by omega);have l1:=k _ F;have l2:=k _ D;have l3:=k _ h3;have l4:=k _ C;have l5:=k _ B;have l6:=k _ z;have s1:=fX (n:=Z) (by omega);have s2:=fX (n:=X) (by omega);have s3:=fX (n:=W) (by omega);have V :(zS Z).length≤18:=by unfold zS;omega
 have S :(zS X).length≤18:=by unfold zS;omega
 have O :(zS W).length≤18:=by unfold zS;omega
 have K:(Z:Rat)*(j:Rat)+(X:Rat)*(Y:Rat)+(W:Rat)*(R:Rat)=0:=by unfold Hq at A;simp only at A;rw[←Rat.intCast_mul,←Rat.intCast_mul,←Rat.intCast_mul,←Rat.intCast_add,←Rat.intCast_add,A];rfl
 have hp:=ij;have z0:ak 0=[48]:=rfl;refine aA yn ?_ M;simp[aa,u,f255,af,qO,zA,hp,J,I,l1,l2,l3,l4,l5,l6,V,S,O,K,z0]
theorem o9(n:Z3)(o:Int)(G:fq 99 n)(H:iu n=false)(ho:o.natAbs≤1000)(M:Mem):kO prog 254 [.agg [.str (zS n.1),.str (zS n.2.1),.str (zS n.2.2),.str (zS o)]] M (.int .i64 0) M:=by
 have z:aK prog 254=some f254:=by kernel_rfl
 obtain⟨Z,X,W⟩:=n;obtain⟨u,m,j⟩:=G;simp only at u m j;have s1:=fX (n:=Z) (by omega);have s2:=fX (n:=X) (by omega);have s3:=fX (n:=W) (by omega);have s4:=fX (n:=o) (by omega);have V :(zS Z).length≤18:=by unfold zS;omega
 have S :(zS X).length≤18:=by unfold zS;omega
 have O :(zS W).length≤18:=by unfold zS;omega
 have K :(zS o).length≤18:=by unfold zS;omega
 have J:sw [zS Z,zS X,zS W,zS o]=0:=by simp[sw,Xl (n:=Z) (by omega),Xl (n:=X) (by omega),Xl (n:=W) (by omega),Xl (n:=o) (by omega)]
 have Y:=o6 Z;have R:=o6 X;have I:=o6 W;have F:((zS Z==[48]&&zS X==[48])&&zS W==[48])=false:=by rw[Y,R,I];exact H
 refine aA K8 ?_ M;simp only at F ⊢;obtain⟨A,hA⟩:=xE (zS Z);obtain⟨B,hB⟩:=xE (zS X);obtain⟨C,hC⟩:=xE (zS W);obtain⟨D,hD⟩:=xE (zS o);rw[←hA] at V J F ⊢;rw[←hB] at S J F ⊢;rw[←hC] at O J F ⊢;rw[←hD] at K J ⊢;simp[aa,z,f254,K7,aeT.or,af,qO,gF,nQ,nS,J,F,V,S,O,K]
end Go.Proofs
