/- See F54. -/
import Derived.Test.YtgafjliihahjgaaGreatDoorF14
import Derived.Test.YtgafjliihahjgaaGreatDoorF12
set_option linter.all false
set_option maxRecDepth 100000
set_option maxHeartbeats 40000000
namespace Go.Eng
def Sm(D V:Nat)(q:Rat):Prop:=0<D∧(∃n:Int,q*(D:Rat)=(n:Rat))∧ -(V:Rat)≤q∧q≤(V:Rat)
theorem iX(a b:Nat):((a*b:Nat):Rat)=(a:Rat)*(b:Rat):=by have:((a*b:Nat):Rat)=(((a*b:Nat):Int):Rat):=(Rat.intCast_natCast _).symm;rw[this,Int.natCast_mul,Rat.intCast_mul,Rat.intCast_natCast,Rat.intCast_natCast]
theorem XN(a b:Nat):((a+b:Nat):Rat)=(a:Rat)+(b:Rat):=by have:((a+b:Nat):Rat)=(((a+b:Nat):Int):Rat):=(Rat.intCast_natCast _).symm;rw[this,Int.natCast_add,Rat.intCast_add,Rat.intCast_natCast,Rat.intCast_natCast]
variable{a b:Nat}
theorem YM(h:a≤b):(a:Rat)≤(b:Rat):=by exact_mod_cast h
theorem PA(a:Nat):(0:Rat)≤(a:Rat):=by exact_mod_cast Nat.zero_le a
variable{D V W:Nat}{q:Rat}
theorem Sm.mono(h:Sm D V q)(A:V≤W):Sm D W q:=by obtain⟨Z,X,S,h3⟩:=h;have:=YM A;exact⟨Z,X,by grind,by grind⟩
theorem Sm.up(h:Sm D V q)(k:Nat)(A:0<k):Sm (D*k) V q:=by obtain⟨Z,⟨n,X⟩,S,h3⟩:=h;refine⟨Nat.mul_pos Z A,⟨n*k,?_⟩,S,h3⟩;rw[iX,←Rat.mul_assoc,X,Rat.intCast_mul,Rat.intCast_natCast]
variable{E:Nat}
theorem Sm.to(h:Sm D V q)(A:D∣E)(G:0<E)(H:V≤W):Sm E W q:=by obtain⟨k,rfl⟩:=A;exact(h.up k (Nat.pos_of_mul_pos_left G)).mono H
theorem Sm.int{n:Int}(h:n.natAbs≤V):Sm 1 V (n:Rat):=by
 refine⟨by omega,⟨n,by rw[show((1:Nat):Rat)=1 from rfl,Rat.mul_one]⟩,?_,?_⟩
 ·have:(-(V:Int):Int)≤n:=by omega
  have:=Rat.intCast_le_intCast.2 this;rw[Rat.intCast_neg,Rat.intCast_natCast] at this;exact this
 ·have:n≤(V:Int):=by omega
  have:=Rat.intCast_le_intCast.2 this;rw[Rat.intCast_natCast] at this;exact this
variable{p:Rat}
theorem Sm.add(h:Sm D V p)(k:Sm D W q):Sm D (V+W) (p+q):=by obtain⟨Z,⟨n,X⟩,O,h3⟩:=h;obtain⟨_,⟨m,S⟩,M,K⟩:=k;refine⟨Z,⟨n+m,by rw[Rat.add_mul,X,S,Rat.intCast_add]⟩,?_,?_⟩<;>rw[XN]<;>grind
theorem Sm.neg(h:Sm D V p):Sm D V (-p):=by obtain⟨Z,⟨n,X⟩,S,h3⟩:=h;exact⟨Z,⟨-n,by rw[Rat.neg_mul,X,Rat.intCast_neg]⟩,by grind,by grind⟩
theorem Sm.sub(h:Sm D V p)(k:Sm D W q):Sm D (V+W) (p-q):=by rw[Rat.sub_eq_add_neg];exact h.add k.neg
theorem WY{v w:Rat}(A: -v≤p)(h3:p≤v)(G: -w≤q)(H:q≤w): -(v*w)≤p*q∧p*q≤v*w:=by have Z:=Rat.mul_nonneg (show 0≤v-p by grind) (show 0≤w+q by grind);have X:=Rat.mul_nonneg (show 0≤v+p by grind) (show 0≤w-q by grind);have S:=Rat.mul_nonneg (show 0≤v+p by grind) (show 0≤w+q by grind);have O:=Rat.mul_nonneg (show 0≤v-p by grind) (show 0≤w-q by grind);constructor<;>grind
theorem Sm.mul(h:Sm D V p)(k:Sm E W q):Sm (D*E) (V*W) (p*q):=by
 obtain⟨Z,⟨n,X⟩,S,h3⟩:=h;obtain⟨O,⟨m,M⟩,K,J⟩:=k;have:=WY S h3 K J;refine⟨Nat.mul_pos Z O,⟨n*m,?_⟩,?_,?_⟩
 ·rw[iX,Rat.intCast_mul,←X,←M];grind
 ·rw[iX];exact this.1
 ·rw[iX];exact this.2
theorem Sm.dg(h:Sm D V q)(G:D*V<10 ^ a)(A:D<10 ^ b):dg a b q:=by
 obtain⟨M,⟨n,h3⟩,K,J⟩:=h;have O:(D:Rat)≠0:=fun e=>by rw[Rat.natCast_eq_zero_iff] at e;omega
 have e:q=mkRat n D:=by rw[Rat.mkRat_eq_div,←h3];exact(Rat.mul_div_cancel O).symm
 rw[e];refine oK (by omega) ?_ A;have Z:=PA D;have F:=Rat.mul_nonneg (show 0≤(V:Rat)-q by grind) Z;have C:=Rat.mul_nonneg (show 0≤(V:Rat)+q by grind) Z;have X:(n:Rat)≤(((V*D:Nat):Int):Rat):=by rw[Rat.intCast_natCast,iX,←h3];grind
 have S:((-((V*D:Nat):Int):Int):Rat)≤(n:Rat):=by rw[Rat.intCast_neg,Rat.intCast_natCast,iX,←h3];grind
 have X:=Rat.intCast_le_intCast.1 X;have S:=Rat.intCast_le_intCast.1 S;have c:V*D=D*V:=Nat.mul_comm _ _;omega
theorem Sm.lens(h:Sm D V q)(A:D*V<10 ^ 9)(G:D<10 ^ 9):(aR q.num.natAbs).length≤9∧(aR q.den).length≤9:=(h.dg A G).lens (by omega) (by omega)
theorem Sm.inv{N:Nat}(h:0<N):Sm N 1 ((1:Rat) / (N:Rat)):=by
 have Z:(N:Rat)≠0:=fun e=>by rw[Rat.natCast_eq_zero_iff] at e;omega
 have X:(1:Rat) / (N:Rat)*(N:Rat)=1:=Rat.div_mul_cancel Z;have O:(0:Rat)<(N:Rat):=by exact_mod_cast h
 have M:(1:Rat)≤(N:Rat):=by exact_mod_cast h
 have S:(0:Rat)≤1 / (N:Rat):=by
  rcases (Rat.le_total:(0:Rat)≤1 / (N:Rat)∨1 / (N:Rat)≤0) with h | h
  ·exact h
  ·have:=Rat.mul_nonneg (show(0:Rat)≤ -(1 / (N:Rat)) by grind) (PA N)
   grind
 refine⟨h,⟨1,by rw[X];rfl⟩,by rw[show((1:Nat):Rat)=1 from rfl];grind,?_⟩;rw[show((1:Nat):Rat)=1 from rfl];have:=Rat.mul_nonneg S (show 0≤(N:Rat)-1 by grind)
 grind
end Go.Eng
namespace Go.Proofs
open Go.Eng
def j9(a b:V3):V3:=(a.1+b.1,a.2.1+b.2.1,a.2.2+b.2.2)
def jR(a:V3)(k:Rat):V3:=(a.1*k,a.2.1*k,a.2.2*k)
def VB(a b:V3):V3:=(a.2.1*b.2.2-a.2.2*b.2.1,a.2.2*b.1-a.1*b.2.2,a.1*b.2.1-a.2.1*b.1)
def vF(a:V3):Prop:=aeZ a.1∧aeZ a.2.1∧aeZ a.2.2
def afg(a b:V3):Prop:=vF a∧vF b∧MD [a.1*b.1,a.2.1*b.2.1,a.2.2*b.2.2] 0
def agj(a b:V3):Prop:=(vF a∧vF b)∧(aeZ (a.2.1*b.2.2)∧aeZ (a.2.2*b.2.1))∧(aeZ (a.2.2*b.1)∧aeZ (a.1*b.2.2))∧aeZ (a.1*b.2.1)∧aeZ (a.2.1*b.1)
def Hj(a:V3)(k:Rat):Prop:=vF a∧aeZ k
def vC(v:V3):Prop:=sw [ak v.1,ak v.2.1,ak v.2.2]=0∧(ak v.1).length≤18∧(ak v.2.1).length≤18∧(ak v.2.2).length≤18
def vSm(D V:Nat)(a:V3):Prop:=Sm D V a.1∧Sm D V a.2.1∧Sm D V a.2.2
end Go.Proofs
namespace Go.Eng
theorem Sm.aeZ{D V:Nat}{q:Rat}(h:Sm D V q)(A:D*V<10 ^ 9:=by omega)(Z:D<10 ^ 9:=by omega):Go.Proofs.aeZ q:=h.lens A Z
end Go.Eng
namespace Go.Proofs
open Go.Eng
theorem LL:aeZ 0:=⟨by decide,by decide⟩
section
variable {D V E W:Nat}{a b:V3}{r:Rat}
section
variable (h:vSm D V a)
include h
theorem vSm.mono(A:V≤W):vSm D W a:=⟨h.1.mono A,h.2.1.mono A,h.2.2.mono A⟩
theorem vSm.to(A:D∣E)(G:0<E)(H:V≤W):vSm E W a:=⟨h.1.to A G H,h.2.1.to A G H,h.2.2.to A G H⟩
theorem vSm.vF(A:D*V<10 ^ 9:=by omega)(Z:D<10 ^ 9:=by omega):vF a:=⟨h.1.aeZ A Z,h.2.1.aeZ A Z,h.2.2.aeZ A Z⟩
theorem vSm.add(k:vSm D W b):vSm D (V+W) (j9 a b):=⟨h.1.add k.1,h.2.1.add k.2.1,h.2.2.add k.2.2⟩
theorem vSm.scl(g:Sm E W r):vSm (D*E) (V*W) (jR a r):=⟨h.1.mul g,h.2.1.mul g,h.2.2.mul g⟩
section
variable (k:vSm E W b)
include k
theorem vSm.dot:Sm (D*E) (V*W+V*W+V*W) (da a b):=((h.1.mul k.1).add (h.2.1.mul k.2.1)).add (h.2.2.mul k.2.2)
theorem vSm.crs:vSm (D*E) (V*W+V*W) (VB a b):=⟨(h.2.1.mul k.2.2).sub (h.2.2.mul k.2.1),(h.2.2.mul k.1).sub (h.1.mul k.2.2),(h.1.mul k.2.1).sub (h.2.1.mul k.1)⟩
section
variable (h1:D*V<10 ^ 9)(h2:D<10 ^ 9)(h3:E*W<10 ^ 9)(h4:E<10 ^ 9)
include h1 h2 h3 h4
theorem vSm.afg(G:D*E*(V*W+V*W)<10 ^ 9)(A:D*E<10 ^ 9):afg a b:=by
 have Z:=h.1.mul k.1;have X:=h.2.1.mul k.2.1;have S:=h.2.2.mul k.2.2;have l:D*E*(V*W)<10 ^ 9:=Nat.lt_of_le_of_lt (Nat.mul_le_mul_left _ (Nat.le_add_left _ _)) G;have f1:=Z.aeZ l A;refine⟨h.vF h1 h2,k.vF h3 h4,LL,f1,?_,X.aeZ l A,?_,S.aeZ l A,trivial⟩
 ·rw[Rat.zero_add];exact f1
 ·rw[Rat.zero_add];exact(Z.add X).aeZ G A
theorem vSm.agj(A:D*E*(V*W)<10 ^ 9)(G:D*E<10 ^ 9):agj a b:=
 ⟨⟨h.vF h1 h2,k.vF h3 h4⟩,⟨(h.2.1.mul k.2.2).aeZ A G,(h.2.2.mul k.2.1).aeZ A G⟩,⟨(h.2.2.mul k.1).aeZ A G,(h.1.mul k.2.2).aeZ A G⟩,(h.1.mul k.2.1).aeZ A G,(h.2.1.mul k.1).aeZ A G⟩
end
end
theorem vSm.vC(A:D*V<10 ^ 9:=by omega)(Z:D<10 ^ 7:=by omega):vC a:=by
 have g:∀q,Sm D V q→xv (ak q)=0∧(ak q).length≤18:=fun q hq=>by have d:=hq.dg A Z;exact⟨qT (d.mono (by decide) (by decide)),PN d (by decide) (by decide) (by decide)⟩
 obtain⟨X,S⟩:=g _ h.1;obtain⟨O,M⟩:=g _ h.2.1;obtain⟨K,J⟩:=g _ h.2.2;exact⟨by simp[sw,X,O,K],S,M,J⟩
end
end
def v3P(a b c:List UInt8):Option V3:=match dC a,dC b,dC c with
 |some x,some y,some z=>some (x,y,z)
 |_,_,_=>none
theorem jc(x y z:Rat):v3P (ak x) (ak y) (ak z)=some (x,y,z):=by simp only[v3P,ao]
theorem fE{a b c:List UInt8}{v:V3}(h:v3P a b c=some v):a=ak v.1∧b=ak v.2.1∧c=ak v.2.2:=by
 unfold v3P at h;split at h
 ·rename_i x y z Z X W
  cases h;exact⟨aw Z,aw X,aw W⟩
 ·cases h
end Go.Proofs
namespace Go.Proofs
open Go.Eng
open Tryz
theorem Qo(a b:V3)(h:afg a b)(M:Mem):kO prog 86 [vA a,vA b] M (.str (ak (da a b))) M:=by
 have I:aK prog 86=some f86:=by kernel_rfl
 obtain⟨W,V,S⟩:=a;obtain⟨O,K,J⟩:=b;obtain⟨⟨⟨f1,f2⟩,⟨f3,f4⟩,f5,f6⟩,⟨⟨B,z⟩,⟨g3,u⟩,m,j⟩,F⟩:=h;simp only at f1 f2 f3 f4 f5 f6 B z g3 u m j F;have Z:CO [W*O,V*K,S*J] 0=W*O+V*K+S*J:=by simp[CO,Rat.zero_add]
 unfold da;simp only;obtain⟨p,Y⟩:=xE (W*O);obtain⟨q,hq⟩:=xE (V*K);obtain⟨r,R⟩:=xE (S*J);rw[←Y,←hq,←R] at F Z ⊢;refine aA fT ?_ M;obtain⟨X,D⟩:∃X,aC f86=[X]:=⟨_,rfl⟩
 have H:=iY D (l:=[0,1,0,4,15,0,32,0,128,511,0,1024,0,4096,16383,32767,65535,131071]) (by kernel_rfl);have C:Ls [0,1,0,4,15,0,32,0,128,511,0,1024,0,4096,16383,32767,65535,131071] 18 15=true:=by decide
 simp[aC,bn,f86] at D;subst D;simp[aa,I,f86,-aB,ju H,kx,qR,yo,bR,C,vA,gF,nQ,nS,Ha,ao,af,aj,az,f1,f2,f3,f4,f5,f6,B,z,g3,u,m,j,←Y,←hq,←R,F,Z,Nat.testBit]
theorem DR(a b:V3)(h:afg a b)(M:Mem):kO prog 73 [vA a,vA b] M (.str (ak (da a b))) M:=by
 have I:aK prog 73=some f73:=by kernel_rfl
 obtain⟨W,V,S⟩:=a;obtain⟨O,K,J⟩:=b;obtain⟨⟨⟨f1,f2⟩,⟨f3,f4⟩,f5,f6⟩,⟨⟨B,z⟩,⟨g3,u⟩,m,j⟩,F⟩:=h;simp only at f1 f2 f3 f4 f5 f6 B z g3 u m j F;have Z:CO [W*O,V*K,S*J] 0=W*O+V*K+S*J:=by simp[CO,Rat.zero_add]
 unfold da;simp only;obtain⟨p,Y⟩:=xE (W*O);obtain⟨q,hq⟩:=xE (V*K);obtain⟨r,R⟩:=xE (S*J);rw[←Y,←hq,←R] at F Z ⊢;refine aA fT ?_ M;obtain⟨X,D⟩:∃X,aC f73=[X]:=⟨_,rfl⟩
 have H:=iY D (l:=[0,1,0,4,15,0,32,0,128,511,0,1024,0,4096,16383,32767,65535,131071]) (by kernel_rfl);have C:Ls [0,1,0,4,15,0,32,0,128,511,0,1024,0,4096,16383,32767,65535,131071] 18 15=true:=by decide
 simp[aC,bn,f73] at D;subst D;simp[aa,I,f73,-aB,ju H,kx,qR,yo,bR,C,vA,gF,nQ,nS,Ha,ao,af,aj,az,f1,f2,f3,f4,f5,f6,B,z,g3,u,m,j,←Y,←hq,←R,F,Z,Nat.testBit]
theorem Qp(a b:V3)(h:afg a b)(M:Mem):kO prog 246 [vA a,vA b] M (.str (ak (da a b))) M:=by
 have I:aK prog 246=some f246:=by kernel_rfl
 obtain⟨W,V,S⟩:=a;obtain⟨O,K,J⟩:=b;obtain⟨⟨⟨f1,f2⟩,⟨f3,f4⟩,f5,f6⟩,⟨⟨B,z⟩,⟨g3,u⟩,m,j⟩,F⟩:=h;simp only at f1 f2 f3 f4 f5 f6 B z g3 u m j F;have Z:CO [W*O,V*K,S*J] 0=W*O+V*K+S*J:=by simp[CO,Rat.zero_add]
 unfold da;simp only;obtain⟨p,Y⟩:=xE (W*O);obtain⟨q,hq⟩:=xE (V*K);obtain⟨r,R⟩:=xE (S*J);rw[←Y,←hq,←R] at F Z ⊢;refine aA fT ?_ M;obtain⟨X,D⟩:∃X,aC f246=[X]:=⟨_,rfl⟩
 have H:=iY D (l:=[0,1,0,4,15,0,32,0,128,511,0,1024,0,4096,16383,32767,65535,131071]) (by kernel_rfl);have C:Ls [0,1,0,4,15,0,32,0,128,511,0,1024,0,4096,16383,32767,65535,131071] 18 15=true:=by decide
 simp[aC,bn,f246] at D;subst D;simp[aa,I,f246,-aB,ju H,kx,qR,yo,bR,C,vA,gF,nQ,nS,Ha,ao,af,aj,az,f1,f2,f3,f4,f5,f6,B,z,g3,u,m,j,←Y,←hq,←R,F,Z,Nat.testBit]
theorem Qq(a b:V3)(h:afg a b)(M:Mem):kO prog 183 [vA a,vA b] M (.str (ak (da a b))) M:=by
 have I:aK prog 183=some f183:=by kernel_rfl
 obtain⟨W,V,S⟩:=a;obtain⟨O,K,J⟩:=b;obtain⟨⟨⟨f1,f2⟩,⟨f3,f4⟩,f5,f6⟩,⟨⟨B,z⟩,⟨g3,u⟩,m,j⟩,F⟩:=h;simp only at f1 f2 f3 f4 f5 f6 B z g3 u m j F;have Z:CO [W*O,V*K,S*J] 0=W*O+V*K+S*J:=by simp[CO,Rat.zero_add]
 unfold da;simp only;obtain⟨p,Y⟩:=xE (W*O);obtain⟨q,hq⟩:=xE (V*K);obtain⟨r,R⟩:=xE (S*J);rw[←Y,←hq,←R] at F Z ⊢;refine aA fT ?_ M;obtain⟨X,D⟩:∃X,aC f183=[X]:=⟨_,rfl⟩
 have H:=iY D (l:=[0,1,0,4,15,0,32,0,128,511,0,1024,0,4096,16383,32767,65535,131071]) (by kernel_rfl);have C:Ls [0,1,0,4,15,0,32,0,128,511,0,1024,0,4096,16383,32767,65535,131071] 18 15=true:=by decide
 simp[aC,bn,f183] at D;subst D;simp[aa,I,f183,-aB,ju H,kx,qR,yo,bR,C,vA,gF,nQ,nS,Ha,ao,af,aj,az,f1,f2,f3,f4,f5,f6,B,z,g3,u,m,j,←Y,←hq,←R,F,Z,Nat.testBit]
theorem Qx(a b:V3)(A:vF a)(G:vF b)(M:Mem):kO prog 90 [vA a,vA b] M (vA (j9 a b)) M:=by
 have F:aK prog 90=some f90:=by kernel_rfl
 obtain⟨C,B,z⟩:=a;obtain⟨u,m,Y⟩:=b;obtain⟨⟨f1,f2⟩,⟨f3,f4⟩,f5,f6⟩:=A;obtain⟨⟨W,V⟩,⟨g3,S⟩,O,K⟩:=G;simp only at f1 f2 f3 f4 f5 f6 W V g3 S O K;refine aA bj ?_ M;obtain⟨J,Z⟩:∃J,aC f90=[J]:=⟨_,rfl⟩
 obtain⟨X,D⟩:=dj Z (l:=[0,1,0,4,15,0,32,0,128,511,0,1024,0,4096,16383,32767,65535]) (j:=16) (by kernel_rfl) (by decide);simp[aC,bn,f90] at Z;subst Z;simp[aa,F,f90,-aB,ag X,aS,aO,aP,D,vA,bW,aE,ao,af,aj,az,j9,f1,f2,f3,f4,f5,f6,W,V,g3,S,O,K,Nat.testBit]
theorem HU(a:V3)(k:Rat)(h:Hj a k)(M:Mem):kO prog 91 [vA a,.str (ak k)] M (vA (jR a k)) M:=by
 have O:aK prog 91=some f91:=by kernel_rfl
 obtain⟨J,F,D⟩:=a;obtain⟨⟨⟨f1,f2⟩,⟨f3,f4⟩,f5,f6⟩,W,V⟩:=h;simp only at f1 f2 f3 f4 f5 f6 W V;refine aA bj ?_ M;obtain⟨S,Z⟩:∃S,aC f91=[S]:=⟨_,rfl⟩
 obtain⟨X,K⟩:=dj Z (l:=[0,1,0,7,0,16,0,127,0,256,0,2047,4095,8191]) (j:=13) (by kernel_rfl) (by decide);simp[aC,bn,f91] at Z;subst Z;simp[aa,O,f91,-aB,ag X,aS,aO,aP,K,vA,bW,aE,ao,af,aj,az,jR,f1,f2,f3,f4,f5,f6,W,V,Nat.testBit]
theorem HR(p q r s:Rat)(A:aeZ p)(hq:aeZ q)(G:aeZ r)(hs:aeZ s)(H:aeZ (p*s))(I:aeZ (q*r))(M:Mem):kO prog 215 [.str (ak p),.str (ak q),.str (ak r),.str (ak s)] M (.str (ak (p*s-q*r))) M:=by
 have S:aK prog 215=some f215:=by kernel_rfl
 obtain⟨O,K⟩:=A;obtain⟨J,F⟩:=hq;obtain⟨D,C⟩:=G;obtain⟨d1,d2⟩:=hs;obtain⟨Z,X⟩:=H;obtain⟨f1,f2⟩:=I;obtain⟨x,W⟩:=xE (p*s);obtain⟨y,V⟩:=xE (q*r);rw[←W] at Z X ⊢;rw[←V] at f1 f2 ⊢;refine aA bj ?_ M;simp[aa,S,f215,ao,af,aj,az,O,K,J,F,D,C,d1,d2,Z,X,f1,f2,←W,←V]
def PZ(p v:V3)(k:Rat):Prop:=(vF p∧vF v∧aeZ k)∧aeZ (k*v.1)∧aeZ (k*v.2.1)∧aeZ (k*v.2.2)
theorem Xj(p v:V3)(k:Rat):j9 p (jR v k)=(p.1+k*v.1,p.2.1+k*v.2.1,p.2.2+k*v.2.2):=by unfold j9 jR;simp only[Rat.mul_comm]
theorem MX(p v:V3)(k:Rat)(h:PZ p v k)(M:Mem):kO prog 71 [vA p,vA v,.str (ak k)] M (vA (j9 p (jR v k))) M:=by
 have H:aK prog 71=some f71:=by kernel_rfl
 rw[Xj];obtain⟨a1,a2,a3⟩:=p;obtain⟨G,A,b3⟩:=v;obtain⟨⟨⟨⟨f1,f2⟩,⟨f3,f4⟩,f5,f6⟩,⟨⟨F,D⟩,⟨g3,C⟩,B,u⟩,k1,k2⟩,⟨Z,X⟩,⟨W,V⟩,S,O⟩:=h;simp only at f1 f2 f3 f4 f5 f6 F D g3 C B u Z X W V S O ⊢;obtain⟨x,m⟩:=xE (k*G);obtain⟨y,Y⟩:=xE (k*A);obtain⟨z,R⟩:=xE (k*b3);rw[←m] at Z X ⊢;rw[←Y] at W V ⊢;rw[←R] at S O ⊢;refine aA bj ?_ M;obtain⟨I,K⟩:∃I,aC f71=[I]:=⟨_,rfl⟩
 obtain⟨J,j1⟩:=dj K (l:=[0,1,0,0,8,28,63,0,128,0,0,1024,3711,8191,0,16384,0,0,131072,475135,1048575,2097151,4194303]) (j:=22) (by kernel_rfl) (by decide);simp[aC,bn,f71] at K;subst K;simp[aa,H,f71,-aB,ag J,aS,aO,aP,j1,vA,bW,aE,ao,af,aj,az,f1,f2,f3,f4,f5,f6,F,D,g3,C,B,u,k1,k2,Z,X,W,V,S,O,←m,←Y,←R,Nat.testBit]
open Classical in
noncomputable def aH(f:FuncId)(args:List AV):Option AV:=
 match f,args with
 |86,[.agg [.str a,.str b,.str c],.agg [.str d,.str e,.str g]]=>match v3P a b c,v3P d e g with
  |some u,some v=>if afg u v then some (.str (ak (da u v))) else none
  |_,_=>none
 |73,[.agg [.str a,.str b,.str c],.agg [.str d,.str e,.str g]]=>match v3P a b c,v3P d e g with
  |some u,some v=>if afg u v then some (.str (ak (da u v))) else none
  |_,_=>none
 |246,[.agg [.str a,.str b,.str c],.agg [.str d,.str e,.str g]]=>match v3P a b c,v3P d e g with
  |some u,some v=>if afg u v then some (.str (ak (da u v))) else none
  |_,_=>none
 |183,[.agg [.str a,.str b,.str c],.agg [.str d,.str e,.str g]]=>match v3P a b c,v3P d e g with
  |some u,some v=>if afg u v then some (.str (ak (da u v))) else none
  |_,_=>none
 |90,[.agg [.str a,.str b,.str c],.agg [.str d,.str e,.str g]]=>match v3P a b c,v3P d e g with
  |some u,some v=>if vF u∧vF v then some (vA (j9 u v)) else none
  |_,_=>none
 |91,[.agg [.str a,.str b,.str c],.str k]=>match v3P a b c,dC k with
  |some u,some x=>if Hj u x then some (vA (jR u x)) else none
  |_,_=>none
 |71,[.agg [.str a,.str b,.str c],.agg [.str d,.str e,.str g],.str k]=>match v3P a b c,v3P d e g,dC k with
  |some u,some v,some x=>if PZ u v x then some (vA (j9 u (jR v x))) else none
  |_,_,_=>none
 |215,[.str a,.str b,.str c,.str d]=>match dC a,dC b,dC c,dC d with
  |some p,some q,some r,some s=>if (aeZ p∧aeZ q∧aeZ r∧aeZ s)∧aeZ (p*s)∧aeZ (q*r) then some (.str (ak (p*s-q*r))) else none
  |_,_,_,_=>none
 |14,[.agg [.str a,.str b,.str c]]=>if a.length≤18∧b.length≤18∧c.length≤18 then some (.int .i64 (sw [a,b,c])) else none
 |f,args=>aj f args
theorem cQ:HS prog (af aH):=bH fun f W v h mem=>by
 unfold aH at h;split at h
 ·split at h
  ·rename_i u v hu Z
   split at h
   ·rename_i hc
    cases h;obtain⟨rfl,rfl,rfl⟩:=fE hu;obtain⟨rfl,rfl,rfl⟩:=fE Z;exact Qo u v hc mem
   ·cases h
  ·cases h
 ·split at h
  ·rename_i u v hu Z
   split at h
   ·rename_i hc
    cases h;obtain⟨rfl,rfl,rfl⟩:=fE hu;obtain⟨rfl,rfl,rfl⟩:=fE Z;exact DR u v hc mem
   ·cases h
  ·cases h
 ·split at h
  ·rename_i u v hu Z
   split at h
   ·rename_i hc
    cases h;obtain⟨rfl,rfl,rfl⟩:=fE hu;obtain⟨rfl,rfl,rfl⟩:=fE Z;exact Qp u v hc mem
   ·cases h
  ·cases h
 ·split at h
  ·rename_i u v hu Z
   split at h
   ·rename_i hc
    cases h;obtain⟨rfl,rfl,rfl⟩:=fE hu;obtain⟨rfl,rfl,rfl⟩:=fE Z;exact Qq u v hc mem
   ·cases h
  ·cases h
 ·split at h
  ·rename_i u v hu Z
   split at h
   ·rename_i hc
    cases h;obtain⟨rfl,rfl,rfl⟩:=fE hu;obtain⟨rfl,rfl,rfl⟩:=fE Z;exact Qx u v hc.1 hc.2 mem
   ·cases h
  ·cases h
 ·split at h
  ·rename_i u x hu X
   split at h
   ·rename_i hc
    cases h;obtain⟨rfl,rfl,rfl⟩:=fE hu;rw[aw X];exact HU u x hc mem
   ·cases h
  ·cases h
 ·split at h
  ·rename_i u v x hu Z X
   split at h
   ·rename_i hc
    cases h;obtain⟨rfl,rfl,rfl⟩:=fE hu;obtain⟨rfl,rfl,rfl⟩:=fE Z;rw[aw X];exact MX u v x hc mem
   ·cases h
  ·cases h
 ·split at h
  ·rename_i p q r s V hq S O
   split at h
   ·rename_i hc
    cases h;rw[aw V,aw hq,aw S,aw O];exact HR p q r s hc.1.1 hc.1.2.1 hc.1.2.2.1 hc.1.2.2.2 hc.2.1 hc.2.2 mem
   ·cases h
  ·cases h
 ·split at h
  next hc=>cases h;exact lT _ _ _ hc.1 hc.2.1 hc.2.2 mem
  ·cases h
 ·have:=bj.fn _ _ mem ⟨v,none,[]⟩ (by unfold af;simp only;rw[h])
  simpa [aeQ.mem] using this
theorem HP(a b:V3)(h:agj a b)(M:Mem):kO prog 140 [vA a,vA b] M (vA (VB a b)) M:=by
 have B:aK prog 140=some f140:=by kernel_rfl
 obtain⟨u,m,Y⟩:=a;obtain⟨R,I,H⟩:=b;obtain⟨⟨⟨f1,f2,f3⟩,W,V,g3⟩,⟨S,O⟩,⟨K,J⟩,F,D⟩:=h;simp only at f1 f2 f3 W V g3 S O K J F D;refine aA cQ ?_ M;obtain⟨C,Z⟩:∃C,aC f140=[C]:=⟨_,rfl⟩
 obtain⟨X,z⟩:=dj Z (l:=[0,0,2,0,8,0,32,0,128,511,0,0,2048,0,8192,0,32768,0,131072,524287,0,0,2097152,0,8388608,0,33554432,0,134217728,536870911,1073741823,2147483647]) (j:=31) (by kernel_rfl) (by decide);simp[aC,bn,f140] at Z;subst Z;simp[aa,B,f140,-aB,ag X,aS,aO,aP,z,vA,VB,bW,aE,ao,af,aH,f1,f2,f3,W,V,g3,S,O,K,J,F,D,Nat.testBit]
theorem U9(n:Int):ak (n:Rat)=cC n:=by unfold ak;rw[if_pos (by simp)];simp
noncomputable def Ga(f:FuncId)(args:List AV):Option AV:=
 match f,args with
 |98,[.int .i64 n]=>if dU n then some (.str (cC n)) else none
 |_,_=>none
theorem NU:HS prog (af Ga):=bH fun f Z v h mem=>by
 unfold Ga at h;split at h
 ·split at h
  next hc=>cases h;exact Pp _ hc mem
  ·cases h
 ·cases h
theorem AY(n:Int)(A:dU n=true)(M:Mem):kO prog 138 [.int .i64 n] M (.str (ak (n:Rat))) M:=by
 have Z:aK prog 138=some f138:=by kernel_rfl
 rw[U9];refine aA NU ?_ M;simp[aa,Z,f138,af,Ga,A]
noncomputable def Gq(f:FuncId)(args:List AV):Option AV:=
 match f,args with
 |138,[.int .i64 n]=>if dU n then some (.str (ak (n:Rat))) else none
 |_,_=>none
theorem Oo:HS prog (af Gq):=bH fun f Z v h mem=>by
 unfold Gq at h;split at h
 ·split at h
  next hc=>cases h;exact AY _ hc mem
  ·cases h
 ·cases h
theorem SE(a b c:Int)(A:dU a=true)(G:dU b=true)(hc:dU c=true)(M:Mem):kO prog 139 [.int .i64 a,.int .i64 b,.int .i64 c] M (vA ((a:Rat),(b:Rat),(c:Rat))) M:=by
 have Z:aK prog 139=some f139:=by kernel_rfl
 refine aA Oo ?_ M;simp[aa,Z,f139,af,Gq,A,G,hc,vA,bW,aE]
open Classical in
noncomputable def dR(f:FuncId)(args:List AV):Option AV:=
 match f,args with
 |138,[.int .i64 n]=>if dU n then some (.str (ak (n:Rat))) else none
 |139,[.int .i64 a,.int .i64 b,.int .i64 c]=>if dU a∧dU b∧dU c then some (vA ((a:Rat),(b:Rat),(c:Rat))) else none
 |140,[.agg [.str a,.str b,.str c],.agg [.str d,.str e,.str g]]=>match v3P a b c,v3P d e g with
  |some u,some v=>if agj u v then some (vA (VB u v)) else none
  |_,_=>none
 |f,args=>aH f args
theorem Bp:HS prog (af dR):=bH fun f Z v h mem=>by
 unfold dR at h;split at h
 ·split at h
  next hc=>cases h;exact AY _ hc mem
  ·cases h
 ·split at h
  next hc=>cases h;exact SE _ _ _ hc.1 hc.2.1 hc.2.2 mem
  ·cases h
 ·split at h
  ·rename_i u v hu X
   split at h
   ·rename_i hc
    cases h;obtain⟨rfl,rfl,rfl⟩:=fE hu;obtain⟨rfl,rfl,rfl⟩:=fE X;exact HP u v hc mem
   ·cases h
  ·cases h
 ·have:=cQ.fn _ _ mem ⟨v,none,[]⟩ (by unfold af;simp only;rw[h])
  simpa [aeQ.mem] using this
def DP(W:Rat)(U v:V3):V3:=jR (j9 (j9 (jR v (W*W-da U U)) (jR U (2*da U v))) (jR (VB U v) (2*W))) (1 / (W*W+da U U))
structure agf (W:Rat)(U v:V3):Prop where
 w:aeZ W
 uu:afg U U
 ww:aeZ (W*W)
 sq:aeZ (da U U)
 s1:Hj v (W*W-da U U)
 uv:afg U v
 f2:aeZ (da U v)
 s2:Hj U (2*da U v)
 c:agj U v
 s3:Hj (VB U v) (2*W)
 n0:W*W+da U U≠0
 n1:aeZ (W*W+da U U)
 a1:vF (jR v (W*W-da U U))∧vF (jR U (2*da U v))
 a2:vF (j9 (jR v (W*W-da U U)) (jR U (2*da U v)))∧vF (jR (VB U v) (2*W))
 s4:Hj (j9 (j9 (jR v (W*W-da U U)) (jR U (2*da U v))) (jR (VB U v) (2*W))) (1 / (W*W+da U U))
def lJ(a:Int)(A:Bool):Rat:=if A then -(a:Rat) else (a:Rat)
def nU(b c d:Int):V3:=((b:Rat),(c:Rat),(d:Rat))
theorem M8(a b c d:Int)(A:Bool)(v:V3)(ha:dU a=true)(hb:dU b=true)(hc:dU c=true)(hd:dU d=true)(h:agf (lJ a A) (nU b c d) v)(M:Mem):
  kO prog 92 [.agg [.int .i64 a,.int .i64 b,.int .i64 c,.int .i64 d],vA v,.bool A] M (vA (DP (lJ a A) (nU b c d) v)) M:=by
 have hG:aK prog 92=some f92:=by kernel_rfl
 refine aA Bp ?_ M;obtain⟨⟨w1,w2⟩,uu,⟨p1,p2⟩,⟨q1,q2⟩,K,uv,⟨f1,f2⟩,s2,cu,J,F,⟨D,C⟩,⟨V,B⟩,⟨X,S⟩,Z⟩:=h;have wl:=jA (q:=lJ a A) ⟨w1,w2⟩;unfold DP;have z:dC [50]=some 2:=rfl;have u:dC [49]=some 1:=rfl;have e2:(aR (2:Rat).num.natAbs).length≤9∧(aR (2:Rat).den).length≤9:=by decide
 have e1:(aR (1:Rat).num.natAbs).length≤9∧(aR (1:Rat).den).length≤9:=by decide
 obtain⟨⟨e3,e4⟩,e5,e6⟩:=And.intro e2 e1;obtain⟨two,h2⟩:=xE (α:=Rat) 2;obtain⟨one,h1⟩:=xE (α:=Rat) 1;rw[←h2] at z e3 e4 s2 J B X S Z ⊢;rw[←h1] at u e5 e6 Z ⊢;obtain⟨U,hU⟩:=xE (nU b c d);obtain⟨W,O⟩:=xE (lJ a A);rw[←hU] at uu q1 q2 K uv f1 f2 s2 cu J F D C V B X S Z ⊢;rw[←O] at w1 w2 wl p1 p2 K J F D C V X S Z ⊢;obtain⟨ww,m⟩:=xE (W*W);obtain⟨sq,j⟩:=xE (da U U);obtain⟨uw,Y⟩:=xE (da U v);rw[←m] at p1 p2 K F D C V X Z ⊢;rw[←j] at q1 q2 K F D C V X Z ⊢;rw[←Y] at f1 f2 s2 B X Z ⊢;obtain⟨k1,R⟩:=xE (ww-sq);obtain⟨k2,I⟩:=xE (two*uw);obtain⟨k3,H⟩:=xE (two*W);obtain⟨k4,G⟩:=xE (ww+sq);rw[←R] at K V X Z ⊢;rw[←I] at s2 B X Z ⊢;rw[←H] at J S Z ⊢;rw[←G] at F D C Z ⊢;obtain⟨k5,hk5⟩:=xE (one / k4);obtain⟨c1,hc1⟩:=xE (VB U v);rw[←hc1] at J S Z ⊢;rw[←hk5] at Z ⊢;obtain⟨v1,hv1⟩:=xE (jR v k1);obtain⟨v2,hv2⟩:=xE (jR U k2);obtain⟨v3,hv3⟩:=xE (jR c1 k3);rw[←hv1] at V X Z ⊢;rw[←hv2] at B X Z ⊢;rw[←hv3] at S Z ⊢;obtain⟨v4,hv4⟩:=xE (j9 v1 v2);rw[←hv4] at X Z ⊢;obtain⟨v5,hv5⟩:=xE (j9 v4 v3);rw[←hv5] at Z ⊢;obtain⟨os,Do⟩:∃os,aC f92=os:=⟨_,rfl⟩
 have I':=be Do (ls:=[[0,1,3,0,8,0,32,0,128,511,0,2047,4095],[0,0,0,6,0,30,63,0,255],[0,0,0,6,14,31,0,127],[0,0,3,0,15,0,63,127]]) (by kernel_rfl);simp only[aC,bn,f92,lA] at Do;subst Do;simp only[lB] at I';obtain⟨Z9,hb1,hb2,hb3⟩:=I';have j3:ba [0,0,3,0,15,0,63,127] 7=true:=by decide
 unfold nU at hU;unfold lJ at O;clear h2 h1;cases A with
 |false=>
  rw[if_neg (by decide)] at O;simp[aa,hG,f92,af,dR,aH,aj,az,ha,hb,hc,hd,vA,jc,ao,←hU,←O,w1,w2,uu,p1,p2,q1,q2,K,uv,f1,f2,s2,cu,J,F,D,C,V,B,X,S,Z,z,u,e3,e4,e5,e6,←m,←j,←Y,←R,←I,←H,←G,←hk5,←hc1,←hv1,←hv2,←hv3,←hv4,←hv5,-aB,aF Z9,aF hb1,aF hb2,bX,ib,dH,cj,bR,gd,bef,oM,ag hb3,aS,aO,aP,j3,Nat.testBit]
 |true=>
  rw[if_pos rfl] at O;have la:(ak (a:Rat)).length≤1000000000:=by have x1:=w1;have x2:=w2;rw[O,Rat.neg_num,Int.natAbs_neg] at x1;rw[O] at x2;exact jA ⟨x1,x2⟩
  simp[la,aa,hG,f92,af,dR,aH,aj,az,bB,aX,ha,hb,hc,hd,vA,jc,ao,←hU,←O,w1,w2,uu,p1,p2,q1,q2,K,uv,f1,f2,s2,cu,J,F,D,C,V,B,X,S,Z,z,u,e3,e4,e5,e6,←m,←j,←Y,←R,←I,←H,←G,←hk5,←hc1,←hv1,←hv2,←hv3,←hv4,←hv5,-aB,aF Z9,aF hb1,aF hb2,bX,ib,dH,cj,bR,gd,bef,oM,ag hb3,aS,aO,aP,j3,Nat.testBit]
end Go.Proofs
