/- See R54. -/
import Derived.Test.YtgafjliihahjgaaGreatDoorR19
import Derived.Test.YtgafjliihahjgaaGreatDoorR17
set_option linter.all false
set_option maxRecDepth 100000
set_option maxHeartbeats 40000000
namespace Go.Eng
def Sm(D V:Nat) (q:Rat):Prop:=0<D∧(∃n:Int,q*(D:Rat)=(n:Rat))∧ -(V:Rat)≤q∧q≤(V:Rat)
theorem mH(a b:Nat):((a*b:Nat):Rat)=(a:Rat)*(b:Rat):=by have:((a*b:Nat):Rat)=(((a*b:Nat):Int):Rat):=(Rat.intCast_natCast _).symm;rw[this,Int.natCast_mul,Rat.intCast_mul,Rat.intCast_natCast,Rat.intCast_natCast]
theorem VK(a b:Nat):((a+b:Nat):Rat)=(a:Rat)+(b:Rat):=by have:((a+b:Nat):Rat)=(((a+b:Nat):Int):Rat):=(Rat.intCast_natCast _).symm;rw[this,Int.natCast_add,Rat.intCast_add,Rat.intCast_natCast,Rat.intCast_natCast]
variable{a b:Nat}
theorem WB(h:a≤b):(a:Rat)≤(b:Rat):=by exact_mod_cast h
theorem RJ(a:Nat):(0:Rat)≤(a:Rat):=by exact_mod_cast Nat.zero_le a
variable{D V W:Nat}{q:Rat}
theorem Sm.mono(h:Sm D V q)(hV:V≤W):Sm D W q:=by obtain⟨h0,h1,h2,h3⟩:=h;have:=WB hV;exact⟨h0,h1,by grind,by grind⟩
theorem Sm.up(h:Sm D V q)(k:Nat)(hk:0<k):Sm (D*k) V q:=by obtain⟨h0,⟨n,h1⟩,h2,h3⟩:=h;refine⟨Nat.mul_pos h0 hk,⟨n*k,?_⟩,h2,h3⟩;rw[mH,←Rat.mul_assoc,h1,Rat.intCast_mul,Rat.intCast_natCast]
variable{E:Nat}
theorem Sm.to(h:Sm D V q)(hE:D∣E)(hp:0<E)(hV:V≤W):Sm E W q:=by obtain⟨k,rfl⟩:=hE;exact(h.up k (Nat.pos_of_mul_pos_left hp)).mono hV
theorem Sm.int{n:Int}(h:n.natAbs≤V):Sm 1 V (n:Rat):=by
 refine⟨by omega,⟨n,by rw[show((1:Nat):Rat)=1 from rfl,Rat.mul_one]⟩,?_,?_⟩
 ·have:(-(V:Int):Int)≤n:=by omega
  have:=Rat.intCast_le_intCast.2 this;rw[Rat.intCast_neg,Rat.intCast_natCast] at this;exact this
 ·have:n≤(V:Int):=by omega
  have:=Rat.intCast_le_intCast.2 this;rw[Rat.intCast_natCast] at this;exact this
variable{p:Rat}
theorem Sm.add(h:Sm D V p)(k:Sm D W q):Sm D (V+W) (p+q):=by obtain⟨h0,⟨n,h1⟩,h2,h3⟩:=h;obtain⟨_,⟨m,k1⟩,k2,k3⟩:=k;refine⟨h0,⟨n+m,by rw[Rat.add_mul,h1,k1,Rat.intCast_add]⟩,?_,?_⟩<;>rw[VK]<;>grind
theorem Sm.neg(h:Sm D V p):Sm D V (-p):=by obtain⟨h0,⟨n,h1⟩,h2,h3⟩:=h;exact⟨h0,⟨-n,by rw[Rat.neg_mul,h1,Rat.intCast_neg]⟩,by grind,by grind⟩
theorem Sm.sub(h:Sm D V p)(k:Sm D W q):Sm D (V+W) (p-q):=by rw[Rat.sub_eq_add_neg];exact h.add k.neg
theorem UP{v w:Rat}(h2: -v≤p)(h3:p≤v)(k2: -w≤q)(k3:q≤w): -(v*w)≤p*q∧p*q≤v*w:=by have a1:=Rat.mul_nonneg (show 0≤v-p by grind) (show 0≤w+q by grind);have a2:=Rat.mul_nonneg (show 0≤v+p by grind) (show 0≤w-q by grind);have a3:=Rat.mul_nonneg (show 0≤v+p by grind) (show 0≤w+q by grind);have a4:=Rat.mul_nonneg (show 0≤v-p by grind) (show 0≤w-q by grind);constructor<;>grind
theorem Sm.mul(h:Sm D V p)(k:Sm E W q):Sm (D*E) (V*W) (p*q):=by
 obtain⟨h0,⟨n,h1⟩,h2,h3⟩:=h;obtain⟨k0,⟨m,k1⟩,k2,k3⟩:=k;have:=UP h2 h3 k2 k3;refine⟨Nat.mul_pos h0 k0,⟨n*m,?_⟩,?_,?_⟩
 ·rw[mH,Rat.intCast_mul,←h1,←k1];grind
 ·rw[mH];exact this.1
 ·rw[mH];exact this.2
theorem Sm.dg(h:Sm D V q)(h1:D*V<10 ^ a)(h2:D<10 ^ b):dg a b q:=by
 obtain⟨h0,⟨n,h3⟩,h4,h5⟩:=h;have hD:(D:Rat)≠0:=fun e=>by rw[Rat.natCast_eq_zero_iff] at e;omega
 have e:q=mkRat n D:=by rw[Rat.mkRat_eq_div,←h3];exact(Rat.mul_div_cancel hD).symm
 rw[e];refine ra (by omega) ?_ h2;have hp:=RJ D;have m1:=Rat.mul_nonneg (show 0≤(V:Rat)-q by grind) hp;have m2:=Rat.mul_nonneg (show 0≤(V:Rat)+q by grind) hp;have l1:(n:Rat)≤(((V*D:Nat):Int):Rat):=by rw[Rat.intCast_natCast,mH,←h3];grind
 have l2:((-((V*D:Nat):Int):Int):Rat)≤(n:Rat):=by rw[Rat.intCast_neg,Rat.intCast_natCast,mH,←h3];grind
 have l1:=Rat.intCast_le_intCast.1 l1;have l2:=Rat.intCast_le_intCast.1 l2;have c:V*D=D*V:=Nat.mul_comm _ _;omega
theorem Sm.lens(h:Sm D V q)(h1:D*V<10 ^ 9)(h2:D<10 ^ 9):(aQ q.num.natAbs).length≤9∧(aQ q.den).length≤9:=(h.dg h1 h2).lens (by omega) (by omega)
theorem Sm.inv{N:Nat}(h:0<N):Sm N 1 ((1:Rat) / (N:Rat)):=by
 have hN:(N:Rat)≠0:=fun e=>by rw[Rat.natCast_eq_zero_iff] at e;omega
 have e1:(1:Rat) / (N:Rat)*(N:Rat)=1:=Rat.div_mul_cancel hN;have p1:(0:Rat)<(N:Rat):=by exact_mod_cast h
 have g1:(1:Rat)≤(N:Rat):=by exact_mod_cast h
 have hp:(0:Rat)≤1 / (N:Rat):=by
  rcases (Rat.le_total:(0:Rat)≤1 / (N:Rat)∨1 / (N:Rat)≤0) with h | h
  ·exact h
  ·have:=Rat.mul_nonneg (show(0:Rat)≤ -(1 / (N:Rat)) by grind) (RJ N)
   grind
 refine⟨h,⟨1,by rw[e1];rfl⟩,by rw[show((1:Nat):Rat)=1 from rfl];grind,?_⟩;rw[show((1:Nat):Rat)=1 from rfl];have:=Rat.mul_nonneg hp (show 0≤(N:Rat)-1 by grind)
 grind
end Go.Eng
namespace Go.Proofs
open Go.Eng
def oY(a b:V3):V3:=(a.1+b.1,a.2.1+b.2.1,a.2.2+b.2.2)
def jR(a:V3) (k:Rat):V3:=(a.1*k,a.2.1*k,a.2.2*k)
def To(a b:V3):V3:=(a.2.1*b.2.2-a.2.2*b.2.1,a.2.2*b.1-a.1*b.2.2,a.1*b.2.1-a.2.1*b.1)
def vF(a:V3):Prop:=aeF a.1∧aeF a.2.1∧aeF a.2.2
def ae3(a b:V3):Prop:=vF a∧vF b∧KL [a.1*b.1,a.2.1*b.2.1,a.2.2*b.2.2] 0
def afR(a b:V3):Prop:=(vF a∧vF b)∧(aeF (a.2.1*b.2.2)∧aeF (a.2.2*b.2.1))∧(aeF (a.2.2*b.1)∧aeF (a.1*b.2.2))∧aeF (a.1*b.2.1)∧aeF (a.2.1*b.1)
def FB(a:V3) (k:Rat):Prop:=vF a∧aeF k
def vC(v:V3):Prop:=vw [aw v.1,aw v.2.1,aw v.2.2]=0∧(aw v.1).length≤18∧(aw v.2.1).length≤18∧(aw v.2.2).length≤18
def vSm(D V:Nat) (a:V3):Prop:=Sm D V a.1∧Sm D V a.2.1∧Sm D V a.2.2
end Go.Proofs
namespace Go.Eng
theorem Sm.aeF{D V:Nat}{q:Rat}(h:Sm D V q)(h1:D*V<10 ^ 9)(h2:D<10 ^ 9):Go.Proofs.aeF q:=h.lens h1 h2
end Go.Eng
namespace Go.Proofs
open Go.Eng
theorem R1:aeF 0:=⟨by decide,by decide⟩
section
variable {D V E W:Nat}{a b:V3}{r:Rat}
section
variable (h:vSm D V a)
include h
theorem vSm.mono(hV:V≤W):vSm D W a:=⟨h.1.mono hV,h.2.1.mono hV,h.2.2.mono hV⟩
theorem vSm.to(hE:D∣E)(hp:0<E)(hV:V≤W):vSm E W a:=⟨h.1.to hE hp hV,h.2.1.to hE hp hV,h.2.2.to hE hp hV⟩
theorem vSm.vF(h1:D*V<10 ^ 9)(h2:D<10 ^ 9):vF a:=⟨h.1.aeF h1 h2,h.2.1.aeF h1 h2,h.2.2.aeF h1 h2⟩
theorem vSm.add(k:vSm D W b):vSm D (V+W) (oY a b):=⟨h.1.add k.1,h.2.1.add k.2.1,h.2.2.add k.2.2⟩
theorem vSm.scl(g:Sm E W r):vSm (D*E) (V*W) (jR a r):=⟨h.1.mul g,h.2.1.mul g,h.2.2.mul g⟩
section
variable (k:vSm E W b)
include k
theorem vSm.dot:Sm (D*E) (V*W+V*W+V*W) (eX a b):=((h.1.mul k.1).add (h.2.1.mul k.2.1)).add (h.2.2.mul k.2.2)
theorem vSm.crs:vSm (D*E) (V*W+V*W) (To a b):=⟨(h.2.1.mul k.2.2).sub (h.2.2.mul k.2.1),(h.2.2.mul k.1).sub (h.1.mul k.2.2),(h.1.mul k.2.1).sub (h.2.1.mul k.1)⟩
section
variable (h1:D*V<10 ^ 9)(h2:D<10 ^ 9)(h3:E*W<10 ^ 9)(h4:E<10 ^ 9)
include h1 h2 h3 h4
theorem vSm.ae3(h5:D*E*(V*W+V*W)<10 ^ 9)(h6:D*E<10 ^ 9):ae3 a b:=by
 have p1:=h.1.mul k.1;have p2:=h.2.1.mul k.2.1;have p3:=h.2.2.mul k.2.2;have l:D*E*(V*W)<10 ^ 9:=Nat.lt_of_le_of_lt (Nat.mul_le_mul_left _ (Nat.le_add_left _ _)) h5;have f1:=p1.aeF l h6;refine⟨h.vF h1 h2,k.vF h3 h4,R1,f1,?_,p2.aeF l h6,?_,p3.aeF l h6,trivial⟩
 ·rw[Rat.zero_add];exact f1
 ·rw[Rat.zero_add];exact(p1.add p2).aeF h5 h6
theorem vSm.afR(h5:D*E*(V*W)<10 ^ 9)(h6:D*E<10 ^ 9):afR a b:=
 ⟨⟨h.vF h1 h2,k.vF h3 h4⟩,⟨(h.2.1.mul k.2.2).aeF h5 h6,(h.2.2.mul k.2.1).aeF h5 h6⟩,⟨(h.2.2.mul k.1).aeF h5 h6,(h.1.mul k.2.2).aeF h5 h6⟩,(h.1.mul k.2.1).aeF h5 h6,(h.2.1.mul k.1).aeF h5 h6⟩
end
end
theorem vSm.vC(h1:D*V<10 ^ 9)(h2:D<10 ^ 7):vC a:=by
 have g:∀q,Sm D V q→xk (aw q)=0∧(aw q).length≤18:=fun q hq=>by have d:=hq.dg h1 h2;exact⟨tG (d.mono (by decide) (by decide)),Sr d (by decide) (by decide) (by decide)⟩
 obtain⟨a1,a2⟩:=g _ h.1;obtain⟨b1,b2⟩:=g _ h.2.1;obtain⟨c1,c2⟩:=g _ h.2.2;exact⟨by simp[vw,a1,b1,c1],a2,b2,c2⟩
end
end
def v3P(a b c:List UInt8):Option V3:=match dJ a,dJ b,dJ c with
 |some x,some y,some z=>some (x,y,z)
 |_,_,_=>none
theorem vq(x y z:Rat):v3P (aw x) (aw y) (aw z)=some (x,y,z):=by simp only[v3P,aB]
theorem fB{a b c:List UInt8}{v:V3}(h:v3P a b c=some v):a=aw v.1∧b=aw v.2.1∧c=aw v.2.2:=by
 unfold v3P at h;split at h
 ·rename_i x y z hx hy hz
  cases h;exact⟨aA hx,aA hy,aA hz⟩
 ·cases h
end Go.Proofs
namespace Go.Proofs
open Go.Eng
open Tryz
theorem N7(a b:V3)(h:ae3 a b)(M:Mem):kF prog 86 [vA a,vA b] M (.str (aw (eX a b))) M:=by
 have hG:aT prog 86=some f86:=by kernel_rfl
 obtain⟨a1,a2,a3⟩:=a;obtain⟨b1,b2,b3⟩:=b;obtain⟨⟨⟨f1,f2⟩,⟨f3,f4⟩,f5,f6⟩,⟨⟨g1,g2⟩,⟨g3,g4⟩,g5,g6⟩,hs⟩:=h;simp only at f1 f2 f3 f4 f5 f6 g1 g2 g3 g4 g5 g6 hs;have Ye:BB [a1*b1,a2*b2,a3*b3] 0=a1*b1+a2*b2+a3*b3:=by simp[BB,Rat.zero_add]
 unfold eX;simp only;obtain⟨p,hp⟩:∃p,p=a1*b1:=⟨_,rfl⟩
 obtain⟨q,hq⟩:∃p,p=a2*b2:=⟨_,rfl⟩
 obtain⟨r,hr⟩:∃p,p=a3*b3:=⟨_,rfl⟩
 rw[←hp,←hq,←hr] at hs Ye ⊢;refine az fN (lv:=fun _=>[]) (K:=1) rfl rfl ?_ M;obtain⟨ops,FS⟩:∃ops,aG f86=[ops]:=⟨_,rfl⟩
 have IR:=dw FS (l:=[0,1,0,4,15,0,32,0,128,511,0,1024,0,4096,16383,32767,65535,131071]) (by kernel_rfl);have hba:Ma [0,1,0,4,15,0,32,0,128,511,0,1024,0,4096,16383,32767,65535,131071] 18 15=true:=by decide
 simp[aG,bF,f86] at FS;subst FS;simp[ad,hG,f86,-aE,lf IR,mu,sa,AE,bW,hba,vA,gw,nu,oO,Ft,aB,ag,ao,aH,f1,f2,f3,f4,f5,f6,g1,g2,g3,g4,g5,g6,←hp,←hq,←hr,hs,Ye,Nat.testBit]
theorem N6(a b:V3)(h:ae3 a b)(M:Mem):kF prog 73 [vA a,vA b] M (.str (aw (eX a b))) M:=by
 have hG:aT prog 73=some f73:=by kernel_rfl
 obtain⟨a1,a2,a3⟩:=a;obtain⟨b1,b2,b3⟩:=b;obtain⟨⟨⟨f1,f2⟩,⟨f3,f4⟩,f5,f6⟩,⟨⟨g1,g2⟩,⟨g3,g4⟩,g5,g6⟩,hs⟩:=h;simp only at f1 f2 f3 f4 f5 f6 g1 g2 g3 g4 g5 g6 hs;have Ye:BB [a1*b1,a2*b2,a3*b3] 0=a1*b1+a2*b2+a3*b3:=by simp[BB,Rat.zero_add]
 unfold eX;simp only;obtain⟨p,hp⟩:∃p,p=a1*b1:=⟨_,rfl⟩
 obtain⟨q,hq⟩:∃p,p=a2*b2:=⟨_,rfl⟩
 obtain⟨r,hr⟩:∃p,p=a3*b3:=⟨_,rfl⟩
 rw[←hp,←hq,←hr] at hs Ye ⊢;refine az fN (lv:=fun _=>[]) (K:=1) rfl rfl ?_ M;obtain⟨ops,FS⟩:∃ops,aG f73=[ops]:=⟨_,rfl⟩
 have IR:=dw FS (l:=[0,1,0,4,15,0,32,0,128,511,0,1024,0,4096,16383,32767,65535,131071]) (by kernel_rfl);have hba:Ma [0,1,0,4,15,0,32,0,128,511,0,1024,0,4096,16383,32767,65535,131071] 18 15=true:=by decide
 simp[aG,bF,f73] at FS;subst FS;simp[ad,hG,f73,-aE,lf IR,mu,sa,AE,bW,hba,vA,gw,nu,oO,Ft,aB,ag,ao,aH,f1,f2,f3,f4,f5,f6,g1,g2,g3,g4,g5,g6,←hp,←hq,←hr,hs,Ye,Nat.testBit]
theorem N8(a b:V3)(h:ae3 a b)(M:Mem):kF prog 246 [vA a,vA b] M (.str (aw (eX a b))) M:=by
 have hG:aT prog 246=some f246:=by kernel_rfl
 obtain⟨a1,a2,a3⟩:=a;obtain⟨b1,b2,b3⟩:=b;obtain⟨⟨⟨f1,f2⟩,⟨f3,f4⟩,f5,f6⟩,⟨⟨g1,g2⟩,⟨g3,g4⟩,g5,g6⟩,hs⟩:=h;simp only at f1 f2 f3 f4 f5 f6 g1 g2 g3 g4 g5 g6 hs;have Ye:BB [a1*b1,a2*b2,a3*b3] 0=a1*b1+a2*b2+a3*b3:=by simp[BB,Rat.zero_add]
 unfold eX;simp only;obtain⟨p,hp⟩:∃p,p=a1*b1:=⟨_,rfl⟩
 obtain⟨q,hq⟩:∃p,p=a2*b2:=⟨_,rfl⟩
 obtain⟨r,hr⟩:∃p,p=a3*b3:=⟨_,rfl⟩
 rw[←hp,←hq,←hr] at hs Ye ⊢;refine az fN (lv:=fun _=>[]) (K:=1) rfl rfl ?_ M;obtain⟨ops,FS⟩:∃ops,aG f246=[ops]:=⟨_,rfl⟩
 have IR:=dw FS (l:=[0,1,0,4,15,0,32,0,128,511,0,1024,0,4096,16383,32767,65535,131071]) (by kernel_rfl);have hba:Ma [0,1,0,4,15,0,32,0,128,511,0,1024,0,4096,16383,32767,65535,131071] 18 15=true:=by decide
 simp[aG,bF,f246] at FS;subst FS;simp[ad,hG,f246,-aE,lf IR,mu,sa,AE,bW,hba,vA,gw,nu,oO,Ft,aB,ag,ao,aH,f1,f2,f3,f4,f5,f6,g1,g2,g3,g4,g5,g6,←hp,←hq,←hr,hs,Ye,Nat.testBit]
theorem N9(a b:V3)(h:ae3 a b)(M:Mem):kF prog 183 [vA a,vA b] M (.str (aw (eX a b))) M:=by
 have hG:aT prog 183=some f183:=by kernel_rfl
 obtain⟨a1,a2,a3⟩:=a;obtain⟨b1,b2,b3⟩:=b;obtain⟨⟨⟨f1,f2⟩,⟨f3,f4⟩,f5,f6⟩,⟨⟨g1,g2⟩,⟨g3,g4⟩,g5,g6⟩,hs⟩:=h;simp only at f1 f2 f3 f4 f5 f6 g1 g2 g3 g4 g5 g6 hs;have Ye:BB [a1*b1,a2*b2,a3*b3] 0=a1*b1+a2*b2+a3*b3:=by simp[BB,Rat.zero_add]
 unfold eX;simp only;obtain⟨p,hp⟩:∃p,p=a1*b1:=⟨_,rfl⟩
 obtain⟨q,hq⟩:∃p,p=a2*b2:=⟨_,rfl⟩
 obtain⟨r,hr⟩:∃p,p=a3*b3:=⟨_,rfl⟩
 rw[←hp,←hq,←hr] at hs Ye ⊢;refine az fN (lv:=fun _=>[]) (K:=1) rfl rfl ?_ M;obtain⟨ops,FS⟩:∃ops,aG f183=[ops]:=⟨_,rfl⟩
 have IR:=dw FS (l:=[0,1,0,4,15,0,32,0,128,511,0,1024,0,4096,16383,32767,65535,131071]) (by kernel_rfl);have hba:Ma [0,1,0,4,15,0,32,0,128,511,0,1024,0,4096,16383,32767,65535,131071] 18 15=true:=by decide
 simp[aG,bF,f183] at FS;subst FS;simp[ad,hG,f183,-aE,lf IR,mu,sa,AE,bW,hba,vA,gw,nu,oO,Ft,aB,ag,ao,aH,f1,f2,f3,f4,f5,f6,g1,g2,g3,g4,g5,g6,←hp,←hq,←hr,hs,Ye,Nat.testBit]
theorem Og(a b:V3)(ha:vF a)(hb:vF b)(M:Mem):kF prog 90 [vA a,vA b] M (vA (oY a b)) M:=by
 have hG:aT prog 90=some f90:=by kernel_rfl
 obtain⟨a1,a2,a3⟩:=a;obtain⟨b1,b2,b3⟩:=b;obtain⟨⟨f1,f2⟩,⟨f3,f4⟩,f5,f6⟩:=ha;obtain⟨⟨g1,g2⟩,⟨g3,g4⟩,g5,g6⟩:=hb;simp only at f1 f2 f3 f4 f5 f6 g1 g2 g3 g4 g5 g6;refine az bP (lv:=fun _=>[]) (K:=1) rfl rfl ?_ M;obtain⟨o1,FS⟩:∃o1,aG f90=[o1]:=⟨_,rfl⟩
 have hb1:=dw FS (l:=[0,1,0,4,15,0,32,0,128,511,0,1024,0,4096,16383,32767,65535]) (by kernel_rfl);have j1:aX [0,1,0,4,15,0,32,0,128,511,0,1024,0,4096,16383,32767,65535] 16=true:=by decide
 simp[aG,bF,f90] at FS;subst FS;simp[ad,hG,f90,-aE,aj hb1,bn,bf,bm,j1,vA,cM,aR,aB,ag,ao,aH,oY,f1,f2,f3,f4,f5,f6,g1,g2,g3,g4,g5,g6,Nat.testBit]
theorem F4(a:V3)(k:Rat)(h:FB a k)(M:Mem):kF prog 91 [vA a,.str (aw k)] M (vA (jR a k)) M:=by
 have hG:aT prog 91=some f91:=by kernel_rfl
 obtain⟨a1,a2,a3⟩:=a;obtain⟨⟨⟨f1,f2⟩,⟨f3,f4⟩,f5,f6⟩,g1,g2⟩:=h;simp only at f1 f2 f3 f4 f5 f6 g1 g2;refine az bP (lv:=fun _=>[]) (K:=1) rfl rfl ?_ M;obtain⟨o1,FS⟩:∃o1,aG f91=[o1]:=⟨_,rfl⟩
 have hb1:=dw FS (l:=[0,1,0,7,0,16,0,127,0,256,0,2047,4095,8191]) (by kernel_rfl);have j1:aX [0,1,0,7,0,16,0,127,0,256,0,2047,4095,8191] 13=true:=by decide
 simp[aG,bF,f91] at FS;subst FS;simp[ad,hG,f91,-aE,aj hb1,bn,bf,bm,j1,vA,cM,aR,aB,ag,ao,aH,jR,f1,f2,f3,f4,f5,f6,g1,g2,Nat.testBit]
theorem F1(p q r s:Rat)(hp:aeF p)(hq:aeF q)(hr:aeF r)(hs:aeF s)(h1:aeF (p*s))(h2:aeF (q*r))(M:Mem):kF prog 215 [.str (aw p),.str (aw q),.str (aw r),.str (aw s)] M (.str (aw (p*s-q*r))) M:=by
 have hG:aT prog 215=some f215:=by kernel_rfl
 obtain⟨a1,a2⟩:=hp;obtain⟨b1,b2⟩:=hq;obtain⟨c1,c2⟩:=hr;obtain⟨d1,d2⟩:=hs;obtain⟨e1,e2⟩:=h1;obtain⟨f1,f2⟩:=h2;obtain⟨x,hx⟩:∃x,x=p*s:=⟨_,rfl⟩
 obtain⟨y,hy⟩:∃x,x=q*r:=⟨_,rfl⟩
 rw[←hx] at e1 e2 ⊢;rw[←hy] at f1 f2 ⊢;refine az bP (lv:=fun _=>[]) (K:=1) rfl rfl ?_ M;simp[ad,hG,f215,aB,ag,ao,aH,a1,a2,b1,b2,c1,c2,d1,d2,e1,e2,f1,f2,←hx,←hy]
def NI(p v:V3) (k:Rat):Prop:=(vF p∧vF v∧aeF k)∧aeF (k*v.1)∧aeF (k*v.2.1)∧aeF (k*v.2.2)
theorem Ve(p v:V3)(k:Rat):oY p (jR v k)=(p.1+k*v.1,p.2.1+k*v.2.1,p.2.2+k*v.2.2):=by unfold oY jR;simp only[Rat.mul_comm]
theorem KY(p v:V3)(k:Rat)(h:NI p v k)(M:Mem):kF prog 71 [vA p,vA v,.str (aw k)] M (vA (oY p (jR v k))) M:=by
 have hG:aT prog 71=some f71:=by kernel_rfl
 rw[Ve];obtain⟨a1,a2,a3⟩:=p;obtain⟨b1,b2,b3⟩:=v;obtain⟨⟨⟨⟨f1,f2⟩,⟨f3,f4⟩,f5,f6⟩,⟨⟨g1,g2⟩,⟨g3,g4⟩,g5,g6⟩,k1,k2⟩,⟨i1,i2⟩,⟨i3,i4⟩,i5,i6⟩:=h;simp only at f1 f2 f3 f4 f5 f6 g1 g2 g3 g4 g5 g6 i1 i2 i3 i4 i5 i6 ⊢;obtain⟨x,hx⟩:∃x,x=k*b1:=⟨_,rfl⟩
 obtain⟨y,hy⟩:∃x,x=k*b2:=⟨_,rfl⟩
 obtain⟨z,hz⟩:∃x,x=k*b3:=⟨_,rfl⟩
 rw[←hx] at i1 i2 ⊢;rw[←hy] at i3 i4 ⊢;rw[←hz] at i5 i6 ⊢;refine az bP (lv:=fun _=>[]) (K:=1) rfl rfl ?_ M;obtain⟨o1,FS⟩:∃o1,aG f71=[o1]:=⟨_,rfl⟩
 have hb1:=dw FS (l:=[0,1,0,0,8,28,63,0,128,0,0,1024,3711,8191,0,16384,0,0,131072,475135,1048575,2097151,4194303]) (by kernel_rfl);have j1:aX [0,1,0,0,8,28,63,0,128,0,0,1024,3711,8191,0,16384,0,0,131072,475135,1048575,2097151,4194303] 22=true:=by decide
 simp[aG,bF,f71] at FS;subst FS;simp[ad,hG,f71,-aE,aj hb1,bn,bf,bm,j1,vA,cM,aR,aB,ag,ao,aH,f1,f2,f3,f4,f5,f6,g1,g2,g3,g4,g5,g6,k1,k2,i1,i2,i3,i4,i5,i6,←hx,←hy,←hz,Nat.testBit]
open Classical in
noncomputable def cR(f:FuncId) (args:List AV):Option AV:=
 match f,args with
 |86,[.agg [.str a,.str b,.str c],.agg [.str d,.str e,.str g]]=>match v3P a b c,v3P d e g with
  |some u,some v=>if ae3 u v then some (.str (aw (eX u v))) else none
  |_,_=>none
 |73,[.agg [.str a,.str b,.str c],.agg [.str d,.str e,.str g]]=>match v3P a b c,v3P d e g with
  |some u,some v=>if ae3 u v then some (.str (aw (eX u v))) else none
  |_,_=>none
 |246,[.agg [.str a,.str b,.str c],.agg [.str d,.str e,.str g]]=>match v3P a b c,v3P d e g with
  |some u,some v=>if ae3 u v then some (.str (aw (eX u v))) else none
  |_,_=>none
 |183,[.agg [.str a,.str b,.str c],.agg [.str d,.str e,.str g]]=>match v3P a b c,v3P d e g with
  |some u,some v=>if ae3 u v then some (.str (aw (eX u v))) else none
  |_,_=>none
 |90,[.agg [.str a,.str b,.str c],.agg [.str d,.str e,.str g]]=>match v3P a b c,v3P d e g with
  |some u,some v=>if vF u∧vF v then some (vA (oY u v)) else none
  |_,_=>none
 |91,[.agg [.str a,.str b,.str c],.str k]=>match v3P a b c,dJ k with
  |some u,some x=>if FB u x then some (vA (jR u x)) else none
  |_,_=>none
 |71,[.agg [.str a,.str b,.str c],.agg [.str d,.str e,.str g],.str k]=>match v3P a b c,v3P d e g,dJ k with
  |some u,some v,some x=>if NI u v x then some (vA (oY u (jR v x))) else none
  |_,_,_=>none
 |215,[.str a,.str b,.str c,.str d]=>match dJ a,dJ b,dJ c,dJ d with
  |some p,some q,some r,some s=>if (aeF p∧aeF q∧aeF r∧aeF s)∧aeF (p*s)∧aeF (q*r) then some (.str (aw (p*s-q*r))) else none
  |_,_,_,_=>none
 |14,[.agg [.str a,.str b,.str c]]=>if a.length≤18∧b.length≤18∧c.length≤18 then some (.int .i64 (vw [a,b,c])) else none
 |f,args=>ao f args
theorem tD:kP prog (ag cR):=bK fun f args v h mem=>by
 unfold cR at h;split at h
 ·split at h
  ·rename_i u v hu hv
   split at h
   ·rename_i hc
    cases h;obtain⟨rfl,rfl,rfl⟩:=fB hu;obtain⟨rfl,rfl,rfl⟩:=fB hv;exact N7 u v hc mem
   ·cases h
  ·cases h
 ·split at h
  ·rename_i u v hu hv
   split at h
   ·rename_i hc
    cases h;obtain⟨rfl,rfl,rfl⟩:=fB hu;obtain⟨rfl,rfl,rfl⟩:=fB hv;exact N6 u v hc mem
   ·cases h
  ·cases h
 ·split at h
  ·rename_i u v hu hv
   split at h
   ·rename_i hc
    cases h;obtain⟨rfl,rfl,rfl⟩:=fB hu;obtain⟨rfl,rfl,rfl⟩:=fB hv;exact N8 u v hc mem
   ·cases h
  ·cases h
 ·split at h
  ·rename_i u v hu hv
   split at h
   ·rename_i hc
    cases h;obtain⟨rfl,rfl,rfl⟩:=fB hu;obtain⟨rfl,rfl,rfl⟩:=fB hv;exact N9 u v hc mem
   ·cases h
  ·cases h
 ·split at h
  ·rename_i u v hu hv
   split at h
   ·rename_i hc
    cases h;obtain⟨rfl,rfl,rfl⟩:=fB hu;obtain⟨rfl,rfl,rfl⟩:=fB hv;exact Og u v hc.1 hc.2 mem
   ·cases h
  ·cases h
 ·split at h
  ·rename_i u x hu hx
   split at h
   ·rename_i hc
    cases h;obtain⟨rfl,rfl,rfl⟩:=fB hu;rw[aA hx];exact F4 u x hc mem
   ·cases h
  ·cases h
 ·split at h
  ·rename_i u v x hu hv hx
   split at h
   ·rename_i hc
    cases h;obtain⟨rfl,rfl,rfl⟩:=fB hu;obtain⟨rfl,rfl,rfl⟩:=fB hv;rw[aA hx];exact KY u v x hc mem
   ·cases h
  ·cases h
 ·split at h
  ·rename_i p q r s hp hq hr hs
   split at h
   ·rename_i hc
    cases h;rw[aA hp,aA hq,aA hr,aA hs];exact F1 p q r s hc.1.1 hc.1.2.1 hc.1.2.2.1 hc.1.2.2.2 hc.2.1 hc.2.2 mem
   ·cases h
  ·cases h
 ·split at h
  ·rename_i hc;cases h;exact lO _ _ _ hc.1 hc.2.1 hc.2.2 mem
  ·cases h
 ·have:=bP.fn _ _ mem ⟨v,none,[]⟩ (by unfold ag;simp only;rw[h])
  simpa [HS.mem] using this
theorem FZ(a b:V3)(h:afR a b)(M:Mem):kF prog 140 [vA a,vA b] M (vA (To a b)) M:=by
 have hG:aT prog 140=some f140:=by kernel_rfl
 obtain⟨a1,a2,a3⟩:=a;obtain⟨b1,b2,b3⟩:=b;obtain⟨⟨⟨f1,f2,f3⟩,g1,g2,g3⟩,⟨i1,i2⟩,⟨i3,i4⟩,i5,i6⟩:=h;simp only at f1 f2 f3 g1 g2 g3 i1 i2 i3 i4 i5 i6;refine az tD (lv:=fun _=>[]) (K:=1) rfl rfl ?_ M;obtain⟨o1,FS⟩:∃o1,aG f140=[o1]:=⟨_,rfl⟩
 have hb1:=dw FS (l:=[0,0,2,0,8,0,32,0,128,511,0,0,2048,0,8192,0,32768,0,131072,524287,0,0,2097152,0,8388608,0,33554432,0,134217728,536870911,1073741823,2147483647]) (by kernel_rfl);have j1:aX [0,0,2,0,8,0,32,0,128,511,0,0,2048,0,8192,0,32768,0,131072,524287,0,0,2097152,0,8388608,0,33554432,0,134217728,536870911,1073741823,2147483647] 31=true:=by decide
 simp[aG,bF,f140] at FS;subst FS;simp[ad,hG,f140,-aE,aj hb1,bn,bf,bm,j1,vA,To,cM,aR,aB,ag,cR,f1,f2,f3,g1,g2,g3,i1,i2,i3,i4,i5,i6,Nat.testBit]
theorem SV(n:Int):aw (n:Rat)=cf n:=by unfold aw;rw[if_pos (by simp)];simp
noncomputable def Ey(f:FuncId) (args:List AV):Option AV:=
 match f,args with
 |98,[.int .i64 n]=>if dH n then some (.str (cf n)) else none
 |_,_=>none
theorem LK:kP prog (ag Ey):=bK fun f args v h mem=>by
 unfold Ey at h;split at h
 ·split at h
  ·rename_i hc;cases h;exact M5 _ hc mem
  ·cases h
 ·cases h
theorem zI(n:Int)(hn:dH n=true)(M:Mem):kF prog 138 [.int .i64 n] M (.str (aw (n:Rat))) M:=by
 have hG:aT prog 138=some f138:=by kernel_rfl
 rw[SV];refine az LK (lv:=fun _=>[]) (K:=1) rfl rfl ?_ M;simp[ad,hG,f138,ag,Ey,hn]
noncomputable def EN(f:FuncId) (args:List AV):Option AV:=
 match f,args with
 |138,[.int .i64 n]=>if dH n then some (.str (aw (n:Rat))) else none
 |_,_=>none
theorem L6:kP prog (ag EN):=bK fun f args v h mem=>by
 unfold EN at h;split at h
 ·split at h
  ·rename_i hc;cases h;exact zI _ hc mem
  ·cases h
 ·cases h
theorem Qt(a b c:Int)(ha:dH a=true)(hb:dH b=true)(hc:dH c=true)(M:Mem):kF prog 139 [.int .i64 a,.int .i64 b,.int .i64 c] M (vA ((a:Rat),(b:Rat),(c:Rat))) M:=by
 have hG:aT prog 139=some f139:=by kernel_rfl
 refine az L6 (lv:=fun _=>[]) (K:=1) rfl rfl ?_ M;simp[ad,hG,f139,ag,EN,ha,hb,hc,vA,cM,aR]
open Classical in
noncomputable def dF(f:FuncId) (args:List AV):Option AV:=
 match f,args with
 |138,[.int .i64 n]=>if dH n then some (.str (aw (n:Rat))) else none
 |139,[.int .i64 a,.int .i64 b,.int .i64 c]=>if dH a∧dH b∧dH c then some (vA ((a:Rat),(b:Rat),(c:Rat))) else none
 |140,[.agg [.str a,.str b,.str c],.agg [.str d,.str e,.str g]]=>match v3P a b c,v3P d e g with
  |some u,some v=>if afR u v then some (vA (To u v)) else none
  |_,_=>none
 |f,args=>cR f args
theorem Af:kP prog (ag dF):=bK fun f args v h mem=>by
 unfold dF at h;split at h
 ·split at h
  ·rename_i hc;cases h;exact zI _ hc mem
  ·cases h
 ·split at h
  ·rename_i hc;cases h;exact Qt _ _ _ hc.1 hc.2.1 hc.2.2 mem
  ·cases h
 ·split at h
  ·rename_i u v hu hv
   split at h
   ·rename_i hc
    cases h;obtain⟨rfl,rfl,rfl⟩:=fB hu;obtain⟨rfl,rfl,rfl⟩:=fB hv;exact FZ u v hc mem
   ·cases h
  ·cases h
 ·have:=tD.fn _ _ mem ⟨v,none,[]⟩ (by unfold ag;simp only;rw[h])
  simpa [HS.mem] using this
def CB(W:Rat) (U v:V3):V3:=jR (oY (oY (jR v (W*W-eX U U)) (jR U (2*eX U v))) (jR (To U v) (2*W))) (1 / (W*W+eX U U))
structure afO (W:Rat) (U v:V3):Prop where
 w:aeF W
 uu:ae3 U U
 ww:aeF (W*W)
 sq:aeF (eX U U)
 s1:FB v (W*W-eX U U)
 uv:ae3 U v
 f2:aeF (eX U v)
 s2:FB U (2*eX U v)
 c:afR U v
 s3:FB (To U v) (2*W)
 n0:W*W+eX U U≠0
 n1:aeF (W*W+eX U U)
 a1:vF (jR v (W*W-eX U U))∧vF (jR U (2*eX U v))
 a2:vF (oY (jR v (W*W-eX U U)) (jR U (2*eX U v)))∧vF (jR (To U v) (2*W))
 s4:FB (oY (oY (jR v (W*W-eX U U)) (jR U (2*eX U v))) (jR (To U v) (2*W))) (1 / (W*W+eX U U))
def lG(a:Int) (aF:Bool):Rat:=if aF then -(a:Rat) else (a:Rat)
def nA(b c d:Int):V3:=((b:Rat),(c:Rat),(d:Rat))
theorem K6(a b c d:Int)(aF:Bool)(v:V3)(ha:dH a=true)(hb:dH b=true)(hc:dH c=true)(hd:dH d=true)(h:afO (lG a aF) (nA b c d) v)(M:Mem):
  kF prog 92 [.agg [.int .i64 a,.int .i64 b,.int .i64 c,.int .i64 d],vA v,.bool aF] M (vA (CB (lG a aF) (nA b c d) v)) M:=by
 have hG:aT prog 92=some f92:=by kernel_rfl
 refine az Af (lv:=fun _=>[]) (K:=1) rfl rfl ?_ M;obtain⟨⟨w1,w2⟩,uu,⟨p1,p2⟩,⟨q1,q2⟩,s1,uv,⟨f1,f2⟩,s2,cu,s3,n0,⟨n1,n2⟩,⟨a1,a2⟩,⟨a3,a4⟩,s4⟩:=h;have wl:=jv (q:=lG a aF) ⟨w1,w2⟩;unfold CB;have ab8:dJ [50]=some 2:=rfl;have aal:dJ [49]=some 1:=rfl;have e2:(aQ (2:Rat).num.natAbs).length≤9∧(aQ (2:Rat).den).length≤9:=by decide
 have e1:(aQ (1:Rat).num.natAbs).length≤9∧(aQ (1:Rat).den).length≤9:=by decide
 obtain⟨⟨e3,e4⟩,e5,e6⟩:=And.intro e2 e1;obtain⟨two,h2⟩:∃x:Rat,x=2:=⟨_,rfl⟩
 obtain⟨one,h1⟩:∃x:Rat,x=1:=⟨_,rfl⟩
 rw[←h2] at ab8 e3 e4 s2 s3 a2 a3 a4 s4 ⊢;rw[←h1] at aal e5 e6 s4 ⊢;obtain⟨U,hU⟩:∃U,U=nA b c d:=⟨_,rfl⟩
 obtain⟨W,hW⟩:∃W,W=lG a aF:=⟨_,rfl⟩
 rw[←hU] at uu q1 q2 s1 uv f1 f2 s2 cu s3 n0 n1 n2 a1 a2 a3 a4 s4 ⊢;rw[←hW] at w1 w2 wl p1 p2 s1 s3 n0 n1 n2 a1 a3 a4 s4 ⊢;obtain⟨ww,hww⟩:∃x,x=W*W:=⟨_,rfl⟩
 obtain⟨sq,hsq⟩:∃x,x=eX U U:=⟨_,rfl⟩
 obtain⟨uw,huw⟩:∃x,x=eX U v:=⟨_,rfl⟩
 rw[←hww] at p1 p2 s1 n0 n1 n2 a1 a3 s4 ⊢;rw[←hsq] at q1 q2 s1 n0 n1 n2 a1 a3 s4 ⊢;rw[←huw] at f1 f2 s2 a2 a3 s4 ⊢;obtain⟨k1,Zn⟩:∃x,x=ww-sq:=⟨_,rfl⟩
 obtain⟨k2,hk2⟩:∃x,x=two*uw:=⟨_,rfl⟩
 obtain⟨k3,hk3⟩:∃x,x=two*W:=⟨_,rfl⟩
 obtain⟨k4,hk4⟩:∃x,x=ww+sq:=⟨_,rfl⟩
 rw[←Zn] at s1 a1 a3 s4 ⊢;rw[←hk2] at s2 a2 a3 s4 ⊢;rw[←hk3] at s3 a4 s4 ⊢;rw[←hk4] at n0 n1 n2 s4 ⊢;obtain⟨k5,hk5⟩:∃x,x=one / k4:=⟨_,rfl⟩
 obtain⟨c1,hc1⟩:∃x,x=To U v:=⟨_,rfl⟩
 rw[←hc1] at s3 a4 s4 ⊢;rw[←hk5] at s4 ⊢;obtain⟨v1,hv1⟩:∃x,x=jR v k1:=⟨_,rfl⟩
 obtain⟨v2,hv2⟩:∃x,x=jR U k2:=⟨_,rfl⟩
 obtain⟨v3,hv3⟩:∃x,x=jR c1 k3:=⟨_,rfl⟩
 rw[←hv1] at a1 a3 s4 ⊢;rw[←hv2] at a2 a3 s4 ⊢;rw[←hv3] at a4 s4 ⊢;obtain⟨v4,hv4⟩:∃x,x=oY v1 v2:=⟨_,rfl⟩
 rw[←hv4] at a3 s4 ⊢;obtain⟨v5,hv5⟩:∃x,x=oY v4 v3:=⟨_,rfl⟩
 rw[←hv5] at s4 ⊢;have IR:=bj (rfl:aG f92=_) (ls:=[[0,1,3,0,8,0,32,0,128,511,0,2047,4095],[0,0,0,6,0,30,63,0,255],[0,0,0,6,14,31,0,127],[0,0,3,0,15,0,63,127]]) (by kernel_rfl);simp only[aG,bF,f92,List.nil_append,List.append_nil,List.cons_append,List.map_cons,List.map_nil,List.cons.injEq,and_true] at IR;obtain⟨XY,hb1,Yl,ZP⟩:=IR;have j3:aX [0,0,3,0,15,0,63,127] 7=true:=by decide
 unfold nA at hU;unfold lG at hW;clear h2 h1;cases aF with
 |false=>
  rw[if_neg (by decide)] at hW;simp[ad,hG,f92,ag,dF,cR,ao,aH,ha,hb,hc,hd,vA,vq,aB,←hU,←hW,w1,w2,uu,p1,p2,q1,q2,s1,uv,f1,f2,s2,cu,s3,n0,n1,n2,a1,a2,a3,a4,s4,ab8,aal,e3,e4,e5,e6,←hww,←hsq,←huw,←Zn,←hk2,←hk3,←hk4,←hk5,←hc1,←hv1,←hv2,←hv3,←hv4,←hv5,-aE,aY XY,aY hb1,aY Yl,cO,jN,fz,cY,bW,iT,bef,oU,aj ZP,bn,bf,bm,j3,Nat.testBit]
 |true=>
  rw[if_pos rfl] at hW;have la:(aw (a:Rat)).length≤1000000000:=by have x1:=w1;have x2:=w2;rw[hW,Rat.neg_num,Int.natAbs_neg] at x1;rw[hW] at x2;exact jv ⟨x1,x2⟩
  simp[la,ad,hG,f92,ag,dF,cR,ao,aH,bM,be,ha,hb,hc,hd,vA,vq,aB,←hU,←hW,w1,w2,uu,p1,p2,q1,q2,s1,uv,f1,f2,s2,cu,s3,n0,n1,n2,a1,a2,a3,a4,s4,ab8,aal,e3,e4,e5,e6,←hww,←hsq,←huw,←Zn,←hk2,←hk3,←hk4,←hk5,←hc1,←hv1,←hv2,←hv3,←hv4,←hv5,-aE,aY XY,aY hb1,aY Yl,cO,jN,fz,cY,bW,iT,bef,oU,aj ZP,bn,bf,bm,j3,Nat.testBit]
end Go.Proofs
