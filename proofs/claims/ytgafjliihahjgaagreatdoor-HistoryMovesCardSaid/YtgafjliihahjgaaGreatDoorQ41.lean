/- See Q54. -/
import Derived.Test.YtgafjliihahjgaaGreatDoorQ19
import Derived.Test.YtgafjliihahjgaaGreatDoorQ17
set_option linter.all false
namespace Go.Eng
def Sm(D V:Nat) (q:Rat):Prop:=0<D∧(∃n:Int,q*(D:Rat)=(n:Rat))∧ -(V:Rat)≤q∧q≤(V:Rat)
theorem oo(a b:Nat):((a*b:Nat):Rat)=(a:Rat)*(b:Rat):=by have:((a*b:Nat):Rat)=(((a*b:Nat):Int):Rat):=(Rat.intCast_natCast _).symm;rw[this,Int.natCast_mul,Rat.intCast_mul,Rat.intCast_natCast,Rat.intCast_natCast]
theorem R2(a b:Nat):((a+b:Nat):Rat)=(a:Rat)+(b:Rat):=by have:((a+b:Nat):Rat)=(((a+b:Nat):Int):Rat):=(Rat.intCast_natCast _).symm;rw[this,Int.natCast_add,Rat.intCast_add,Rat.intCast_natCast,Rat.intCast_natCast]
theorem SM{a b:Nat}(h:a≤b):(a:Rat)≤(b:Rat):=by exact_mod_cast h
theorem RJ(a:Nat):(0:Rat)≤(a:Rat):=by exact_mod_cast Nat.zero_le a
theorem Sm.mono{D V W:Nat}{q:Rat}(h:Sm D V q) (hV:V≤W):Sm D W q:=by obtain⟨h0,h1,h2,h3⟩:=h;have:=SM hV;exact⟨h0,h1,by grind,by grind⟩
theorem Sm.up{D V:Nat}{q:Rat}(h:Sm D V q) (k:Nat) (hk:0<k):Sm (D*k) V q:=by obtain⟨h0,⟨n,h1⟩,h2,h3⟩:=h;refine⟨Nat.mul_pos h0 hk,⟨n*k,?_⟩,h2,h3⟩;rw[oo,←Rat.mul_assoc,h1,Rat.intCast_mul,Rat.intCast_natCast]
theorem Sm.to{D V E W:Nat}{q:Rat}(h:Sm D V q) (hE:D∣E) (hp:0<E) (hV:V≤W):Sm E W q:=by obtain⟨k,rfl⟩:=hE;exact(h.up k (Nat.pos_of_mul_pos_left hp)).mono hV
theorem Sm.int{V:Nat}{n:Int}(h:n.natAbs≤V):Sm 1 V (n:Rat):=by
 refine⟨by omega,⟨n,by rw[show((1:Nat):Rat)=1 from rfl,Rat.mul_one]⟩,?_,?_⟩
 ·have:(-(V:Int):Int)≤n:=by omega
  have:=Rat.intCast_le_intCast.2 this;rw[Rat.intCast_neg,Rat.intCast_natCast] at this;exact this
 ·have:n≤(V:Int):=by omega
  have:=Rat.intCast_le_intCast.2 this;rw[Rat.intCast_natCast] at this;exact this
theorem Sm.add{D V W:Nat}{p q:Rat}(h:Sm D V p) (k:Sm D W q):Sm D (V+W) (p+q):=by obtain⟨h0,⟨n,h1⟩,h2,h3⟩:=h;obtain⟨_,⟨m,k1⟩,k2,k3⟩:=k;refine⟨h0,⟨n+m,by rw[Rat.add_mul,h1,k1,Rat.intCast_add]⟩,?_,?_⟩<;>rw[R2]<;>grind
theorem Sm.neg{D V:Nat}{p:Rat}(h:Sm D V p):Sm D V (-p):=by obtain⟨h0,⟨n,h1⟩,h2,h3⟩:=h;exact⟨h0,⟨-n,by rw[Rat.neg_mul,h1,Rat.intCast_neg]⟩,by grind,by grind⟩
theorem Sm.sub{D V W:Nat}{p q:Rat}(h:Sm D V p) (k:Sm D W q):Sm D (V+W) (p-q):=by rw[Rat.sub_eq_add_neg];exact h.add k.neg
theorem Rs{p q v w:Rat}(h2: -v≤p) (h3:p≤v) (k2: -w≤q) (k3:q≤w): -(v*w)≤p*q∧p*q≤v*w:=by have a1:=Rat.mul_nonneg (show 0≤v-p by grind) (show 0≤w+q by grind);have a2:=Rat.mul_nonneg (show 0≤v+p by grind) (show 0≤w-q by grind);have a3:=Rat.mul_nonneg (show 0≤v+p by grind) (show 0≤w+q by grind);have a4:=Rat.mul_nonneg (show 0≤v-p by grind) (show 0≤w-q by grind);constructor<;>grind
theorem Sm.mul{D V E W:Nat}{p q:Rat}(h:Sm D V p) (k:Sm E W q):Sm (D*E) (V*W) (p*q):=by
 obtain⟨h0,⟨n,h1⟩,h2,h3⟩:=h;obtain⟨k0,⟨m,k1⟩,k2,k3⟩:=k;have:=Rs h2 h3 k2 k3;refine⟨Nat.mul_pos h0 k0,⟨n*m,?_⟩,?_,?_⟩
 ·rw[oo,Rat.intCast_mul,←h1,←k1];grind
 ·rw[oo];exact this.1
 ·rw[oo];exact this.2
theorem Sm.dg{D V:Nat}{q:Rat}(h:Sm D V q) {a b:Nat}(h1:D*V<10 ^ a) (h2:D<10 ^ b):dg a b q:=by
 obtain⟨h0,⟨n,h3⟩,h4,h5⟩:=h;have hD:(D:Rat)≠0:=fun e=>by rw[Rat.natCast_eq_zero_iff] at e;omega
 have e:q=mkRat n D:=by rw[Rat.mkRat_eq_div,←h3];exact(Rat.mul_div_cancel hD).symm
 rw[e];refine pf (by omega) ?_ h2;have hp:=RJ D;have m1:=Rat.mul_nonneg (show 0≤(V:Rat)-q by grind) hp;have m2:=Rat.mul_nonneg (show 0≤(V:Rat)+q by grind) hp;have l1:(n:Rat)≤(((V*D:Nat):Int):Rat):=by rw[Rat.intCast_natCast,oo,←h3];grind
 have l2:((-((V*D:Nat):Int):Int):Rat)≤(n:Rat):=by rw[Rat.intCast_neg,Rat.intCast_natCast,oo,←h3];grind
 have l1:=Rat.intCast_le_intCast.1 l1;have l2:=Rat.intCast_le_intCast.1 l2;have c:V*D=D*V:=Nat.mul_comm _ _;omega
theorem Sm.lens{D V:Nat}{q:Rat}(h:Sm D V q) (h1:D*V<10 ^ 9) (h2:D<10 ^ 9):(aJ q.num.natAbs).length≤9∧(aJ q.den).length≤9:=(h.dg h1 h2).lens (by omega) (by omega)
theorem Sm.inv{N:Nat}(h:0<N):Sm N 1 ((1:Rat) / (N:Rat)):=by
 have hN:(N:Rat)≠0:=fun e=>by rw[Rat.natCast_eq_zero_iff] at e;omega
 have e1:(1:Rat) / (N:Rat)*(N:Rat)=1:=Rat.div_mul_cancel hN;have p1:(0:Rat)<(N:Rat):=by exact_mod_cast h
 have g1:(1:Rat)≤(N:Rat):=by exact_mod_cast h
 have hp:(0:Rat)≤1 / (N:Rat):=by
  rcases (Rat.le_total:(0:Rat)≤1 / (N:Rat)∨1 / (N:Rat)≤0) with h | h
  ·exact h
  ·have:=Rat.mul_nonneg (show(0:Rat)≤ -(1 / (N:Rat)) by grind) (RJ N)
   grind
 refine⟨h,⟨1,by rw[e1];rfl⟩,by rw[show((1:Nat):Rat)=1 from rfl];grind,?_⟩;rw[show((1:Nat):Rat)=1 from rfl];have:=Rat.mul_nonneg hp (show 0≤(N:Rat)-1 by grind)
 grind
end Go.Eng
namespace Go.Proofs
open Go.Eng
def iT(a b:V3):V3:=(a.1+b.1,a.2.1+b.2.1,a.2.2+b.2.2)
def iM(a:V3) (k:Rat):V3:=(a.1*k,a.2.1*k,a.2.2*k)
def Qf(a b:V3):V3:=(a.2.1*b.2.2-a.2.2*b.2.1,a.2.2*b.1-a.1*b.2.2,a.1*b.2.1-a.2.1*b.1)
def vF(a:V3):Prop:=fine a.1∧fine a.2.1∧fine a.2.2
def dotOk(a b:V3):Prop:=vF a∧vF b∧If [a.1*b.1,a.2.1*b.2.1,a.2.2*b.2.2] 0
def crsOk(a b:V3):Prop:=(vF a∧vF b)∧(fine (a.2.1*b.2.2)∧fine (a.2.2*b.2.1))∧(fine (a.2.2*b.1)∧fine (a.1*b.2.2))∧fine (a.1*b.2.1)∧fine (a.2.1*b.1)
def Dw(a:V3) (k:Rat):Prop:=vF a∧fine k
def vC(v:V3):Prop:=tq [ah v.1,ah v.2.1,ah v.2.2]=0∧(ah v.1).length≤18∧(ah v.2.1).length≤18∧(ah v.2.2).length≤18
def vSm(D V:Nat) (a:V3):Prop:=Sm D V a.1∧Sm D V a.2.1∧Sm D V a.2.2
end Go.Proofs
namespace Go.Eng
theorem Sm.fine{D V:Nat}{q:Rat}(h:Sm D V q) (h1:D*V<10 ^ 9) (h2:D<10 ^ 9):Go.Proofs.fine q:=h.lens h1 h2
end Go.Eng
namespace Go.Proofs
open Go.Eng
theorem O6:fine 0:=⟨by decide,by decide⟩
section
variable {D V E W:Nat}{a b:V3}{k:Rat}
theorem vSm.mono(h:vSm D V a) (hV:V≤W):vSm D W a:=⟨h.1.mono hV,h.2.1.mono hV,h.2.2.mono hV⟩
theorem vSm.to(h:vSm D V a) (hE:D∣E) (hp:0<E) (hV:V≤W):vSm E W a:=⟨h.1.to hE hp hV,h.2.1.to hE hp hV,h.2.2.to hE hp hV⟩
theorem vSm.vF(h:vSm D V a) (h1:D*V<10 ^ 9) (h2:D<10 ^ 9):vF a:=⟨h.1.fine h1 h2,h.2.1.fine h1 h2,h.2.2.fine h1 h2⟩
theorem vSm.add(h:vSm D V a) (k:vSm D W b):vSm D (V+W) (iT a b):=⟨h.1.add k.1,h.2.1.add k.2.1,h.2.2.add k.2.2⟩
theorem vSm.scl(h:vSm D V a) (g:Sm E W k):vSm (D*E) (V*W) (iM a k):=⟨h.1.mul g,h.2.1.mul g,h.2.2.mul g⟩
theorem vSm.dot(h:vSm D V a) (k:vSm E W b):Sm (D*E) (V*W+V*W+V*W) (ei a b):=((h.1.mul k.1).add (h.2.1.mul k.2.1)).add (h.2.2.mul k.2.2)
theorem vSm.crs(h:vSm D V a) (k:vSm E W b):vSm (D*E) (V*W+V*W) (Qf a b):=⟨(h.2.1.mul k.2.2).sub (h.2.2.mul k.2.1),(h.2.2.mul k.1).sub (h.1.mul k.2.2),(h.1.mul k.2.1).sub (h.2.1.mul k.1)⟩
theorem vSm.dotOk(h:vSm D V a) (k:vSm E W b) (h1:D*V<10 ^ 9) (h2:D<10 ^ 9) (h3:E*W<10 ^ 9) (h4:E<10 ^ 9) (h5:D*E*(V*W+V*W)<10 ^ 9) (h6:D*E<10 ^ 9):dotOk a b:=by
 have p1:=h.1.mul k.1;have p2:=h.2.1.mul k.2.1;have p3:=h.2.2.mul k.2.2;have l:D*E*(V*W)<10 ^ 9:=Nat.lt_of_le_of_lt (Nat.mul_le_mul_left _ (Nat.le_add_left _ _)) h5;have f1:=p1.fine l h6;refine⟨h.vF h1 h2,k.vF h3 h4,O6,f1,?_,p2.fine l h6,?_,p3.fine l h6,trivial⟩
 ·rw[Rat.zero_add];exact f1
 ·rw[Rat.zero_add];exact(p1.add p2).fine h5 h6
theorem vSm.crsOk(h:vSm D V a) (k:vSm E W b) (h1:D*V<10 ^ 9) (h2:D<10 ^ 9) (h3:E*W<10 ^ 9) (h4:E<10 ^ 9) (h5:D*E*(V*W)<10 ^ 9) (h6:D*E<10 ^ 9):crsOk a b:=
 ⟨⟨h.vF h1 h2,k.vF h3 h4⟩,⟨(h.2.1.mul k.2.2).fine h5 h6,(h.2.2.mul k.2.1).fine h5 h6⟩,⟨(h.2.2.mul k.1).fine h5 h6,(h.1.mul k.2.2).fine h5 h6⟩,(h.1.mul k.2.1).fine h5 h6,(h.2.1.mul k.1).fine h5 h6⟩
theorem vSm.vC(h:vSm D V a) (h1:D*V<10 ^ 9) (h2:D<10 ^ 7):vC a:=by
 have g:∀q,Sm D V q→u4 (ah q)=0∧(ah q).length≤18:=fun q hq=>by have d:=hq.dg h1 h2;exact⟨qX (d.mono (by decide) (by decide)),Pq d (by decide) (by decide) (by decide)⟩
 obtain⟨a1,a2⟩:=g _ h.1;obtain⟨b1,b2⟩:=g _ h.2.1;obtain⟨c1,c2⟩:=g _ h.2.2;exact⟨by simp[tq,a1,b1,c1],a2,b2,c2⟩
end
def v3P(a b c:List UInt8):Option V3:=match cV a,cV b,cV c with
 |some x,some y,some z=>some (x,y,z)
 |_,_,_=>none
theorem nr(x y z:Rat):v3P (ah x) (ah y) (ah z)=some (x,y,z):=by simp only[v3P,ay]
theorem dZ{a b c:List UInt8}{v:V3}(h:v3P a b c=some v):a=ah v.1∧b=ah v.2.1∧c=ah v.2.2:=by
 unfold v3P at h;split at h
 ·rename_i x y z hx hy hz
  cases h;exact⟨au hx,au hy,au hz⟩
 ·cases h
end Go.Proofs
namespace Go.Proofs
open Go.Eng
set_option maxHeartbeats 1600000 in
theorem Ln(a b:V3) (h:dotOk a b) (M:Mem):ACallsTo Tryz.prog 86 [vA a,vA b] M (.str (ah (ei a b))) M:=by
 have hG:aL Tryz.prog 86=some Tryz.f86:=by kernel_rfl
 obtain⟨a1,a2,a3⟩:=a;obtain⟨b1,b2,b3⟩:=b;obtain⟨⟨⟨f1,f2⟩,⟨f3,f4⟩,f5,f6⟩,⟨⟨g1,g2⟩,⟨g3,g4⟩,g5,g6⟩,hs⟩:=h;simp only at f1 f2 f3 f4 f5 f6 g1 g2 g3 g4 g5 g6 hs;have hsum:zJ [a1*b1,a2*b2,a3*b3] 0=a1*b1+a2*b2+a3*b3:=by simp[zJ,Rat.zero_add]
 unfold ei;simp only;obtain⟨p,hp⟩:∃p,p=a1*b1:=⟨_,rfl⟩
 obtain⟨q,hq⟩:∃p,p=a2*b2:=⟨_,rfl⟩
 obtain⟨r,hr⟩:∃p,p=a3*b3:=⟨_,rfl⟩
 rw[←hp,←hq,←hr] at hs hsum ⊢;refine aq eN (lv:=fun _=>[]) (K:=1) rfl rfl ?_ M;obtain⟨ops,hops⟩:∃ops,aE Tryz.f86=[ops]:=⟨_,rfl⟩
 have hbs:=cE hops (l:=[0,1,0,4,15,0,32,0,128,511,0,1024,0,4096,16383,32767,65535,131071]) (by kernel_rfl);have hba:JJ [0,1,0,4,15,0,32,0,128,511,0,1024,0,4096,16383,32767,65535,131071] 18 15=true:=by decide
 simp[aE,bC,Tryz.f86] at hops;subst hops;simp[aa,hG,Tryz.f86,-aD,jG hbs,kH,pY,yH,cj,hba,vA,fG,lO,lP,Dm,ay,af,aA,aC,f1,f2,f3,f4,f5,f6,g1,g2,g3,g4,g5,g6,←hp,←hq,←hr,hs,hsum,Nat.testBit]
set_option maxHeartbeats 1600000 in
theorem Lm(a b:V3) (h:dotOk a b) (M:Mem):ACallsTo Tryz.prog 73 [vA a,vA b] M (.str (ah (ei a b))) M:=by
 have hG:aL Tryz.prog 73=some Tryz.f73:=by kernel_rfl
 obtain⟨a1,a2,a3⟩:=a;obtain⟨b1,b2,b3⟩:=b;obtain⟨⟨⟨f1,f2⟩,⟨f3,f4⟩,f5,f6⟩,⟨⟨g1,g2⟩,⟨g3,g4⟩,g5,g6⟩,hs⟩:=h;simp only at f1 f2 f3 f4 f5 f6 g1 g2 g3 g4 g5 g6 hs;have hsum:zJ [a1*b1,a2*b2,a3*b3] 0=a1*b1+a2*b2+a3*b3:=by simp[zJ,Rat.zero_add]
 unfold ei;simp only;obtain⟨p,hp⟩:∃p,p=a1*b1:=⟨_,rfl⟩
 obtain⟨q,hq⟩:∃p,p=a2*b2:=⟨_,rfl⟩
 obtain⟨r,hr⟩:∃p,p=a3*b3:=⟨_,rfl⟩
 rw[←hp,←hq,←hr] at hs hsum ⊢;refine aq eN (lv:=fun _=>[]) (K:=1) rfl rfl ?_ M;obtain⟨ops,hops⟩:∃ops,aE Tryz.f73=[ops]:=⟨_,rfl⟩
 have hbs:=cE hops (l:=[0,1,0,4,15,0,32,0,128,511,0,1024,0,4096,16383,32767,65535,131071]) (by kernel_rfl);have hba:JJ [0,1,0,4,15,0,32,0,128,511,0,1024,0,4096,16383,32767,65535,131071] 18 15=true:=by decide
 simp[aE,bC,Tryz.f73] at hops;subst hops;simp[aa,hG,Tryz.f73,-aD,jG hbs,kH,pY,yH,cj,hba,vA,fG,lO,lP,Dm,ay,af,aA,aC,f1,f2,f3,f4,f5,f6,g1,g2,g3,g4,g5,g6,←hp,←hq,←hr,hs,hsum,Nat.testBit]
set_option maxHeartbeats 1600000 in
theorem Lp(a b:V3) (h:dotOk a b) (M:Mem):ACallsTo Tryz.prog 246 [vA a,vA b] M (.str (ah (ei a b))) M:=by
 have hG:aL Tryz.prog 246=some Tryz.f246:=by kernel_rfl
 obtain⟨a1,a2,a3⟩:=a;obtain⟨b1,b2,b3⟩:=b;obtain⟨⟨⟨f1,f2⟩,⟨f3,f4⟩,f5,f6⟩,⟨⟨g1,g2⟩,⟨g3,g4⟩,g5,g6⟩,hs⟩:=h;simp only at f1 f2 f3 f4 f5 f6 g1 g2 g3 g4 g5 g6 hs;have hsum:zJ [a1*b1,a2*b2,a3*b3] 0=a1*b1+a2*b2+a3*b3:=by simp[zJ,Rat.zero_add]
 unfold ei;simp only;obtain⟨p,hp⟩:∃p,p=a1*b1:=⟨_,rfl⟩
 obtain⟨q,hq⟩:∃p,p=a2*b2:=⟨_,rfl⟩
 obtain⟨r,hr⟩:∃p,p=a3*b3:=⟨_,rfl⟩
 rw[←hp,←hq,←hr] at hs hsum ⊢;refine aq eN (lv:=fun _=>[]) (K:=1) rfl rfl ?_ M;obtain⟨ops,hops⟩:∃ops,aE Tryz.f246=[ops]:=⟨_,rfl⟩
 have hbs:=cE hops (l:=[0,1,0,4,15,0,32,0,128,511,0,1024,0,4096,16383,32767,65535,131071]) (by kernel_rfl);have hba:JJ [0,1,0,4,15,0,32,0,128,511,0,1024,0,4096,16383,32767,65535,131071] 18 15=true:=by decide
 simp[aE,bC,Tryz.f246] at hops;subst hops;simp[aa,hG,Tryz.f246,-aD,jG hbs,kH,pY,yH,cj,hba,vA,fG,lO,lP,Dm,ay,af,aA,aC,f1,f2,f3,f4,f5,f6,g1,g2,g3,g4,g5,g6,←hp,←hq,←hr,hs,hsum,Nat.testBit]
set_option maxHeartbeats 1600000 in
theorem Lq(a b:V3) (h:dotOk a b) (M:Mem):ACallsTo Tryz.prog 183 [vA a,vA b] M (.str (ah (ei a b))) M:=by
 have hG:aL Tryz.prog 183=some Tryz.f183:=by kernel_rfl
 obtain⟨a1,a2,a3⟩:=a;obtain⟨b1,b2,b3⟩:=b;obtain⟨⟨⟨f1,f2⟩,⟨f3,f4⟩,f5,f6⟩,⟨⟨g1,g2⟩,⟨g3,g4⟩,g5,g6⟩,hs⟩:=h;simp only at f1 f2 f3 f4 f5 f6 g1 g2 g3 g4 g5 g6 hs;have hsum:zJ [a1*b1,a2*b2,a3*b3] 0=a1*b1+a2*b2+a3*b3:=by simp[zJ,Rat.zero_add]
 unfold ei;simp only;obtain⟨p,hp⟩:∃p,p=a1*b1:=⟨_,rfl⟩
 obtain⟨q,hq⟩:∃p,p=a2*b2:=⟨_,rfl⟩
 obtain⟨r,hr⟩:∃p,p=a3*b3:=⟨_,rfl⟩
 rw[←hp,←hq,←hr] at hs hsum ⊢;refine aq eN (lv:=fun _=>[]) (K:=1) rfl rfl ?_ M;obtain⟨ops,hops⟩:∃ops,aE Tryz.f183=[ops]:=⟨_,rfl⟩
 have hbs:=cE hops (l:=[0,1,0,4,15,0,32,0,128,511,0,1024,0,4096,16383,32767,65535,131071]) (by kernel_rfl);have hba:JJ [0,1,0,4,15,0,32,0,128,511,0,1024,0,4096,16383,32767,65535,131071] 18 15=true:=by decide
 simp[aE,bC,Tryz.f183] at hops;subst hops;simp[aa,hG,Tryz.f183,-aD,jG hbs,kH,pY,yH,cj,hba,vA,fG,lO,lP,Dm,ay,af,aA,aC,f1,f2,f3,f4,f5,f6,g1,g2,g3,g4,g5,g6,←hp,←hq,←hr,hs,hsum,Nat.testBit]
set_option maxHeartbeats 1600000 in
theorem Lx(a b:V3) (ha:vF a) (hb:vF b) (M:Mem):ACallsTo Tryz.prog 90 [vA a,vA b] M (vA (iT a b)) M:=by
 have hG:aL Tryz.prog 90=some Tryz.f90:=by kernel_rfl
 obtain⟨a1,a2,a3⟩:=a;obtain⟨b1,b2,b3⟩:=b;obtain⟨⟨f1,f2⟩,⟨f3,f4⟩,f5,f6⟩:=ha;obtain⟨⟨g1,g2⟩,⟨g3,g4⟩,g5,g6⟩:=hb;simp only at f1 f2 f3 f4 f5 f6 g1 g2 g3 g4 g5 g6;refine aq bK (lv:=fun _=>[]) (K:=1) rfl rfl ?_ M;obtain⟨o1,hops⟩:∃o1,aE Tryz.f90=[o1]:=⟨_,rfl⟩
 have hb1:=cE hops (l:=[0,1,0,4,15,0,32,0,128,511,0,1024,0,4096,16383,32767,65535]) (by kernel_rfl);have j1:aN [0,1,0,4,15,0,32,0,128,511,0,1024,0,4096,16383,32767,65535] 16=true:=by decide
 simp[aE,bC,Tryz.f90] at hops;subst hops;simp[aa,hG,Tryz.f90,-aD,ai hb1,bc,aW,a8,j1,vA,bO,aH,ay,af,aA,aC,iT,f1,f2,f3,f4,f5,f6,g1,g2,g3,g4,g5,g6,Nat.testBit]
set_option maxHeartbeats 1600000 in
theorem D5(a:V3) (k:Rat) (h:Dw a k) (M:Mem):ACallsTo Tryz.prog 91 [vA a,.str (ah k)] M (vA (iM a k)) M:=by
 have hG:aL Tryz.prog 91=some Tryz.f91:=by kernel_rfl
 obtain⟨a1,a2,a3⟩:=a;obtain⟨⟨⟨f1,f2⟩,⟨f3,f4⟩,f5,f6⟩,g1,g2⟩:=h;simp only at f1 f2 f3 f4 f5 f6 g1 g2;refine aq bK (lv:=fun _=>[]) (K:=1) rfl rfl ?_ M;obtain⟨o1,hops⟩:∃o1,aE Tryz.f91=[o1]:=⟨_,rfl⟩
 have hb1:=cE hops (l:=[0,1,0,7,0,16,0,127,0,256,0,2047,4095,8191]) (by kernel_rfl);have j1:aN [0,1,0,7,0,16,0,127,0,256,0,2047,4095,8191] 13=true:=by decide
 simp[aE,bC,Tryz.f91] at hops;subst hops;simp[aa,hG,Tryz.f91,-aD,ai hb1,bc,aW,a8,j1,vA,bO,aH,ay,af,aA,aC,iM,f1,f2,f3,f4,f5,f6,g1,g2,Nat.testBit]
set_option maxHeartbeats 1600000 in
theorem D3(p q r s:Rat) (hp:fine p) (hq:fine q) (hr:fine r) (hs:fine s) (h1:fine (p*s)) (h2:fine (q*r)) (M:Mem):ACallsTo Tryz.prog 215 [.str (ah p),.str (ah q),.str (ah r),.str (ah s)] M (.str (ah (p*s-q*r))) M:=by
 have hG:aL Tryz.prog 215=some Tryz.f215:=by kernel_rfl
 obtain⟨a1,a2⟩:=hp;obtain⟨b1,b2⟩:=hq;obtain⟨c1,c2⟩:=hr;obtain⟨d1,d2⟩:=hs;obtain⟨e1,e2⟩:=h1;obtain⟨f1,f2⟩:=h2;obtain⟨x,hx⟩:∃x,x=p*s:=⟨_,rfl⟩
 obtain⟨y,hy⟩:∃x,x=q*r:=⟨_,rfl⟩
 rw[←hx] at e1 e2 ⊢;rw[←hy] at f1 f2 ⊢;refine aq bK (lv:=fun _=>[]) (K:=1) rfl rfl ?_ M;simp[aa,hG,Tryz.f215,ay,af,aA,aC,a1,a2,b1,b2,c1,c2,d1,d2,e1,e2,f1,f2,←hx,←hy]
def K0(p v:V3) (k:Rat):Prop:=(vF p∧vF v∧fine k)∧fine (k*v.1)∧fine (k*v.2.1)∧fine (k*v.2.2)
theorem RI(p v:V3) (k:Rat):iT p (iM v k)=(p.1+k*v.1,p.2.1+k*v.2.1,p.2.2+k*v.2.2):=by unfold iT iM;simp only[Rat.mul_comm]
set_option maxHeartbeats 1600000 in
theorem Iy(p v:V3) (k:Rat) (h:K0 p v k) (M:Mem):ACallsTo Tryz.prog 71 [vA p,vA v,.str (ah k)] M (vA (iT p (iM v k))) M:=by
 have hG:aL Tryz.prog 71=some Tryz.f71:=by kernel_rfl
 rw[RI];obtain⟨a1,a2,a3⟩:=p;obtain⟨b1,b2,b3⟩:=v;obtain⟨⟨⟨⟨f1,f2⟩,⟨f3,f4⟩,f5,f6⟩,⟨⟨g1,g2⟩,⟨g3,g4⟩,g5,g6⟩,k1,k2⟩,⟨i1,i2⟩,⟨i3,i4⟩,i5,i6⟩:=h;simp only at f1 f2 f3 f4 f5 f6 g1 g2 g3 g4 g5 g6 i1 i2 i3 i4 i5 i6 ⊢;obtain⟨x,hx⟩:∃x,x=k*b1:=⟨_,rfl⟩
 obtain⟨y,hy⟩:∃x,x=k*b2:=⟨_,rfl⟩
 obtain⟨z,hz⟩:∃x,x=k*b3:=⟨_,rfl⟩
 rw[←hx] at i1 i2 ⊢;rw[←hy] at i3 i4 ⊢;rw[←hz] at i5 i6 ⊢;refine aq bK (lv:=fun _=>[]) (K:=1) rfl rfl ?_ M;obtain⟨o1,hops⟩:∃o1,aE Tryz.f71=[o1]:=⟨_,rfl⟩
 have hb1:=cE hops (l:=[0,1,0,0,8,28,63,0,128,0,0,1024,3711,8191,0,16384,0,0,131072,475135,1048575,2097151,4194303]) (by kernel_rfl);have j1:aN [0,1,0,0,8,28,63,0,128,0,0,1024,3711,8191,0,16384,0,0,131072,475135,1048575,2097151,4194303] 22=true:=by decide
 simp[aE,bC,Tryz.f71] at hops;subst hops;simp[aa,hG,Tryz.f71,-aD,ai hb1,bc,aW,a8,j1,vA,bO,aH,ay,af,aA,aC,f1,f2,f3,f4,f5,f6,g1,g2,g3,g4,g5,g6,k1,k2,i1,i2,i3,i4,i5,i6,←hx,←hy,←hz,Nat.testBit]
open Classical in
noncomputable def aX(f:FuncId) (args:List AV):Option AV:=
 match f,args with
 |86,[.agg [.str a,.str b,.str c],.agg [.str d,.str e,.str g]]=>match v3P a b c,v3P d e g with
  |some u,some v=>if dotOk u v then some (.str (ah (ei u v))) else none
  |_,_=>none
 |73,[.agg [.str a,.str b,.str c],.agg [.str d,.str e,.str g]]=>match v3P a b c,v3P d e g with
  |some u,some v=>if dotOk u v then some (.str (ah (ei u v))) else none
  |_,_=>none
 |246,[.agg [.str a,.str b,.str c],.agg [.str d,.str e,.str g]]=>match v3P a b c,v3P d e g with
  |some u,some v=>if dotOk u v then some (.str (ah (ei u v))) else none
  |_,_=>none
 |183,[.agg [.str a,.str b,.str c],.agg [.str d,.str e,.str g]]=>match v3P a b c,v3P d e g with
  |some u,some v=>if dotOk u v then some (.str (ah (ei u v))) else none
  |_,_=>none
 |90,[.agg [.str a,.str b,.str c],.agg [.str d,.str e,.str g]]=>match v3P a b c,v3P d e g with
  |some u,some v=>if vF u∧vF v then some (vA (iT u v)) else none
  |_,_=>none
 |91,[.agg [.str a,.str b,.str c],.str k]=>match v3P a b c,cV k with
  |some u,some x=>if Dw u x then some (vA (iM u x)) else none
  |_,_=>none
 |71,[.agg [.str a,.str b,.str c],.agg [.str d,.str e,.str g],.str k]=>match v3P a b c,v3P d e g,cV k with
  |some u,some v,some x=>if K0 u v x then some (vA (iT u (iM v x))) else none
  |_,_,_=>none
 |215,[.str a,.str b,.str c,.str d]=>match cV a,cV b,cV c,cV d with
  |some p,some q,some r,some s=>if (fine p∧fine q∧fine r∧fine s)∧fine (p*s)∧fine (q*r) then some (.str (ah (p*s-q*r))) else none
  |_,_,_,_=>none
 |14,[.agg [.str a,.str b,.str c]]=>if a.length≤18∧b.length≤18∧c.length≤18 then some (.int .i64 (tq [a,b,c])) else none
 |f,args=>aA f args
theorem cM:OracleOk Tryz.prog (af aX):=bq fun f args v h mem=>by
 unfold aX at h;split at h
 ·split at h
  ·rename_i u v hu hv
   split at h
   ·rename_i hc
    cases h;obtain⟨rfl,rfl,rfl⟩:=dZ hu;obtain⟨rfl,rfl,rfl⟩:=dZ hv;exact Ln u v hc mem
   ·cases h
  ·cases h
 ·split at h
  ·rename_i u v hu hv
   split at h
   ·rename_i hc
    cases h;obtain⟨rfl,rfl,rfl⟩:=dZ hu;obtain⟨rfl,rfl,rfl⟩:=dZ hv;exact Lm u v hc mem
   ·cases h
  ·cases h
 ·split at h
  ·rename_i u v hu hv
   split at h
   ·rename_i hc
    cases h;obtain⟨rfl,rfl,rfl⟩:=dZ hu;obtain⟨rfl,rfl,rfl⟩:=dZ hv;exact Lp u v hc mem
   ·cases h
  ·cases h
 ·split at h
  ·rename_i u v hu hv
   split at h
   ·rename_i hc
    cases h;obtain⟨rfl,rfl,rfl⟩:=dZ hu;obtain⟨rfl,rfl,rfl⟩:=dZ hv;exact Lq u v hc mem
   ·cases h
  ·cases h
 ·split at h
  ·rename_i u v hu hv
   split at h
   ·rename_i hc
    cases h;obtain⟨rfl,rfl,rfl⟩:=dZ hu;obtain⟨rfl,rfl,rfl⟩:=dZ hv;exact Lx u v hc.1 hc.2 mem
   ·cases h
  ·cases h
 ·split at h
  ·rename_i u x hu hx
   split at h
   ·rename_i hc
    cases h;obtain⟨rfl,rfl,rfl⟩:=dZ hu;rw[au hx];exact D5 u x hc mem
   ·cases h
  ·cases h
 ·split at h
  ·rename_i u v x hu hv hx
   split at h
   ·rename_i hc
    cases h;obtain⟨rfl,rfl,rfl⟩:=dZ hu;obtain⟨rfl,rfl,rfl⟩:=dZ hv;rw[au hx];exact Iy u v x hc mem
   ·cases h
  ·cases h
 ·split at h
  ·rename_i p q r s hp hq hr hs
   split at h
   ·rename_i hc
    cases h;rw[au hp,au hq,au hr,au hs];exact D3 p q r s hc.1.1 hc.1.2.1 hc.1.2.2.1 hc.1.2.2.2 hc.2.1 hc.2.2 mem
   ·cases h
  ·cases h
 ·split at h
  ·rename_i hc;cases h;exact jZ _ _ _ hc.1 hc.2.1 hc.2.2 mem
  ·cases h
 ·have:=bK.fn _ _ mem ⟨v,none,[]⟩ (by unfold af;simp only;rw[h])
  simpa [CallRes.mem] using this
set_option maxRecDepth 8192 in
set_option maxHeartbeats 3200000 in
theorem D1(a b:V3) (h:crsOk a b) (M:Mem):ACallsTo Tryz.prog 140 [vA a,vA b] M (vA (Qf a b)) M:=by
 have hG:aL Tryz.prog 140=some Tryz.f140:=by kernel_rfl
 obtain⟨a1,a2,a3⟩:=a;obtain⟨b1,b2,b3⟩:=b;obtain⟨⟨⟨f1,f2,f3⟩,g1,g2,g3⟩,⟨i1,i2⟩,⟨i3,i4⟩,i5,i6⟩:=h;simp only at f1 f2 f3 g1 g2 g3 i1 i2 i3 i4 i5 i6;refine aq cM (lv:=fun _=>[]) (K:=1) rfl rfl ?_ M;obtain⟨o1,hops⟩:∃o1,aE Tryz.f140=[o1]:=⟨_,rfl⟩
 have hb1:=cE hops (l:=[0,0,2,0,8,0,32,0,128,511,0,0,2048,0,8192,0,32768,0,131072,524287,0,0,2097152,0,8388608,0,33554432,0,134217728,536870911,1073741823,2147483647]) (by kernel_rfl);have j1:aN [0,0,2,0,8,0,32,0,128,511,0,0,2048,0,8192,0,32768,0,131072,524287,0,0,2097152,0,8388608,0,33554432,0,134217728,536870911,1073741823,2147483647] 31=true:=by decide
 simp[aE,bC,Tryz.f140] at hops;subst hops;simp[aa,hG,Tryz.f140,-aD,ai hb1,bc,aW,a8,j1,vA,Qf,bO,aH,ay,af,aX,f1,f2,f3,g1,g2,g3,i1,i2,i3,i4,i5,i6,Nat.testBit]
theorem PQ(n:Int):ah (n:Rat)=bT n:=by unfold ah;rw[if_pos (by simp)];simp
noncomputable def Cw(f:FuncId) (args:List AV):Option AV:=
 match f,args with
 |98,[.int .i64 n]=>if de n then some (.str (bT n)) else none
 |_,_=>none
theorem Jl:OracleOk Tryz.prog (af Cw):=bq fun f args v h mem=>by
 unfold Cw at h;split at h
 ·split at h
  ·rename_i hc;cases h;exact Kz _ hc mem
  ·cases h
 ·cases h
theorem xP(n:Int) (hn:de n=true) (M:Mem):ACallsTo Tryz.prog 138 [.int .i64 n] M (.str (ah (n:Rat))) M:=by
 have hG:aL Tryz.prog 138=some Tryz.f138:=by kernel_rfl
 rw[PQ];refine aq Jl (lv:=fun _=>[]) (K:=1) rfl rfl ?_ M;simp[aa,hG,Tryz.f138,af,Cw,hn]
noncomputable def CL(f:FuncId) (args:List AV):Option AV:=
 match f,args with
 |138,[.int .i64 n]=>if de n then some (.str (ah (n:Rat))) else none
 |_,_=>none
theorem JE:OracleOk Tryz.prog (af CL):=bq fun f args v h mem=>by
 unfold CL at h;split at h
 ·split at h
  ·rename_i hc;cases h;exact xP _ hc mem
  ·cases h
 ·cases h
theorem NK(a b c:Int) (ha:de a=true) (hb:de b=true) (hc:de c=true) (M:Mem):ACallsTo Tryz.prog 139 [.int .i64 a,.int .i64 b,.int .i64 c] M (vA ((a:Rat),(b:Rat),(c:Rat))) M:=by
 have hG:aL Tryz.prog 139=some Tryz.f139:=by kernel_rfl
 refine aq JE (lv:=fun _=>[]) (K:=1) rfl rfl ?_ M;simp[aa,hG,Tryz.f139,af,CL,ha,hb,hc,vA,bO,aH]
open Classical in
noncomputable def fF(f:FuncId) (args:List AV):Option AV:=
 match f,args with
 |138,[.int .i64 n]=>if de n then some (.str (ah (n:Rat))) else none
 |139,[.int .i64 a,.int .i64 b,.int .i64 c]=>if de a∧de b∧de c then some (vA ((a:Rat),(b:Rat),(c:Rat))) else none
 |140,[.agg [.str a,.str b,.str c],.agg [.str d,.str e,.str g]]=>match v3P a b c,v3P d e g with
  |some u,some v=>if crsOk u v then some (vA (Qf u v)) else none
  |_,_=>none
 |f,args=>aX f args
theorem yl:OracleOk Tryz.prog (af fF):=bq fun f args v h mem=>by
 unfold fF at h;split at h
 ·split at h
  ·rename_i hc;cases h;exact xP _ hc mem
  ·cases h
 ·split at h
  ·rename_i hc;cases h;exact NK _ _ _ hc.1 hc.2.1 hc.2.2 mem
  ·cases h
 ·split at h
  ·rename_i u v hu hv
   split at h
   ·rename_i hc
    cases h;obtain⟨rfl,rfl,rfl⟩:=dZ hu;obtain⟨rfl,rfl,rfl⟩:=dZ hv;exact D1 u v hc mem
   ·cases h
  ·cases h
 ·have:=cM.fn _ _ mem ⟨v,none,[]⟩ (by unfold af;simp only;rw[h])
  simpa [CallRes.mem] using this
def AG(W:Rat) (U v:V3):V3:=iM (iT (iT (iM v (W*W-ei U U)) (iM U (2*ei U v))) (iM (Qf U v) (2*W))) (1 / (W*W+ei U U))
structure TurnOk (W:Rat) (U v:V3):Prop where
 w:fine W
 uu:dotOk U U
 ww:fine (W*W)
 sq:fine (ei U U)
 s1:Dw v (W*W-ei U U)
 uv:dotOk U v
 f2:fine (ei U v)
 s2:Dw U (2*ei U v)
 c:crsOk U v
 s3:Dw (Qf U v) (2*W)
 n0:W*W+ei U U≠0
 n1:fine (W*W+ei U U)
 a1:vF (iM v (W*W-ei U U))∧vF (iM U (2*ei U v))
 a2:vF (iT (iM v (W*W-ei U U)) (iM U (2*ei U v)))∧vF (iM (Qf U v) (2*W))
 s4:Dw (iT (iT (iM v (W*W-ei U U)) (iM U (2*ei U v))) (iM (Qf U v) (2*W))) (1 / (W*W+ei U U))
def jP(a:Int) (ar:Bool):Rat:=if ar then -(a:Rat) else (a:Rat)
def lR(b c d:Int):V3:=((b:Rat),(c:Rat),(d:Rat))
set_option maxRecDepth 8192 in
set_option maxHeartbeats 6400000 in
theorem IF(a b c d:Int) (ar:Bool) (v:V3) (ha:de a=true) (hb:de b=true) (hc:de c=true) (hd:de d=true) (h:TurnOk (jP a ar) (lR b c d) v) (M:Mem):
  ACallsTo Tryz.prog 92 [.agg [.int .i64 a,.int .i64 b,.int .i64 c,.int .i64 d],vA v,.bool ar] M (vA (AG (jP a ar) (lR b c d) v)) M:=by
 have hG:aL Tryz.prog 92=some Tryz.f92:=by kernel_rfl
 refine aq yl (lv:=fun _=>[]) (K:=1) rfl rfl ?_ M;obtain⟨⟨w1,w2⟩,uu,⟨p1,p2⟩,⟨q1,q2⟩,s1,uv,⟨f1,f2⟩,s2,cu,s3,n0,⟨n1,n2⟩,⟨a1,a2⟩,⟨a3,a4⟩,s4⟩:=h;have wl:=iy (q:=jP a ar) ⟨w1,w2⟩;unfold AG;have two1:cV [50]=some 2:=rfl;have one1:cV [49]=some 1:=rfl;have e2:(aJ (2:Rat).num.natAbs).length≤9∧(aJ (2:Rat).den).length≤9:=by decide
 have e1:(aJ (1:Rat).num.natAbs).length≤9∧(aJ (1:Rat).den).length≤9:=by decide
 obtain⟨⟨e3,e4⟩,e5,e6⟩:=And.intro e2 e1;obtain⟨two,h2⟩:∃x:Rat,x=2:=⟨_,rfl⟩
 obtain⟨one,h1⟩:∃x:Rat,x=1:=⟨_,rfl⟩
 rw[←h2] at two1 e3 e4 s2 s3 a2 a3 a4 s4 ⊢;rw[←h1] at one1 e5 e6 s4 ⊢;obtain⟨U,hU⟩:∃U,U=lR b c d:=⟨_,rfl⟩
 obtain⟨W,hW⟩:∃W,W=jP a ar:=⟨_,rfl⟩
 rw[←hU] at uu q1 q2 s1 uv f1 f2 s2 cu s3 n0 n1 n2 a1 a2 a3 a4 s4 ⊢;rw[←hW] at w1 w2 wl p1 p2 s1 s3 n0 n1 n2 a1 a3 a4 s4 ⊢;obtain⟨ww,hww⟩:∃x,x=W*W:=⟨_,rfl⟩
 obtain⟨sq,hsq⟩:∃x,x=ei U U:=⟨_,rfl⟩
 obtain⟨uw,huw⟩:∃x,x=ei U v:=⟨_,rfl⟩
 rw[←hww] at p1 p2 s1 n0 n1 n2 a1 a3 s4 ⊢;rw[←hsq] at q1 q2 s1 n0 n1 n2 a1 a3 s4 ⊢;rw[←huw] at f1 f2 s2 a2 a3 s4 ⊢;obtain⟨k1,hk1⟩:∃x,x=ww-sq:=⟨_,rfl⟩
 obtain⟨k2,hk2⟩:∃x,x=two*uw:=⟨_,rfl⟩
 obtain⟨k3,hk3⟩:∃x,x=two*W:=⟨_,rfl⟩
 obtain⟨k4,hk4⟩:∃x,x=ww+sq:=⟨_,rfl⟩
 rw[←hk1] at s1 a1 a3 s4 ⊢;rw[←hk2] at s2 a2 a3 s4 ⊢;rw[←hk3] at s3 a4 s4 ⊢;rw[←hk4] at n0 n1 n2 s4 ⊢;obtain⟨k5,hk5⟩:∃x,x=one / k4:=⟨_,rfl⟩
 obtain⟨c1,hc1⟩:∃x,x=Qf U v:=⟨_,rfl⟩
 rw[←hc1] at s3 a4 s4 ⊢;rw[←hk5] at s4 ⊢;obtain⟨v1,hv1⟩:∃x,x=iM v k1:=⟨_,rfl⟩
 obtain⟨v2,hv2⟩:∃x,x=iM U k2:=⟨_,rfl⟩
 obtain⟨v3,hv3⟩:∃x,x=iM c1 k3:=⟨_,rfl⟩
 rw[←hv1] at a1 a3 s4 ⊢;rw[←hv2] at a2 a3 s4 ⊢;rw[←hv3] at a4 s4 ⊢;obtain⟨v4,hv4⟩:∃x,x=iT v1 v2:=⟨_,rfl⟩
 rw[←hv4] at a3 s4 ⊢;obtain⟨v5,hv5⟩:∃x,x=iT v4 v3:=⟨_,rfl⟩
 rw[←hv5] at s4 ⊢;obtain⟨os,hops⟩:∃os,aE Tryz.f92=os:=⟨_,rfl⟩
 have hbs:=br hops (ls:=[[0,1,3,0,8,0,32,0,128,511,0,2047,4095],[0,0,0,6,0,30,63,0,255],[0,0,0,6,14,31,0,127],[0,0,3,0,15,0,63,127]]) (by kernel_rfl);simp only[aE,bC,Tryz.f92,List.nil_append,List.append_nil,List.cons_append] at hops;subst hops;simp only[List.map_cons,List.map_nil,List.cons.injEq,and_true] at hbs;obtain⟨hb0,hb1,hb2,hb3⟩:=hbs;have j3:aN [0,0,3,0,15,0,63,127] 7=true:=by decide
 unfold lR at hU;unfold jP at hW;clear h2 h1;cases ar with
 |false=>
  rw[if_neg (by decide)] at hW;simp[aa,hG,Tryz.f92,af,fF,aX,aA,aC,ha,hb,hc,hd,vA,nr,ay,←hU,←hW,w1,w2,uu,p1,p2,q1,q2,s1,uv,f1,f2,s2,cu,s3,n0,n1,n2,a1,a2,a3,a4,s4,two1,one1,e3,e4,e5,e6,←hww,←hsq,←huw,←hk1,←hk2,←hk3,←hk4,←hk5,←hc1,←hv1,←hv2,←hv3,←hv4,←hv5,-aD,bD hb0,bD hb1,bD hb2,dy,gr,gf,dx,cj,kQ,bef,mF,ai hb3,bc,aW,a8,j3,Nat.testBit]
 |true=>
  rw[if_pos rfl] at hW;have la:(ah (a:Rat)).length≤1000000000:=by have x1:=w1;have x2:=w2;rw[hW,Rat.neg_num,Int.natAbs_neg] at x1;rw[hW] at x2;exact iy ⟨x1,x2⟩
  simp[la,aa,hG,Tryz.f92,af,fF,aX,aA,aC,bQ,be,ha,hb,hc,hd,vA,nr,ay,←hU,←hW,w1,w2,uu,p1,p2,q1,q2,s1,uv,f1,f2,s2,cu,s3,n0,n1,n2,a1,a2,a3,a4,s4,two1,one1,e3,e4,e5,e6,←hww,←hsq,←huw,←hk1,←hk2,←hk3,←hk4,←hk5,←hc1,←hv1,←hv2,←hv3,←hv4,←hv5,-aD,bD hb0,bD hb1,bD hb2,dy,gr,gf,dx,cj,kQ,bef,mF,ai hb3,bc,aW,a8,j3,Nat.testBit]
end Go.Proofs
