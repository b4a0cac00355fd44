/- See I36. -/
import Derived.Test.YtgafjliihahjgaaGreatDoorI17
set_option linter.all false
set_option maxRecDepth 100000
set_option maxHeartbeats 40000000
namespace Go.Eng
def Sm(D V:Nat)(q:Rat):Prop:=0<D/\(∃n:Int,q*(D:Rat)=(n:Rat))/\ -(V:Rat)<=q/\q<=(V:Rat)
theorem oh(a b:Nat):((a*b:Nat):Rat)=(a:Rat)*(b:Rat):=by have:((a*b:Nat):Rat)=(((a*b:Nat):Int):Rat):=(Rat.intCast_natCast _).symm;rw[this,Int.natCast_mul,Rat.intCast_mul,Rat.intCast_natCast,Rat.intCast_natCast]
theorem Ye(a b:Nat):((a+b:Nat):Rat)=(a:Rat)+(b:Rat):=by have:((a+b:Nat):Rat)=(((a+b:Nat):Int):Rat):=(Rat.intCast_natCast _).symm;rw[this,Int.natCast_add,Rat.intCast_add,Rat.intCast_natCast,Rat.intCast_natCast]
variable{a b:Nat}
theorem Y7(h:a<=b):(a:Rat)<=(b:Rat):=by exact_mod_cast h
theorem Uo(a:Nat):(0:Rat)<=(a:Rat):=by exact_mod_cast Nat.zero_le a
variable{D V W:Nat}{q:Rat}
theorem Sm.mono(h:Sm D V q)(y:V<=W):Sm D W q:=by obtain⟨Z,X,S,h3⟩:=h;have:=Y7 y;exact⟨Z,X,by grind,by grind⟩
theorem Sm.up(h:Sm D V q)(k:Nat)(hk:0<k):Sm (D*k) V q:=by obtain⟨Z,⟨n,X⟩,S,h3⟩:=h;refine⟨Nat.mul_pos Z hk,⟨n*k,?_⟩,S,h3⟩;rw[oh,<-Rat.mul_assoc,X,Rat.intCast_mul,Rat.intCast_natCast]
variable{E:Nat}
theorem Sm.to(h:Sm D V q)(y:D∣E)(H:0<E)(I:V<=W):Sm E W q:=by obtain⟨k,rfl⟩:=y;exact(h.up k (Nat.pos_of_mul_pos_left H)).mono I
theorem Sm.int{n:Int}(h:n.natAbs<=V):Sm 1 V (n:Rat):=by
 refine⟨by omega,⟨n,by rw[show((1:Nat):Rat)=1 from rfl,Rat.mul_one]⟩,?_,?_⟩
 .have:(-(V:Int):Int)<=n:=by omega
  have:=Rat.intCast_le_intCast.2 this;rw[Rat.intCast_neg,Rat.intCast_natCast] at this;exact this
 .have:n<=(V:Int):=by omega
  have:=Rat.intCast_le_intCast.2 this;rw[Rat.intCast_natCast] at this;exact this
variable{p:Rat}
theorem Sm.add(h:Sm D V p)(k:Sm D W q):Sm D (V+W) (p+q):=by obtain⟨Z,⟨n,X⟩,O,h3⟩:=h;obtain⟨_,⟨m,S⟩,M,K⟩:=k;refine⟨Z,⟨n+m,by rw[Rat.add_mul,X,S,Rat.intCast_add]⟩,?_,?_⟩<;>rw[Ye]<;>grind
theorem Sm.neg(h:Sm D V p):Sm D V (-p):=by obtain⟨Z,⟨n,X⟩,S,h3⟩:=h;exact⟨Z,⟨-n,by rw[Rat.neg_mul,X,Rat.intCast_neg]⟩,by grind,by grind⟩
theorem Sm.sub(h:Sm D V p)(k:Sm D W q):Sm D (V+W) (p-q):=by rw[Rat.sub_eq_add_neg];exact h.add k.neg
theorem Xg{v w:Rat}(h2: -v<=p)(h3:p<=v)(y: -w<=q)(H:q<=w): -(v*w)<=p*q/\p*q<=v*w:=by have Z:=Rat.mul_nonneg (show 0<=v-p by grind) (show 0<=w+q by grind);have X:=Rat.mul_nonneg (show 0<=v+p by grind) (show 0<=w-q by grind);have S:=Rat.mul_nonneg (show 0<=v+p by grind) (show 0<=w+q by grind);have O:=Rat.mul_nonneg (show 0<=v-p by grind) (show 0<=w-q by grind);constructor<;>grind
theorem Sm.mul(h:Sm D V p)(k:Sm E W q):Sm (D*E) (V*W) (p*q):=by
 obtain⟨Z,⟨n,X⟩,S,h3⟩:=h;obtain⟨O,⟨m,M⟩,K,J⟩:=k;have:=Xg S h3 K J;refine⟨Nat.mul_pos Z O,⟨n*m,?_⟩,?_,?_⟩
 .rw[oh,Rat.intCast_mul,<-X,<-M];grind
 .rw[oh];exact this.1
 .rw[oh];exact this.2
theorem Sm.dg(h:Sm D V q)(h1:D*V<10 ^ a)(h2:D<10 ^ b):dg a b q:=by
 obtain⟨M,⟨n,h3⟩,K,J⟩:=h;have O:(D:Rat)≠0:=fun e=>by rw[Rat.natCast_eq_zero_iff] at e;omega
 have e:q=mkRat n D:=by rw[Rat.mkRat_eq_div,<-h3];exact(Rat.mul_div_cancel O).symm
 rw[e];refine tQ (by omega) ?_ h2;have Z:=Uo D;have G:=Rat.mul_nonneg (show 0<=(V:Rat)-q by grind) Z;have F:=Rat.mul_nonneg (show 0<=(V:Rat)+q by grind) Z;have X:(n:Rat)<=(((V*D:Nat):Int):Rat):=by rw[Rat.intCast_natCast,oh,<-h3];grind
 have S:((-((V*D:Nat):Int):Int):Rat)<=(n:Rat):=by rw[Rat.intCast_neg,Rat.intCast_natCast,oh,<-h3];grind
 have X:=Rat.intCast_le_intCast.1 X;have S:=Rat.intCast_le_intCast.1 S;have c:V*D=D*V:=V1 _ _;omega
theorem Sm.lens(h:Sm D V q)(h1:D*V<10 ^ 190)(h2:D<10 ^ 190):(az q.num.natAbs).length<=190/\(az q.den).length<=190:=(h.dg h1 h2).lens (by omega) (by omega)
theorem Sm.inv{N:Nat}(h:0<N):Sm N 1 ((1:Rat) / (N:Rat)):=by
 have Z:(N:Rat)≠0:=fun e=>by rw[Rat.natCast_eq_zero_iff] at e;omega
 have X:(1:Rat) / (N:Rat)*(N:Rat)=1:=QXK Z;have O:(0:Rat)<(N:Rat):=by exact_mod_cast h
 have M:(1:Rat)<=(N:Rat):=by exact_mod_cast h
 have S:(0:Rat)<=1 / (N:Rat):=by
  rcases (Rat.le_total:(0:Rat)<=1 / (N:Rat)\/1 / (N:Rat)<=0) with h | h
  .exact h
  .have:=Rat.mul_nonneg (show(0:Rat)<= -(1 / (N:Rat)) by grind) (Uo N)
   grind
 refine⟨h,⟨1,by rw[X];rfl⟩,by rw[show((1:Nat):Rat)=1 from rfl];grind,?_⟩;rw[show((1:Nat):Rat)=1 from rfl];have:=Rat.mul_nonneg S (show 0<=(N:Rat)-1 by grind)
 grind
end Go.Eng
namespace Go.Proofs
open Go.Eng
def wI(a b:V3):V3:=(a.1+b.1,a.2.1+b.2.1,a.2.2+b.2.2)
def ng(a:V3)(k:Rat):V3:=(a.1*k,a.2.1*k,a.2.2*k)
def V0(a b:V3):V3:=(a.2.1*b.2.2-a.2.2*b.2.1,a.2.2*b.1-a.1*b.2.2,a.1*b.2.1-a.2.1*b.1)
def vF(a:V3):Prop:=aga a.1/\aga a.2.1/\aga a.2.2
def agw(a b:V3):Prop:=vF a/\vF b/\Ii [a.1*b.1,a.2.1*b.2.1,a.2.2*b.2.2] 0
def ahp(a b:V3):Prop:=(vF a/\vF b)/\(aga (a.2.1*b.2.2)/\aga (a.2.2*b.2.1))/\(aga (a.2.2*b.1)/\aga (a.1*b.2.2))/\aga (a.1*b.2.1)/\aga (a.2.1*b.1)
def Ie(a:V3)(k:Rat):Prop:=vF a/\aga k
def vC(v:V3):Prop:=uz [aB v.1,aB v.2.1,aB v.2.2]=0/\(aB v.1).length<=1000000000/\(aB v.2.1).length<=1000000000/\(aB v.2.2).length<=1000000000
def vSm(D V:Nat)(a:V3):Prop:=Sm D V a.1/\Sm D V a.2.1/\Sm D V a.2.2
end Go.Proofs
namespace Go.Eng
theorem Sm.aga{D V:Nat}{q:Rat}(h:Sm D V q)(h1:D*V<10 ^ 190:=by omega)(h2:D<10 ^ 190:=by omega):Go.Proofs.aga q:=by have:=h.lens h1 h2;exact⟨by omega,by omega⟩
end Go.Eng
namespace Go.Proofs
open Go.Eng
theorem UH:aga 0:=⟨by decide,by decide⟩
section
variable {D V E W:Nat}{a b:V3}{r:Rat}
section
variable (h:vSm D V a)
include h
theorem vSm.mono(y:V<=W):vSm D W a:=⟨h.1.mono y,h.2.1.mono y,h.2.2.mono y⟩
theorem vSm.to(y:D∣E)(H:0<E)(I:V<=W):vSm E W a:=⟨h.1.to y H I,h.2.1.to y H I,h.2.2.to y H I⟩
theorem vSm.vF(h1:D*V<10 ^ 190:=by omega)(h2:D<10 ^ 190:=by omega):vF a:=⟨h.1.aga h1 h2,h.2.1.aga h1 h2,h.2.2.aga h1 h2⟩
theorem vSm.add(k:vSm D W b):vSm D (V+W) (wI a b):=⟨h.1.add k.1,h.2.1.add k.2.1,h.2.2.add k.2.2⟩
theorem vSm.scl(g:Sm E W r):vSm (D*E) (V*W) (ng a r):=⟨h.1.mul g,h.2.1.mul g,h.2.2.mul g⟩
section
variable (k:vSm E W b)
include k
theorem vSm.dot:Sm (D*E) (V*W+V*W+V*W) (gm a b):=((h.1.mul k.1).add (h.2.1.mul k.2.1)).add (h.2.2.mul k.2.2)
theorem vSm.crs:vSm (D*E) (V*W+V*W) (V0 a b):=⟨(h.2.1.mul k.2.2).sub (h.2.2.mul k.2.1),(h.2.2.mul k.1).sub (h.1.mul k.2.2),(h.1.mul k.2.1).sub (h.2.1.mul k.1)⟩
section
variable (h1:D*V<10 ^ 190)(h2:D<10 ^ 190)(h3:E*W<10 ^ 190)(h4:E<10 ^ 190)
include h1 h2 h3 h4
theorem vSm.agw(h5:D*E*(V*W+V*W)<10 ^ 190)(h6:D*E<10 ^ 190):agw a b:=by
 have Z:=h.1.mul k.1;have X:=h.2.1.mul k.2.1;have S:=h.2.2.mul k.2.2;have l:D*E*(V*W)<10 ^ 190:=Nat.lt_of_le_of_lt (Nat.mul_le_mul_left _ (Nat.le_add_left _ _)) h5;have f1:=Z.aga l h6;refine⟨h.vF h1 h2,k.vF h3 h4,UH,f1,?_,X.aga l h6,?_,S.aga l h6,?_⟩
 .rw[Rat.zero_add];exact f1
 .rw[Rat.zero_add];exact(Z.add X).aga h5 h6
 .rw[Rat.zero_add]
  have O:D*E*(V*W+V*W+V*W)<10 ^ 191:=by
   have:D*E*(V*W+V*W+V*W)=D*E*(V*W+V*W)+D*E*(V*W):=by rw[Nat.mul_add]
   omega
  have:=(((Z.add X).add S).dg O h6).lens (by omega) (by omega);exact⟨by omega,by omega⟩
theorem vSm.ahp(h5:D*E*(V*W)<10 ^ 190)(h6:D*E<10 ^ 190):ahp a b:=
 ⟨⟨h.vF h1 h2,k.vF h3 h4⟩,⟨(h.2.1.mul k.2.2).aga h5 h6,(h.2.2.mul k.2.1).aga h5 h6⟩,⟨(h.2.2.mul k.1).aga h5 h6,(h.1.mul k.2.2).aga h5 h6⟩,(h.1.mul k.2.1).aga h5 h6,(h.2.1.mul k.1).aga h5 h6⟩
end
end
theorem vSm.vC(h1:D*V<10 ^ 190:=by omega)(h2:D<10 ^ 190:=by omega):vC a:=by
 have g:∀q,Sm D V q->xz (aB q)=0/\(aB q).length<=1000000000:=fun q hq=>by have d:=hq.dg h1 h2;exact⟨vR (d.mono (by omega) (by omega)),U9 d (by omega) (by omega)⟩
 obtain⟨Z,X⟩:=g _ h.1;obtain⟨S,O⟩:=g _ h.2.1;obtain⟨M,K⟩:=g _ h.2.2;exact⟨by simp[uz,Z,S,M],X,O,K⟩
end
end
def v3P(a b c:List UInt8):Option V3:=match eS a,eS b,eS c with
 |some x,some y,some z=>some (x,y,z)
 |_,_,_=>none
theorem yh(x y z:Rat):v3P (aB x) (aB y) (aB z)=some (x,y,z):=by simp only[v3P,aw]
theorem gp{a b c:List UInt8}{v:V3}(h:v3P a b c=some v):a=aB v.1/\b=aB v.2.1/\c=aB v.2.2:=by
 unfold v3P at h;split at h
 .rename_i x y z Z X W
  cases h;exact⟨aA Z,aA X,aA W⟩
 .cases h
end Go.Proofs
namespace Go.Proofs
open Go.Eng
open Tryz
theorem QT(a b:V3)(h:agw a b)(M:Mem):kO prog 86 [vA a,vA b] M (.str (aB (gm a b))) M:=by
 have Y:aS prog 86=some f86:=by kernel_rfl
 obtain⟨W,V,S⟩:=a;obtain⟨O,K,J⟩:=b;obtain⟨⟨⟨f1,f2⟩,⟨f3,f4⟩,f5,f6⟩,⟨⟨C,B⟩,⟨g3,A⟩,z,u⟩,G⟩:=h;simp only at f1 f2 f3 f4 f5 f6 C B g3 A z u G;have Z:Bx [W*O,V*K,S*J] 0=W*O+V*K+S*J:=by simp[Bx,Rat.zero_add]
 unfold gm;simp only;obtain⟨p,m⟩:=xE (W*O);obtain⟨q,hq⟩:=xE (V*K);obtain⟨r,j⟩:=xE (S*J);rw[<-m,<-hq,<-j] at G Z |-;refine aD gC ?_ M;obtain⟨X,F⟩:∃X,aN f86=[X]:=⟨_,rfl⟩
 have R:=jm F (l:=[0,1,0,4,15,0,32,0,128,511,0,1024,0,4096,16383,32767,65535,131071]) (by kernel_rfl);have D:OP [0,1,0,4,15,0,32,0,128,511,0,1024,0,4096,16383,32767,65535,131071] 18 15=true:=by decide
 simp[aN,cj,f86] at F;subst F;simp[aa,Y,f86,-aJ,mU R,nU,uM,CY,dm,D,vA,iD,po,qN,H6,aw,af,aq,aI,f1,f2,f3,f4,f5,f6,C,B,g3,A,z,u,<-m,<-hq,<-j,G,Z,Nat.testBit]
theorem QS(a b:V3)(h:agw a b)(M:Mem):kO prog 73 [vA a,vA b] M (.str (aB (gm a b))) M:=by
 have Y:aS prog 73=some f73:=by kernel_rfl
 obtain⟨W,V,S⟩:=a;obtain⟨O,K,J⟩:=b;obtain⟨⟨⟨f1,f2⟩,⟨f3,f4⟩,f5,f6⟩,⟨⟨C,B⟩,⟨g3,A⟩,z,u⟩,G⟩:=h;simp only at f1 f2 f3 f4 f5 f6 C B g3 A z u G;have Z:Bx [W*O,V*K,S*J] 0=W*O+V*K+S*J:=by simp[Bx,Rat.zero_add]
 unfold gm;simp only;obtain⟨p,m⟩:=xE (W*O);obtain⟨q,hq⟩:=xE (V*K);obtain⟨r,j⟩:=xE (S*J);rw[<-m,<-hq,<-j] at G Z |-;refine aD gC ?_ M;obtain⟨X,F⟩:∃X,aN f73=[X]:=⟨_,rfl⟩
 have R:=jm F (l:=[0,1,0,4,15,0,32,0,128,511,0,1024,0,4096,16383,32767,65535,131071]) (by kernel_rfl);have D:OP [0,1,0,4,15,0,32,0,128,511,0,1024,0,4096,16383,32767,65535,131071] 18 15=true:=by decide
 simp[aN,cj,f73] at F;subst F;simp[aa,Y,f73,-aJ,mU R,nU,uM,CY,dm,D,vA,iD,po,qN,H6,aw,af,aq,aI,f1,f2,f3,f4,f5,f6,C,B,g3,A,z,u,<-m,<-hq,<-j,G,Z,Nat.testBit]
theorem QU(a b:V3)(h:agw a b)(M:Mem):kO prog 246 [vA a,vA b] M (.str (aB (gm a b))) M:=by
 have Y:aS prog 246=some f246:=by kernel_rfl
 obtain⟨W,V,S⟩:=a;obtain⟨O,K,J⟩:=b;obtain⟨⟨⟨f1,f2⟩,⟨f3,f4⟩,f5,f6⟩,⟨⟨C,B⟩,⟨g3,A⟩,z,u⟩,G⟩:=h;simp only at f1 f2 f3 f4 f5 f6 C B g3 A z u G;have Z:Bx [W*O,V*K,S*J] 0=W*O+V*K+S*J:=by simp[Bx,Rat.zero_add]
 unfold gm;simp only;obtain⟨p,m⟩:=xE (W*O);obtain⟨q,hq⟩:=xE (V*K);obtain⟨r,j⟩:=xE (S*J);rw[<-m,<-hq,<-j] at G Z |-;refine aD gC ?_ M;obtain⟨X,F⟩:∃X,aN f246=[X]:=⟨_,rfl⟩
 have R:=jm F (l:=[0,1,0,4,15,0,32,0,128,511,0,1024,0,4096,16383,32767,65535,131071]) (by kernel_rfl);have D:OP [0,1,0,4,15,0,32,0,128,511,0,1024,0,4096,16383,32767,65535,131071] 18 15=true:=by decide
 simp[aN,cj,f246] at F;subst F;simp[aa,Y,f246,-aJ,mU R,nU,uM,CY,dm,D,vA,iD,po,qN,H6,aw,af,aq,aI,f1,f2,f3,f4,f5,f6,C,B,g3,A,z,u,<-m,<-hq,<-j,G,Z,Nat.testBit]
theorem QV(a b:V3)(h:agw a b)(M:Mem):kO prog 183 [vA a,vA b] M (.str (aB (gm a b))) M:=by
 have Y:aS prog 183=some f183:=by kernel_rfl
 obtain⟨W,V,S⟩:=a;obtain⟨O,K,J⟩:=b;obtain⟨⟨⟨f1,f2⟩,⟨f3,f4⟩,f5,f6⟩,⟨⟨C,B⟩,⟨g3,A⟩,z,u⟩,G⟩:=h;simp only at f1 f2 f3 f4 f5 f6 C B g3 A z u G;have Z:Bx [W*O,V*K,S*J] 0=W*O+V*K+S*J:=by simp[Bx,Rat.zero_add]
 unfold gm;simp only;obtain⟨p,m⟩:=xE (W*O);obtain⟨q,hq⟩:=xE (V*K);obtain⟨r,j⟩:=xE (S*J);rw[<-m,<-hq,<-j] at G Z |-;refine aD gC ?_ M;obtain⟨X,F⟩:∃X,aN f183=[X]:=⟨_,rfl⟩
 have R:=jm F (l:=[0,1,0,4,15,0,32,0,128,511,0,1024,0,4096,16383,32767,65535,131071]) (by kernel_rfl);have D:OP [0,1,0,4,15,0,32,0,128,511,0,1024,0,4096,16383,32767,65535,131071] 18 15=true:=by decide
 simp[aN,cj,f183] at F;subst F;simp[aa,Y,f183,-aJ,mU R,nU,uM,CY,dm,D,vA,iD,po,qN,H6,aw,af,aq,aI,f1,f2,f3,f4,f5,f6,C,B,g3,A,z,u,<-m,<-hq,<-j,G,Z,Nat.testBit]
theorem Q2(a b:V3)(y:vF a)(H:vF b)(M:Mem):kO prog 90 [vA a,vA b] M (vA (wI a b)) M:=by
 have G:aS prog 90=some f90:=by kernel_rfl
 obtain⟨D,C,B⟩:=a;obtain⟨A,z,u⟩:=b;obtain⟨⟨f1,f2⟩,⟨f3,f4⟩,f5,f6⟩:=y;obtain⟨⟨W,V⟩,⟨g3,S⟩,O,K⟩:=H;simp only at f1 f2 f3 f4 f5 f6 W V g3 S O K;refine aD cw ?_ M;obtain⟨J,Z⟩:∃J,aN f90=[J]:=⟨_,rfl⟩
 obtain⟨X,F⟩:=jO Z (l:=[0,1,0,4,15,0,32,0,128,511,0,1024,0,4096,16383,32767,65535]) (j:=16) (by kernel_rfl) (by decide);simp[aN,cj,f90] at Z;subst Z;simp[aa,G,f90,-aJ,ak X,bt,bj,bp,F,vA,bZ,aF,aw,af,aq,aI,wI,f1,f2,f3,f4,f5,f6,W,V,g3,S,O,K,Nat.testBit]
theorem IJ(a:V3)(k:Rat)(h:Ie a k)(M:Mem):kO prog 91 [vA a,.str (aB k)] M (vA (ng a k)) M:=by
 have O:aS prog 91=some f91:=by kernel_rfl
 obtain⟨J,G,F⟩:=a;obtain⟨⟨⟨f1,f2⟩,⟨f3,f4⟩,f5,f6⟩,W,V⟩:=h;simp only at f1 f2 f3 f4 f5 f6 W V;refine aD cw ?_ M;obtain⟨S,Z⟩:∃S,aN f91=[S]:=⟨_,rfl⟩
 obtain⟨X,K⟩:=jO Z (l:=[0,1,0,7,0,16,0,127,0,256,0,2047,4095,8191]) (j:=13) (by kernel_rfl) (by decide);simp[aN,cj,f91] at Z;subst Z;simp[aa,O,f91,-aJ,ak X,bt,bj,bp,K,vA,bZ,aF,aw,af,aq,aI,ng,f1,f2,f3,f4,f5,f6,W,V,Nat.testBit]
theorem IH(p q r s:Rat)(H:aga p)(hq:aga q)(hr:aga r)(hs:aga s)(h1:aga (p*s))(h2:aga (q*r))(M:Mem):kO prog 215 [.str (aB p),.str (aB q),.str (aB r),.str (aB s)] M (.str (aB (p*s-q*r))) M:=by
 have S:aS prog 215=some f215:=by kernel_rfl
 obtain⟨O,K⟩:=H;obtain⟨J,G⟩:=hq;obtain⟨F,D⟩:=hr;obtain⟨d1,d2⟩:=hs;obtain⟨Z,X⟩:=h1;obtain⟨f1,f2⟩:=h2;obtain⟨x,W⟩:=xE (p*s);obtain⟨y,V⟩:=xE (q*r);rw[<-W] at Z X |-;rw[<-V] at f1 f2 |-;refine aD cw ?_ M;simp[aa,S,f215,aw,af,aq,aI,O,K,J,G,F,D,d1,d2,Z,X,f1,f2,<-W,<-V]
def Qt(p v:V3)(k:Rat):Prop:=(vF p/\vF v/\aga k)/\aga (k*v.1)/\aga (k*v.2.1)/\aga (k*v.2.2)
theorem XH(p v:V3)(k:Rat):wI p (ng v k)=(p.1+k*v.1,p.2.1+k*v.2.1,p.2.2+k*v.2.2):=by unfold wI ng;simp only[Rat.mul_comm]
theorem NA(p v:V3)(k:Rat)(h:Qt p v k)(M:Mem):kO prog 71 [vA p,vA v,.str (aB k)] M (vA (wI p (ng v k))) M:=by
 have R:aS prog 71=some f71:=by kernel_rfl
 rw[XH];obtain⟨a1,a2,a3⟩:=p;obtain⟨Q,I,H⟩:=v;obtain⟨⟨⟨⟨f1,f2⟩,⟨f3,f4⟩,f5,f6⟩,⟨⟨G,F⟩,⟨g3,D⟩,C,B⟩,k1,k2⟩,⟨Z,X⟩,⟨W,V⟩,S,O⟩:=h;simp only at f1 f2 f3 f4 f5 f6 G F g3 D C B Z X W V S O |-;obtain⟨x,A⟩:=xE (k*Q);obtain⟨y,u⟩:=xE (k*I);obtain⟨z,m⟩:=xE (k*H);rw[<-A] at Z X |-;rw[<-u] at W V |-;rw[<-m] at S O |-;refine aD cw ?_ M;obtain⟨Y,K⟩:∃Y,aN f71=[Y]:=⟨_,rfl⟩
 obtain⟨J,j1⟩:=jO K (l:=[0,1,0,0,8,28,63,0,128,0,0,1024,3711,8191,0,16384,0,0,131072,475135,1048575,2097151,4194303]) (j:=22) (by kernel_rfl) (by decide);simp[aN,cj,f71] at K;subst K;simp[aa,R,f71,-aJ,ak J,bt,bj,bp,j1,vA,bZ,aF,aw,af,aq,aI,f1,f2,f3,f4,f5,f6,G,F,g3,D,C,B,k1,k2,Z,X,W,V,S,O,<-A,<-u,<-m,Nat.testBit]
open Classical in
noncomputable def dG(f:FuncId)(args:List AV):Option AV:=
 match f,args with
 |86,[.agg [.str a,.str b,.str c],.agg [.str d,.str e,.str g]]=>match v3P a b c,v3P d e g with
  |some u,some v=>if agw u v then some (.str (aB (gm u v))) else none
  |_,_=>none
 |73,[.agg [.str a,.str b,.str c],.agg [.str d,.str e,.str g]]=>match v3P a b c,v3P d e g with
  |some u,some v=>if agw u v then some (.str (aB (gm u v))) else none
  |_,_=>none
 |246,[.agg [.str a,.str b,.str c],.agg [.str d,.str e,.str g]]=>match v3P a b c,v3P d e g with
  |some u,some v=>if agw u v then some (.str (aB (gm u v))) else none
  |_,_=>none
 |183,[.agg [.str a,.str b,.str c],.agg [.str d,.str e,.str g]]=>match v3P a b c,v3P d e g with
  |some u,some v=>if agw u v then some (.str (aB (gm u v))) else none
  |_,_=>none
 |90,[.agg [.str a,.str b,.str c],.agg [.str d,.str e,.str g]]=>match v3P a b c,v3P d e g with
  |some u,some v=>if vF u/\vF v then some (vA (wI u v)) else none
  |_,_=>none
 |91,[.agg [.str a,.str b,.str c],.str k]=>match v3P a b c,eS k with
  |some u,some x=>if Ie u x then some (vA (ng u x)) else none
  |_,_=>none
 |71,[.agg [.str a,.str b,.str c],.agg [.str d,.str e,.str g],.str k]=>match v3P a b c,v3P d e g,eS k with
  |some u,some v,some x=>if Qt u v x then some (vA (wI u (ng v x))) else none
  |_,_,_=>none
 |215,[.str a,.str b,.str c,.str d]=>match eS a,eS b,eS c,eS d with
  |some p,some q,some r,some s=>if (aga p/\aga q/\aga r/\aga s)/\aga (p*s)/\aga (q*r) then some (.str (aB (p*s-q*r))) else none
  |_,_,_,_=>none
 |14,[.agg [.str a,.str b,.str c]]=>if a.length<=1000000000/\b.length<=1000000000/\c.length<=1000000000 then some (.int .i64 (uz [a,b,c])) else none
 |f,args=>aq f args
theorem vN:adM prog (af dG):=bX fun f W v h mem=>by
 unfold dG at h;split at h
 .split at h
  .rename_i u v hu Z
   split at h
   .rename_i hc
    cases h;obtain⟨rfl,rfl,rfl⟩:=gp hu;obtain⟨rfl,rfl,rfl⟩:=gp Z;exact QT u v hc mem
   .cases h
  .cases h
 .split at h
  .rename_i u v hu Z
   split at h
   .rename_i hc
    cases h;obtain⟨rfl,rfl,rfl⟩:=gp hu;obtain⟨rfl,rfl,rfl⟩:=gp Z;exact QS u v hc mem
   .cases h
  .cases h
 .split at h
  .rename_i u v hu Z
   split at h
   .rename_i hc
    cases h;obtain⟨rfl,rfl,rfl⟩:=gp hu;obtain⟨rfl,rfl,rfl⟩:=gp Z;exact QU u v hc mem
   .cases h
  .cases h
 .split at h
  .rename_i u v hu Z
   split at h
   .rename_i hc
    cases h;obtain⟨rfl,rfl,rfl⟩:=gp hu;obtain⟨rfl,rfl,rfl⟩:=gp Z;exact QV u v hc mem
   .cases h
  .cases h
 .split at h
  .rename_i u v hu Z
   split at h
   .rename_i hc
    cases h;obtain⟨rfl,rfl,rfl⟩:=gp hu;obtain⟨rfl,rfl,rfl⟩:=gp Z;exact Q2 u v hc.1 hc.2 mem
   .cases h
  .cases h
 .split at h
  .rename_i u x hu X
   split at h
   .rename_i hc
    cases h;obtain⟨rfl,rfl,rfl⟩:=gp hu;rw[aA X];exact IJ u x hc mem
   .cases h
  .cases h
 .split at h
  .rename_i u v x hu Z X
   split at h
   .rename_i hc
    cases h;obtain⟨rfl,rfl,rfl⟩:=gp hu;obtain⟨rfl,rfl,rfl⟩:=gp Z;rw[aA X];exact NA u v x hc mem
   .cases h
  .cases h
 .split at h
  .rename_i p q r s V hq S O
   split at h
   .rename_i hc
    cases h;rw[aA V,aA hq,aA S,aA O];exact IH p q r s hc.1.1 hc.1.2.1 hc.1.2.2.1 hc.1.2.2.2 hc.2.1 hc.2.2 mem
   .cases h
  .cases h
 .split at h
  next hc=>cases h;exact jK _ _ _ hc.1 hc.2.1 hc.2.2 mem
  .cases h
 .have:=cw.fn _ _ mem ⟨v,none,[]⟩ (by unfold af;simp only;rw[h])
  simpa [afA.mem] using this
theorem IF(a b:V3)(h:ahp a b)(M:Mem):kO prog 140 [vA a,vA b] M (vA (V0 a b)) M:=by
 have C:aS prog 140=some f140:=by kernel_rfl
 obtain⟨A,z,u⟩:=a;obtain⟨m,Y,R⟩:=b;obtain⟨⟨⟨f1,f2,f3⟩,W,V,g3⟩,⟨S,O⟩,⟨K,J⟩,G,F⟩:=h;simp only at f1 f2 f3 W V g3 S O K J G F;refine aD vN ?_ M;obtain⟨D,Z⟩:∃D,aN f140=[D]:=⟨_,rfl⟩
 obtain⟨X,B⟩:=jO Z (l:=[0,0,2,0,8,0,32,0,128,511,0,0,2048,0,8192,0,32768,0,131072,524287,0,0,2097152,0,8388608,0,33554432,0,134217728,536870911,1073741823,2147483647]) (j:=31) (by kernel_rfl) (by decide);simp[aN,cj,f140] at Z;subst Z;simp[aa,C,f140,-aJ,ak X,bt,bj,bp,B,vA,V0,bZ,aF,aw,af,dG,f1,f2,f3,W,V,g3,S,O,K,J,G,F,Nat.testBit]
theorem VB(n:Int):aB (n:Rat)=cf n:=by unfold aB;rw[if_pos (by simp)];simp
noncomputable def Hl(f:FuncId)(args:List AV):Option AV:=
 match f,args with
 |98,[.int .i64 n]=>if dw n then some (.str (cf n)) else none
 |_,_=>none
theorem Ov:adM prog (af Hl):=bX fun f Z v h mem=>by
 unfold Hl at h;split at h
 .split at h
  next hc=>cases h;exact PL _ hc mem
  .cases h
 .cases h
theorem B5(n:Int)(y:dw n=true)(M:Mem):kO prog 138 [.int .i64 n] M (.str (aB (n:Rat))) M:=by
 have Z:aS prog 138=some f138:=by kernel_rfl
 rw[VB];refine aD Ov ?_ M;simp[aa,Z,f138,af,Hl,y]
noncomputable def Hx(f:FuncId)(args:List AV):Option AV:=
 match f,args with
 |138,[.int .i64 n]=>if dw n then some (.str (aB (n:Rat))) else none
 |_,_=>none
theorem OJ:adM prog (af Hx):=bX fun f Z v h mem=>by
 unfold Hx at h;split at h
 .split at h
  next hc=>cases h;exact B5 _ hc mem
  .cases h
 .cases h
theorem TC(a b c:Int)(y:dw a=true)(H:dw b=true)(hc:dw c=true)(M:Mem):kO prog 139 [.int .i64 a,.int .i64 b,.int .i64 c] M (vA ((a:Rat),(b:Rat),(c:Rat))) M:=by
 have Z:aS prog 139=some f139:=by kernel_rfl
 refine aD OJ ?_ M;simp[aa,Z,f139,af,Hx,y,H,hc,vA,bZ,aF]
open Classical in
noncomputable def eJ(f:FuncId)(args:List AV):Option AV:=
 match f,args with
 |138,[.int .i64 n]=>if dw n then some (.str (aB (n:Rat))) else none
 |139,[.int .i64 a,.int .i64 b,.int .i64 c]=>if dw a/\dw b/\dw c then some (vA ((a:Rat),(b:Rat),(c:Rat))) else none
 |140,[.agg [.str a,.str b,.str c],.agg [.str d,.str e,.str g]]=>match v3P a b c,v3P d e g with
  |some u,some v=>if ahp u v then some (vA (V0 u v)) else none
  |_,_=>none
 |f,args=>dG f args
theorem Cx:adM prog (af eJ):=bX fun f Z v h mem=>by
 unfold eJ at h;split at h
 .split at h
  next hc=>cases h;exact B5 _ hc mem
  .cases h
 .split at h
  next hc=>cases h;exact TC _ _ _ hc.1 hc.2.1 hc.2.2 mem
  .cases h
 .split at h
  .rename_i u v hu X
   split at h
   .rename_i hc
    cases h;obtain⟨rfl,rfl,rfl⟩:=gp hu;obtain⟨rfl,rfl,rfl⟩:=gp X;exact IF u v hc mem
   .cases h
  .cases h
 .have:=vN.fn _ _ mem ⟨v,none,[]⟩ (by unfold af;simp only;rw[h])
  simpa [afA.mem] using this
def Fc(W:Rat)(U v:V3):V3:=ng (wI (wI (ng v (W*W-gm U U)) (ng U (2*gm U v))) (ng (V0 U v) (2*W))) (1 / (W*W+gm U U))
structure ahn (W:Rat)(U v:V3):Prop where
 w:aga W
 uu:agw U U
 ww:aga (W*W)
 sq:aga (gm U U)
 s1:Ie v (W*W-gm U U)
 uv:agw U v
 f2:aga (gm U v)
 s2:Ie U (2*gm U v)
 c:ahp U v
 s3:Ie (V0 U v) (2*W)
 n0:W*W+gm U U≠0
 n1:aga (W*W+gm U U)
 a1:vF (ng v (W*W-gm U U))/\vF (ng U (2*gm U v))
 a2:vF (wI (ng v (W*W-gm U U)) (ng U (2*gm U v)))/\vF (ng (V0 U v) (2*W))
 s4:Ie (wI (wI (ng v (W*W-gm U U)) (ng U (2*gm U v))) (ng (V0 U v) (2*W))) (1 / (W*W+gm U U))
def nb(a:Int)(y:Bool):Rat:=if y then -(a:Rat) else (a:Rat)
def pr(b c d:Int):V3:=((b:Rat),(c:Rat),(d:Rat))
theorem NF(a b c d:Int)(y:Bool)(v:V3)(ha:dw a=true)(hb:dw b=true)(hc:dw c=true)(hd:dw d=true)(h:ahn (nb a y) (pr b c d) v)(M:Mem):
  kO prog 92 [.agg [.int .i64 a,.int .i64 b,.int .i64 c,.int .i64 d],vA v,.bool y] M (vA (Fc (nb a y) (pr b c d) v)) M:=by
 have hG:aS prog 92=some f92:=by kernel_rfl
 refine aD Cx ?_ M;obtain⟨⟨w1,w2⟩,uu,⟨p1,p2⟩,⟨q1,q2⟩,K,uv,⟨f1,f2⟩,s2,cu,J,G,⟨F,D⟩,⟨V,C⟩,⟨X,S⟩,Z⟩:=h;have wl:=jZ (q:=nb a y) ⟨w1,w2⟩;unfold Fc;have B:eS [50]=some 2:=rfl;have A:eS [49]=some 1:=rfl;have e2:(az (2:Rat).num.natAbs).length<=40000/\(az (2:Rat).den).length<=40000:=by decide
 have e1:(az (1:Rat).num.natAbs).length<=40000/\(az (1:Rat).den).length<=40000:=by decide
 obtain⟨⟨e3,e4⟩,e5,e6⟩:=And.intro e2 e1;obtain⟨two,h2⟩:=xE (α:=Rat) 2;obtain⟨one,h1⟩:=xE (α:=Rat) 1;rw[<-h2] at B e3 e4 s2 J C X S Z |-;rw[<-h1] at A e5 e6 Z |-;obtain⟨U,hU⟩:=xE (pr b c d);obtain⟨W,O⟩:=xE (nb a y);rw[<-hU] at uu q1 q2 K uv f1 f2 s2 cu J G F D V C X S Z |-;rw[<-O] at w1 w2 wl p1 p2 K J G F D V X S Z |-;obtain⟨ww,z⟩:=xE (W*W);obtain⟨sq,u⟩:=xE (gm U U);obtain⟨uw,m⟩:=xE (gm U v);rw[<-z] at p1 p2 K G F D V X Z |-;rw[<-u] at q1 q2 K G F D V X Z |-;rw[<-m] at f1 f2 s2 C X Z |-;obtain⟨k1,j⟩:=xE (ww-sq);obtain⟨k2,Y⟩:=xE (two*uw);obtain⟨k3,R⟩:=xE (two*W);obtain⟨k4,Q⟩:=xE (ww+sq);rw[<-j] at K V X Z |-;rw[<-Y] at s2 C X Z |-;rw[<-R] at J S Z |-;rw[<-Q] at G F D Z |-;obtain⟨k5,I⟩:=xE (one / k4);obtain⟨c1,H⟩:=xE (V0 U v);rw[<-H] at J S Z |-;rw[<-I] at Z |-;obtain⟨v1,hv1⟩:=xE (ng v k1);obtain⟨v2,hv2⟩:=xE (ng U k2);obtain⟨v3,hv3⟩:=xE (ng c1 k3);rw[<-hv1] at V X Z |-;rw[<-hv2] at C X Z |-;rw[<-hv3] at S Z |-;obtain⟨v4,hv4⟩:=xE (wI v1 v2);rw[<-hv4] at X Z |-;obtain⟨v5,hv5⟩:=xE (wI v4 v3);rw[<-hv5] at Z |-;obtain⟨os,A'⟩:∃os,aN f92=os:=⟨_,rfl⟩
 have PP:=bP A' (ls:=[[0,1,3,0,8,0,32,0,128,511,0,2047,4095],[0,0,0,6,0,30,63,0,255],[0,0,0,6,14,31,0,127],[0,0,3,0,15,0,63,127]]) (by kernel_rfl);simp only[aN,cj,f92,lA] at A';subst A';simp only[lB] at PP;obtain⟨hb0,hb1,hb2,hb3⟩:=PP;have j3:be [0,0,3,0,15,0,63,127] 7=true:=by decide
 unfold pr at hU;unfold nb at O;clear h2 h1;cases y with
 |false=>
  rw[if_neg (by decide)] at O;simp[aa,hG,f92,af,eJ,dG,aq,aI,ha,hb,hc,hd,vA,yh,aw,<-hU,<-O,w1,w2,uu,p1,p2,q1,q2,K,uv,f1,f2,s2,cu,J,G,F,D,V,C,X,S,Z,B,A,e3,e4,e5,e6,<-z,<-u,<-m,<-j,<-Y,<-R,<-Q,<-I,<-H,<-hv1,<-hv2,<-hv3,<-hv4,<-hv5,-aJ,bN hb0,bN hb1,bN hb2,fC,lO,jn,fA,dm,od,bef,qS,ak hb3,bt,bj,bp,j3,Nat.testBit]
 |true=>
  rw[if_pos rfl] at O;have la:(aB (a:Rat)).length<=1000000000:=by have x1:=w1;have x2:=w2;rw[O,Rat.neg_num,Int.natAbs_neg] at x1;rw[O] at x2;exact jZ ⟨x1,x2⟩
  simp[la,aa,hG,f92,af,eJ,dG,aq,aI,ba,aX,ha,hb,hc,hd,vA,yh,aw,<-hU,<-O,w1,w2,uu,p1,p2,q1,q2,K,uv,f1,f2,s2,cu,J,G,F,D,V,C,X,S,Z,B,A,e3,e4,e5,e6,<-z,<-u,<-m,<-j,<-Y,<-R,<-Q,<-I,<-H,<-hv1,<-hv2,<-hv3,<-hv4,<-hv5,-aJ,bN hb0,bN hb1,bN hb2,fC,lO,jn,fA,dm,od,bef,qS,ak hb3,bt,bj,bp,j3,Nat.testBit]
end Go.Proofs
