/- See B54. -/
import Derived.Test.YtffdedmakncfmaaGreatDoorB25
set_option linter.all false
set_option maxRecDepth 100000
set_option maxHeartbeats 40000000
namespace Go.Proofs
open Go.Eng
open Tryz
def mH(a b:V3):V3:=(a.1+b.1,a.2.1+b.2.1,a.2.2+b.2.2)
def wT(a:V3)(k:Rat):V3:=(a.1*k,a.2.1*k,a.2.2*k)
def vF(a:V3):Prop:=iK a.1∧iK a.2.1∧iK a.2.2
def wi(a b:V3):Prop:=vF a∧vF b∧LW [a.1*b.1,a.2.1*b.2.1,a.2.2*b.2.2] 0
def vC(v:V3):Prop:=yc [aB v.1,aB v.2.1,aB v.2.2]=0∧(aB v.1).length≤1000000000∧(aB v.2.1).length≤1000000000∧(aB v.2.2).length≤1000000000
theorem SA:iK 0:=⟨by decide,by decide⟩
variable{n:Nat}
theorem rp{q:Rat}(h:dg n n q)(h0:0<n)(h1:n≤40000):iK q:=cY h h0 h0 h1 h1
variable{v:V3}
theorem L4(h:vDg n v)(h0:0<n)(h1:n≤40000):vF v:=⟨rp h.1 h0 h1,rp h.2.1 h0 h1,rp h.2.2 h0 h1⟩
theorem wS(h:vDg 200 v):vC v:=⟨Ti h,lf h.1 (by decide) (by decide),lf h.2.1 (by decide) (by decide),lf h.2.2 (by decide) (by decide)⟩
theorem mj{a b:V3}(H:vDg n a)(I:vDg n b)(h0:0<n)(h1:n≤4000):wi a b:=by
 obtain⟨X,V,U⟩:=H;obtain⟨S,R,Q⟩:=I;have O:=il X S;have P2:=il V R;have N:=il U Q;have Z:dg 1 1 0:=⟨by decide,by decide⟩;have M:=nd Z O (m:=3*n+3) (by omega) (by omega);have L:=nd M P2 (m:=6*n+6) (by omega) (by omega);have K:=nd L N (m:=9*n+9) (by omega) (by omega);have f:∀{x y:Nat}{q:Rat},dg x y q→0<x→0<y→x≤40000→y≤40000→iK q:=fun h p q r s=>cY h p q r s
 exact⟨L4 ⟨X,V,U⟩ h0 (by omega),L4 ⟨S,R,Q⟩ h0 (by omega),SA,f O (by omega) (by omega) (by omega) (by omega),f M (by omega) (by omega) (by omega) (by omega),f P2 (by omega) (by omega) (by omega) (by omega),f L (by omega) (by omega) (by omega) (by omega),f N (by omega) (by omega) (by omega) (by omega),f K (by omega) (by omega) (by omega) (by omega)⟩
def v3P(a b c:List UInt8):Option V3:=match ef a,ef b,ef c with
 |some x,some y,some z=>some (x,y,z)
 |_,_,_=>none
theorem Da(x y z:Rat):v3P (aB x) (aB y) (aB z)=some (x,y,z):=by simp only[v3P,az]
theorem jh{a b c:List UInt8}(h:v3P a b c=some v):a=aB v.1∧b=aB v.2.1∧c=aB v.2.2:=by
 unfold v3P at h;split at h
 ·rename_i x y z Z X V
  cases h;exact⟨aC Z,aC X,aC V⟩
 ·cases h
section
variable (a b:V3)(h:wi a b)(M:Mem)
include a b h M
theorem Pv:kO prog 75 [vA a,vA b] M (.str (aB (gG a b))) M:=by
 have j:aT prog 75=some f75:=by kernel_rfl
 obtain⟨X,V,U⟩:=a;obtain⟨S,R,Q⟩:=b;obtain⟨⟨⟨f1,f2⟩,⟨f3,f4⟩,f5,f6⟩,⟨⟨K,G⟩,⟨g3,F⟩,D,C⟩,O⟩:=h;simp only at f1 f2 f3 f4 f5 f6 K G g3 F D C O;have B:Ej [X*S,V*R,U*Q] 0=X*S+V*R+U*Q:=by simp[Ej,Rat.zero_add]
 unfold gG;simp only;obtain⟨p,u⟩:=xE (X*S);obtain⟨q,o⟩:=xE (V*R);obtain⟨r,m⟩:=xE (U*Q);rw[←u,←o,←m] at O B ⊢;refine ao gy ?_ M;obtain⟨Z,N⟩:∃Z,aJ f75=[Z]:=⟨_,rfl⟩
 have Y:=nh N (l:=[0,1,0,4,15,0,32,0,128,511,0,1024,0,4096,16383,32767,65535,131071]) (by kernel_rfl);have L:QF [0,1,0,4,15,0,32,0,128,511,0,1024,0,4096,16383,32767,65535,131071] 18 15=true:=by decide
 simp[aJ,bU,f75] at N;subst N;simp[aa,j,f75,-aK,pz Y,pr,vW,Ev,dT,L,vA,ie,pY,se,LG,az,af,be,bd,f1,f2,f3,f4,f5,f6,K,G,g3,F,D,C,←u,←o,←m,O,B,Nat.testBit]
theorem Pw:kO prog 213 [vA a,vA b] M (.str (aB (gG a b))) M:=by
 have j:aT prog 213=some f213:=by kernel_rfl
 obtain⟨X,V,U⟩:=a;obtain⟨S,R,Q⟩:=b;obtain⟨⟨⟨f1,f2⟩,⟨f3,f4⟩,f5,f6⟩,⟨⟨K,G⟩,⟨g3,F⟩,D,C⟩,O⟩:=h;simp only at f1 f2 f3 f4 f5 f6 K G g3 F D C O;have B:Ej [X*S,V*R,U*Q] 0=X*S+V*R+U*Q:=by simp[Ej,Rat.zero_add]
 unfold gG;simp only;obtain⟨p,u⟩:=xE (X*S);obtain⟨q,o⟩:=xE (V*R);obtain⟨r,m⟩:=xE (U*Q);rw[←u,←o,←m] at O B ⊢;refine ao gy ?_ M;obtain⟨Z,N⟩:∃Z,aJ f213=[Z]:=⟨_,rfl⟩
 have Y:=nh N (l:=[0,1,0,4,15,0,32,0,128,511,0,1024,0,4096,16383,32767,65535,131071]) (by kernel_rfl);have L:QF [0,1,0,4,15,0,32,0,128,511,0,1024,0,4096,16383,32767,65535,131071] 18 15=true:=by decide
 simp[aJ,bU,f213] at N;subst N;simp[aa,j,f213,-aK,pz Y,pr,vW,Ev,dT,L,vA,ie,pY,se,LG,az,af,be,bd,f1,f2,f3,f4,f5,f6,K,G,g3,F,D,C,←u,←o,←m,O,B,Nat.testBit]
theorem Px:kO prog 103 [vA a,vA b] M (.str (aB (gG a b))) M:=by
 have j:aT prog 103=some f103:=by kernel_rfl
 obtain⟨X,V,U⟩:=a;obtain⟨S,R,Q⟩:=b;obtain⟨⟨⟨f1,f2⟩,⟨f3,f4⟩,f5,f6⟩,⟨⟨K,G⟩,⟨g3,F⟩,D,C⟩,O⟩:=h;simp only at f1 f2 f3 f4 f5 f6 K G g3 F D C O;have B:Ej [X*S,V*R,U*Q] 0=X*S+V*R+U*Q:=by simp[Ej,Rat.zero_add]
 unfold gG;simp only;obtain⟨p,u⟩:=xE (X*S);obtain⟨q,o⟩:=xE (V*R);obtain⟨r,m⟩:=xE (U*Q);rw[←u,←o,←m] at O B ⊢;refine ao gy ?_ M;obtain⟨Z,N⟩:∃Z,aJ f103=[Z]:=⟨_,rfl⟩
 have Y:=nh N (l:=[0,1,0,4,15,0,32,0,128,511,0,1024,0,4096,16383,32767,65535,131071]) (by kernel_rfl);have L:QF [0,1,0,4,15,0,32,0,128,511,0,1024,0,4096,16383,32767,65535,131071] 18 15=true:=by decide
 simp[aJ,bU,f103] at N;subst N;simp[aa,j,f103,-aK,pz Y,pr,vW,Ev,dT,L,vA,ie,pY,se,LG,az,af,be,bd,f1,f2,f3,f4,f5,f6,K,G,g3,F,D,C,←u,←o,←m,O,B,Nat.testBit]
end
def LB(p v:V3)(k:Rat):Prop:=(vF p∧vF v∧iK k)∧iK (k*v.1)∧iK (k*v.2.1)∧iK (k*v.2.2)
theorem VB(p v:V3)(k:Rat):mH p (wT v k)=(p.1+k*v.1,p.2.1+k*v.2.1,p.2.2+k*v.2.2):=by unfold mH wT;simp only[Rat.mul_comm]
theorem Mf(p v:V3)(k:Rat)(h:LB p v k)(M:Mem):kO prog 44 [vA p,vA v,.str (aB k)] M (vA (mH p (wT v k))) M:=by
 have o:aT prog 44=some f44:=by kernel_rfl
 rw[VB];obtain⟨a1,a2,a3⟩:=p;obtain⟨m,Y,W⟩:=v;obtain⟨⟨⟨⟨f1,f2⟩,⟨f3,f4⟩,f5,f6⟩,⟨⟨N,L⟩,⟨g3,K⟩,G,F⟩,J,I⟩,⟨Z,X⟩,⟨V,U⟩,S,R⟩:=h;simp only at f1 f2 f3 f4 f5 f6 N L g3 K G F Z X V U S R ⊢;obtain⟨x,D⟩:=xE (k*m);obtain⟨y,C⟩:=xE (k*Y);obtain⟨z,B⟩:=xE (k*W);rw[←D] at Z X ⊢;rw[←C] at V U ⊢;rw[←B] at S R ⊢;refine ao cO ?_ M;obtain⟨u,Q⟩:∃u,aJ f44=[u]:=⟨_,rfl⟩
 obtain⟨O,H⟩:=cD Q (l:=[0,1,0,0,8,28,63,0,128,0,0,1024,3711,8191,0,16384,0,0,131072,475135,1048575,2097151,4194303]) (j:=22) (by kernel_rfl) (by decide);simp[aJ,bU,f44] at Q;subst Q;simp[aa,o,f44,-aK,aq O,bm,aZ,bl,H,vA,bW,aH,az,af,be,bd,f1,f2,f3,f4,f5,f6,N,L,g3,K,G,F,J,I,Z,X,V,U,S,R,←D,←C,←B,Nat.testBit]
open Classical in
noncomputable def cr(f:FuncId)(args:List AV):Option AV:=
 match f,args with
 |75,[.agg [.str a,.str b,.str c],.agg [.str d,.str e,.str g]]=>match v3P a b c,v3P d e g with
  |some u,some v=>if wi u v then some (.str (aB (gG u v))) else none
  |_,_=>none
 |213,[.agg [.str a,.str b,.str c],.agg [.str d,.str e,.str g]]=>match v3P a b c,v3P d e g with
  |some u,some v=>if wi u v then some (.str (aB (gG u v))) else none
  |_,_=>none
 |103,[.agg [.str a,.str b,.str c],.agg [.str d,.str e,.str g]]=>match v3P a b c,v3P d e g with
  |some u,some v=>if wi u v then some (.str (aB (gG u v))) else none
  |_,_=>none
 |44,[.agg [.str a,.str b,.str c],.agg [.str d,.str e,.str g],.str k]=>match v3P a b c,v3P d e g,ef k with
  |some u,some v,some x=>if LB u v x then some (vA (mH u (wT v x))) else none
  |_,_,_=>none
 |100,[.agg [.str a,.str b,.str c]]=>if a.length≤1000000000∧b.length≤1000000000∧c.length≤1000000000 then some (.int .i64 (yc [a,b,c])) else none
 |f,args=>be f args
theorem eJ:qS prog (af cr):=bH fun f U v h mem=>by
 unfold cr at h;split at h
 ·split at h
  ·rename_i u v X V
   split at h
   ·rename_i Z
    cases h;obtain⟨rfl,rfl,rfl⟩:=jh X;obtain⟨rfl,rfl,rfl⟩:=jh V;exact Pv u v Z mem
   ·cases h
  ·cases h
 ·split at h
  ·rename_i u v X V
   split at h
   ·rename_i Z
    cases h;obtain⟨rfl,rfl,rfl⟩:=jh X;obtain⟨rfl,rfl,rfl⟩:=jh V;exact Pw u v Z mem
   ·cases h
  ·cases h
 ·split at h
  ·rename_i u v X V
   split at h
   ·rename_i Z
    cases h;obtain⟨rfl,rfl,rfl⟩:=jh X;obtain⟨rfl,rfl,rfl⟩:=jh V;exact Px u v Z mem
   ·cases h
  ·cases h
 ·split at h
  ·rename_i u v x X V S
   split at h
   ·rename_i Z
    cases h;obtain⟨rfl,rfl,rfl⟩:=jh X;obtain⟨rfl,rfl,rfl⟩:=jh V;rw[aC S];exact Mf u v x Z mem
   ·cases h
  ·cases h
 ·split at h
  next Z=>cases h;exact l8 _ _ _ Z.1 Z.2.1 Z.2.2 mem
  ·cases h
 ·have:=cO.fn _ _ mem ⟨v,none,[]⟩ (by unfold af;simp only;rw[h])
  simpa [y9.mem] using this
end Go.Proofs
