/- See C54. -/
import Derived.Test.YtffdedmakncfmaaGreatDoorC50
set_option linter.all false
set_option maxRecDepth 100000
set_option maxHeartbeats 40000000
namespace Go.Proofs
open Go.Eng
open Tryz
theorem ag4:aS prog 16=some f16:=by kernel_rfl
theorem Ij{a0 a1:Nat}(nm:List UInt8)(n v p:V3){d:Rat}(hd:Sb n p)(y:d=fI n p)(fd:cB d):∀(Q:List (Rat×Rat)),(0<Q.length∧Q.length≤3)→(∀x∈Q,cB x.1∧True)→
  kO prog 16 [.agg [.slice 0 0 a0 none,.slice 1 0 a1 none],.agg ((dR nm n Q v).cells .qF .qF .qF (.slice 2 0 Q.length none)),vA p] [.qK,.qK,.cells false 2 (kC (kT Q))] (.int .i64 (ei Q d:Int)) [.qK,.qK,.cells false 2 (kC (kT Q))]:=by
 intro Q hl V;have G:=fun M=>pf n p hd M
 rw[←y] at G;have Y:qS prog (afF.or (ag (cc [(38,[vA n,vA p],.str (ax d))])) (ag eS)):=qS.or (cD fun e W M=>by rw[List.mem_singleton] at W;rw[W];exact G M) zz
 clear G hd y;obtain⟨F,D⟩:=fd;obtain⟨J,C⟩:∃J,aG f16=J:=⟨_,rfl⟩
 have I:=cr C zu;have B:dH [0,1,3,0,15,31,63,0,128,384,0,1920,4095,8191] 13=true:=by decide
 simp only[aG,bQ,f16,lA] at C;subst C;simp only[lB] at I;obtain⟨-,S⟩:=I;have u0:IntKind.i64.wrap 0=0:=rfl;have u:IntKind.i64.wrap 1=1:=rfl;have H:IntKind.i64.wrap 2=2:=rfl;have u3:IntKind.i64.wrap 3=3:=rfl;have hcs:∀s,(AV.str s).afR=true:=fun _=>rfl
 have hci:∀k n,(AV.int k n).afR=true:=fun _ _=>rfl
 have hcn:AV.qF.afR=true:=rfl;refine jj (K:=5) (lv:=fun c=>if (ae c).contains 10 then [9,10] else [13,14]) Y ?_;clear Y
 match Q,hl,V with
 | [a],_,V=>
  obtain⟨a1,R⟩:=(V a (by simp)).1;have U:=xS (a:=a.1) (b:=d);obtain⟨na,Z⟩:=xE (fL (a.1-d));rw[←Z] at U;by_cases O:a.1≤d<;>simp[-getElem?_pos,-AV.afR,-AV.known,-AV.cells,-dy,-List.all_eq_true,vS,mS,aa,ag4,f16,dR,Evc.cells,vA,kC,kT,ei,afF.or,cc,ag,eS,ay,aT,ga,u,F,D,-aH,ak S,be,aV,aX,B,a1,R,←Z,U,O,Nat.testBit]
 | [a,b],_,V=>
  obtain⟨a1,R⟩:=(V a (by simp)).1;have U:=xS (a:=a.1) (b:=d);obtain⟨na,Z⟩:=xE (fL (a.1-d));rw[←Z] at U;obtain⟨o,m⟩:=(V b (by simp)).1;have N:=xS (a:=b.1) (b:=d);obtain⟨nb,X⟩:=xE (fL (b.1-d));rw[←X] at N;by_cases O:a.1≤d<;>by_cases j:b.1≤d<;>simp[-getElem?_pos,-AV.afR,-AV.known,-AV.cells,-dy,-List.all_eq_true,vS,mS,aa,ag4,f16,dR,Evc.cells,vA,kC,kT,ei,afF.or,cc,ag,eS,ay,aT,ga,u,H,F,D,-aH,ak S,be,aV,aX,B,a1,R,←Z,U,o,m,←X,N,O,j,Nat.testBit]
 | [a,b,c],_,V=>
  obtain⟨a1,R⟩:=(V a (by simp)).1;have U:=xS (a:=a.1) (b:=d);obtain⟨na,Z⟩:=xE (fL (a.1-d));rw[←Z] at U;obtain⟨o,m⟩:=(V b (by simp)).1;have N:=xS (a:=b.1) (b:=d);obtain⟨nb,X⟩:=xE (fL (b.1-d));rw[←X] at N;obtain⟨c1,c2⟩:=(V c (by simp)).1;have lc:=xS (a:=c.1) (b:=d);obtain⟨nc,L⟩:=xE (fL (c.1-d));rw[←L] at lc;by_cases O:a.1≤d<;>by_cases j:b.1≤d<;>by_cases tc:c.1≤d<;>simp[-getElem?_pos,-AV.afR,-AV.known,-AV.cells,-dy,-List.all_eq_true,vS,mS,aa,ag4,f16,dR,Evc.cells,vA,kC,kT,ei,afF.or,cc,ag,eS,ay,aT,ga,u,H,u3,F,D,-aH,ak S,be,aV,aX,B,a1,R,←Z,U,o,m,←X,N,c1,c2,←L,lc,O,j,tc,Nat.testBit]
noncomputable def dkL(n:V3)(o w:Rat)(p:V3):Int:=if fI n p-o<0 then 0 else if fI n p-o<w then 1 else 2
section
variable {x y:AV}{M:Mem}
section
variable (cx:x.afR=true∧y.afR=true)
include cx
theorem Np(nm un:List UInt8)(n:V3)(o w:Rat)(p:V3)(hd:Sb n p)(H:cB (fI n p))(I:cB o)(J:cB (fI n p-o))(W:cB w):
  kO prog 16 [.agg [x,y],.agg ((mX nm n o w un).cells .qF .qF .qF .qF),vA p] M (.int .i64 (dkL n o w p)) M:=by
 obtain⟨B,u⟩:=cx;have S:=fun M=>wO n p o hd H I M
 unfold dkL;have Z:=fun M=>uL (fI n p-o) M
 have X:=fun M=>nQ (fI n p-o) w J W M
 obtain⟨q,O⟩:=xE (α:=Rat) (fI n p-o);rw[←O] at S Z X ⊢;have t1:=Vm (a:=q) (b:=0);have N:q-0=q:=by grind
 rw[N] at t1;have t2:=Vm (a:=q) (b:=w);obtain⟨g,L⟩:=xE (fL q);rw[←L] at Z t1;obtain⟨k,G⟩:=xE (fL (q-w));rw[←G] at X t2;have R:qS prog (ag (cc [(53,[.agg [.str (ax n.1),.str (ax n.2.1),.str (ax n.2.2),.str (ax o)],vA p],.str (ax q)),(52,[.str (ax q)],.int .i64 g),(51,[.str (ax q),.str (ax w)],.int .i64 k)])):=cD fun e Q M=>by
  simp only[lM] at Q;rcases Q with rfl | rfl | rfl
  ·exact S M
  ·exact Z M
  ·exact X M
 clear S Z X;refine jj (K:=1) (lv:=fun _=>[]) R ?_;clear R;have F:∀s,(AV.str s).afR=true:=fun _=>rfl
 have D:∀k n,(AV.int k n).afR=true:=fun _ _=>rfl
 have C:AV.qF.afR=true:=rfl;by_cases V:q<0
 ·have t1:=t1.2 V
  rw[if_pos V];simp[-AV.afR,aa,ag4,f16,ag,cc,mX,Evc.cells,vA,t1]
 ·have t1:¬g<0:=fun h=>V (t1.1 h)
  rw[if_neg V];by_cases U:q<w
  ·have t2:=t2.2 U
   rw[if_pos U];simp[-AV.afR,aa,ag4,f16,ag,cc,mX,Evc.cells,vA,t1,t2]
  ·have t2:¬k<0:=fun h=>U (t2.1 h)
   rw[if_neg U];simp[-AV.afR,aa,ag4,f16,ag,cc,mX,Evc.cells,vA,t1,t2]
theorem Nq(nm:List UInt8)(t:I4)(c p:V3):
  kO prog 16 [.agg [x,y],.agg ((gu nm t c).cells .qF .qF .qF .qF),vA p] M (.int .i64 0) M:=by
 obtain⟨U,S⟩:=cx;refine jj (K:=1) (lv:=fun _=>[]) (aw _) ?_;have Z:∀s,(AV.str s).afR=true:=fun _=>rfl
 have X:∀k n,(AV.int k n).afR=true:=fun _ _=>rfl
 have V:AV.qF.afR=true:=rfl;simp[-AV.afR,aa,ag4,f16,gu,Evc.cells,vA]
end
end
end Go.Proofs
