/- See B54. -/
import Derived.Test.YtffdedmakncfmaaGreatDoorB43
import Derived.Test.YtffdedmakncfmaaGreatDoorB44
set_option linter.all false
set_option maxRecDepth 100000
set_option maxHeartbeats 40000000
namespace Go.Proofs
open Go.Eng
def v0:V3:=(0,0,0)
section
variable {pv tv b u sv kn:AV}{c:Evc}{x:Int}{M:Mem}{us:List (List UInt8)}{ub:Nat}{o:Bool}
end
section
variable {c:Evc}{b u sv kn:AV}{M:Mem}{ub kb nu nk:Nat}{n:Int}
end
end Go.Proofs
namespace Go.Proofs
open Go.Eng
open Tryz
noncomputable def fu:Array Oper:=match f146.body with
 |some (.seq _ (.seq _ (.seq _ (.seq _ (.seq (.region _ ops _) _)))))=>ops
 |_=> #[]
noncomputable def ra:List Oper:=(fu.toList.drop 0).take 33
noncomputable def rb:List Oper:=(fu.toList.drop 33).take 33
noncomputable def re:List Oper:=(fu.toList.drop 66).take 35
theorem Ke:fu.toList=ra++(rb++re):=by kernel_rfl
section
variable {O:ae3}{m0:Nat}{ops:Array Oper}{env:Env}{mem:Mem}{d:Bool}{w x y z A B C D E F G H I J K1 K2 K3 K4 K5 K6 K7 K8 K9 S1 S4 S5 S6 S7 S8 S9 S10 S11 S12 S13:Int}{r1 r2 r3:V3}
section
variable (h3:ab env 3=.int .i64 w)(h4:ab env 4=.int .i64 x)(h5:ab env 5=.int .i64 y)(h6:ab env 6=.int .i64 z)(h8:ab env 8=.func 214 [.ptr 2 0])
include h3 h4 h5 h6 h8
theorem Nv(pA:IntKind.i64.wrap (w*w)=A)(W:IntKind.i64.wrap (x*x)=B)(pC:IntKind.i64.wrap (y*y)=C)(Y:IntKind.i64.wrap (z*z)=D)(pE:IntKind.i64.wrap (x*y)=E)(pF:IntKind.i64.wrap (w*z)=F)(pG:IntKind.i64.wrap (x*z)=G)(pH:IntKind.i64.wrap (w*y)=H)(u1:IntKind.i64.wrap (A+B)=S1)(u4:IntKind.i64.wrap (S1-C)=S4)(q1:IntKind.i64.wrap (S4-D)=K1)(u5:IntKind.i64.wrap (E-F)=S5)(q2:IntKind.i64.wrap (2*S5)=K2)(u6:IntKind.i64.wrap (G+H)=S6)(q3:IntKind.i64.wrap (2*S6)=K3)(hO:O (.fn 214) [.int .i64 K1,.int .i64 K2,.int .i64 K3,.ptr 2 0] mem=some ⟨vA r1,none,[]⟩):
  ∃Z,dx (ba prog) O 133 m0 ops ra ⟨env,mem,d⟩=some ⟨Z,mem,d⟩∧ab Z 2=ab env 2∧ab Z 3=.int .i64 w∧ab Z 4=.int .i64 x∧ab Z 5=.int .i64 y∧ab Z 6=.int .i64 z∧ab Z 8=.func 214 [.ptr 2 0]∧ab Z 65=vA r1:=by
 unfold vA at*;simp[ra,fu,f146,h3,h4,h5,h6,h8,pA,W,pC,Y,pE,pF,pG,pH,u1,u4,q1,u5,q2,u6,q3,hO]
theorem Nw(W:ab env 65=vA r1)(pA:IntKind.i64.wrap (w*w)=A)(pB:IntKind.i64.wrap (x*x)=B)(pC:IntKind.i64.wrap (y*y)=C)(pD:IntKind.i64.wrap (z*z)=D)(pE:IntKind.i64.wrap (x*y)=E)(pF:IntKind.i64.wrap (w*z)=F)(pI:IntKind.i64.wrap (y*z)=I)(pJ:IntKind.i64.wrap (w*x)=J)(u7:IntKind.i64.wrap (E+F)=S7)(q4:IntKind.i64.wrap (2*S7)=K4)(u8:IntKind.i64.wrap (A-B)=S8)(u9:IntKind.i64.wrap (S8+C)=S9)(q5:IntKind.i64.wrap (S9-D)=K5)(Y:IntKind.i64.wrap (I-J)=S10)(q6:IntKind.i64.wrap (2*S10)=K6)(hO:O (.fn 214) [.int .i64 K4,.int .i64 K5,.int .i64 K6,.ptr 2 0] mem=some ⟨vA r2,none,[]⟩):
  ∃Z,dx (ba prog) O 133 m0 ops rb ⟨env,mem,d⟩=some ⟨Z,mem,d⟩∧ab Z 2=ab env 2∧ab Z 3=.int .i64 w∧ab Z 4=.int .i64 x∧ab Z 5=.int .i64 y∧ab Z 6=.int .i64 z∧ab Z 8=.func 214 [.ptr 2 0]∧ab Z 65=vA r1∧ab Z 98=vA r2:=by
 unfold vA at*;simp[rb,fu,f146,h3,h4,h5,h6,h8,W,pA,pB,pC,pD,pE,pF,pI,pJ,u7,q4,u8,u9,q5,Y,q6,hO]
theorem Nx(h2:ab env 2=.ptr 1 0)(W:ab env 65=vA r1)(k98:ab env 98=vA r2)(pA:IntKind.i64.wrap (w*w)=A)(pB:IntKind.i64.wrap (x*x)=B)(pC:IntKind.i64.wrap (y*y)=C)(pD:IntKind.i64.wrap (z*z)=D)(pG:IntKind.i64.wrap (x*z)=G)(pH:IntKind.i64.wrap (w*y)=H)(pI:IntKind.i64.wrap (y*z)=I)(pJ:IntKind.i64.wrap (w*x)=J)(u11:IntKind.i64.wrap (G-H)=S11)(q7:IntKind.i64.wrap (2*S11)=K7)(u12:IntKind.i64.wrap (I+J)=S12)(q8:IntKind.i64.wrap (2*S12)=K8)(u8:IntKind.i64.wrap (A-B)=S8)(u13:IntKind.i64.wrap (S8-C)=S13)(q9:IntKind.i64.wrap (S13+D)=K9)(hO:O (.fn 214) [.int .i64 K7,.int .i64 K8,.int .i64 K9,.ptr 2 0] mem=some ⟨vA r3,none,[]⟩)(hm:∃X Y,mem=[X,.cells true 0 [.str [],.str [],.str [],.str [],.str [],.str [],.str [],.str [],.str []],Y])(Yn:m0=0)(hd:d=false):
  ∃Z,dx (ba prog) O 133 m0 ops re ⟨env,mem,d⟩=some ⟨Z,mem.set 1 (.cells true 0 (mC (r1,r2,r3))),d⟩∧ab Z 2=.ptr 1 0:=by
 obtain⟨X,Y,rfl⟩:=hm;subst Yn hd;unfold vA at*;simp[re,fu,f146,h3,h4,h5,h6,h8,h2,W,k98,pA,pB,pC,pD,pG,pH,pI,pJ,u11,q7,u12,q8,u8,u13,q9,hO,mC,bW]
end
end
theorem eS{a b:Int}(y:a.natAbs≤20)(H:b.natAbs≤20): -400≤a*b∧a*b≤400:=by have:=XF y H;omega
noncomputable def gx(k:Nat):Array Oper:=match f146.body with
 |some (.seq (.region _ a _) (.seq (.region _ b _) (.seq (.region _ c _) (.seq (.region _ e _) _))))=>if k=0 then a else if k=1 then b else if k=2 then c else e
 |_=> #[]
theorem MH{t:I4}(ht:tLe 20 t)(hz:¬yw t)(M:Mem):kO prog 146 [tA t] M (.agg (mC (zb t))) M:=by
 have hG:aT prog 146=some f146:=by kernel_rfl
 have X:=GW hz;obtain⟨w,x,y,z⟩:=t;obtain⟨Q,Z,h3,V⟩:=ht;simp only at Q Z h3 V X;unfold zb Rv tA;simp only;obtain⟨lA,nA⟩:=eS Q Q;obtain⟨lB,nB⟩:=eS Z Z;obtain⟨lC,nC⟩:=eS h3 h3;obtain⟨lD,nD⟩:=eS V V;obtain⟨lE,nE⟩:=eS Z h3;obtain⟨lF,nF⟩:=eS Q V;obtain⟨lG,nG⟩:=eS Z V;obtain⟨lH,nH⟩:=eS Q h3;obtain⟨lI,nI⟩:=eS h3 V;obtain⟨lJ,nJ⟩:=eS Q Z;obtain⟨A,hA⟩:=xE (w*w);obtain⟨B,hB⟩:=xE (x*x);obtain⟨C,hC⟩:=xE (y*y);obtain⟨D,hD⟩:=xE (z*z);obtain⟨E,hE⟩:=xE (x*y);obtain⟨F,hF⟩:=xE (w*z);obtain⟨G,L⟩:=xE (x*z);obtain⟨H,hH⟩:=xE (w*y);obtain⟨I,hI⟩:=xE (y*z);obtain⟨J,hJ⟩:=xE (w*x);rw[←hA] at lA nA X;rw[←hB] at lB nB X;rw[←hC] at lC nC X;rw[←hD] at lD nD X;rw[←hE] at lE nE;rw[←hF] at lF nF;rw[←L] at lG nG;rw[←hH] at lH nH;rw[←hI] at lI nI;rw[←hJ] at lJ nJ;rw[←hA,←hB,←hC,←hD,←hE,←hF,←L,←hH,←hI,←hJ];clear Q Z h3 V;have wr:∀n:Int,-1000000≤n∧n≤1000000→IntKind.i64.wrap n=n:=fun n h=>ji h.1 h.2
 have pA:IntKind.i64.wrap (w*w)=A:=by rw[←hA];exact wr A (by omega)
 have pB:IntKind.i64.wrap (x*x)=B:=by rw[←hB];exact wr B (by omega)
 have pC:IntKind.i64.wrap (y*y)=C:=by rw[←hC];exact wr C (by omega)
 have pD:IntKind.i64.wrap (z*z)=D:=by rw[←hD];exact wr D (by omega)
 have pE:IntKind.i64.wrap (x*y)=E:=by rw[←hE];exact wr E (by omega)
 have pF:IntKind.i64.wrap (w*z)=F:=by rw[←hF];exact wr F (by omega)
 have pG:IntKind.i64.wrap (x*z)=G:=by rw[←L];exact wr G (by omega)
 have pH:IntKind.i64.wrap (w*y)=H:=by rw[←hH];exact wr H (by omega)
 have pI:IntKind.i64.wrap (y*z)=I:=by rw[←hI];exact wr I (by omega)
 have pJ:IntKind.i64.wrap (w*x)=J:=by rw[←hJ];exact wr J (by omega)
 clear hA hB hC hD hE hF L hH hI hJ;obtain⟨S,hS⟩:=xE (A+B+C+D);have pS:0<S:=by omega
 have lS:S.natAbs≤1000000:=by omega
 have u1:=wr (A+B) (by omega);have u2:=wr (A+B+C) (by omega);have u3:IntKind.i64.wrap (A+B+C+D)=S:=by rw[←hS];exact wr S (by omega)
 rw[←hS];obtain⟨r1,e1⟩:=xE (α:=V3) (mkRat (A+B-C-D) S.toNat,mkRat (2*(E-F)) S.toNat,mkRat (2*(G+H)) S.toNat);obtain⟨r2,e2⟩:=xE (α:=V3) (mkRat (2*(E+F)) S.toNat,mkRat (A-B+C-D) S.toNat,mkRat (2*(I-J)) S.toNat);obtain⟨r3,e3⟩:=xE (α:=V3) (mkRat (2*(G-H)) S.toNat,mkRat (2*(I+J)) S.toNat,mkRat (A-B-C+D) S.toNat);rw[←e1,←e2,←e3];obtain⟨R,Yn⟩:=xE (α:=Mem) [.cells true 0 [.int .i64 w,.int .i64 x,.int .i64 y,.int .i64 z],.cells true 0 [.str [],.str [],.str [],.str [],.str [],.str [],.str [],.str [],.str []],.cells true 0 [.int .i64 S]];have hO:qS prog (yo fun c a N r=>∃p q v:Int,(c=.fn 214∧a=[.int .i64 p,.int .i64 q,.int .i64 v,.ptr 2 0]∧N=R)∧(p.natAbs≤1000000∧q.natAbs≤1000000∧v.natAbs≤1000000)∧r=⟨vA (mkRat p S.toNat,mkRat q S.toNat,mkRat v S.toNat),none,[]⟩):=AL fun c a N r ⟨p,q,v,⟨Q,Z,h3⟩,⟨g1,g2,g3⟩,V⟩=>by subst Q Z h3 V Yn;exact aw (by simpa [y9.mem] using MG p q v S pS lS g1 g2 g3 _ _)
 have m:∀p q v:Int,p.natAbs≤1000000→q.natAbs≤1000000→v.natAbs≤1000000→yo (fun c a N r=>∃p q v:Int,(c=.fn 214∧a=[.int .i64 p,.int .i64 q,.int .i64 v,.ptr 2 0]∧N=R)∧(p.natAbs≤1000000∧q.natAbs≤1000000∧v.natAbs≤1000000)∧r=⟨vA (mkRat p S.toNat,mkRat q S.toNat,mkRat v S.toNat),none,[]⟩) (.fn 214) [.int .i64 p,.int .i64 q,.int .i64 v,.ptr 2 0] R=some ⟨vA (mkRat p S.toNat,mkRat q S.toNat,mkRat v S.toNat),none,[]⟩:=fun p q v g1 g2 g3=>lK ⟨p,q,v,⟨rfl,rfl,rfl⟩,⟨g1,g2,g3⟩,rfl⟩ fun r' ⟨p',q',v',⟨_,Z,_⟩,_,V⟩=>by simp only[List.cons.injEq,AV.int.injEq,true_and,and_true] at Z;obtain⟨rfl,rfl,rfl⟩:=Z;exact V
 obtain⟨O,Zq⟩:=xE (yo (fun c a N r=>∃p q v:Int,(c=.fn 214∧a=[.int .i64 p,.int .i64 q,.int .i64 v,.ptr 2 0]∧N=R)∧(p.natAbs≤1000000∧q.natAbs≤1000000∧v.natAbs≤1000000)∧r=⟨vA (mkRat p S.toNat,mkRat q S.toNat,mkRat v S.toNat),none,[]⟩));rw[←Zq] at hO;simp only[←Zq] at m;clear Zq;have o:=m (A+B-C-D) (2*(E-F)) (2*(G+H)) (by omega) (by omega) (by omega);have o2:=m (2*(E+F)) (A-B+C-D) (2*(I-J)) (by omega) (by omega) (by omega);have o3:=m (2*(G-H)) (2*(I+J)) (A-B-C+D) (by omega) (by omega) (by omega);rw[←e1] at o;rw[←e2] at o2;rw[←e3] at o3;obtain⟨U,A'⟩:=xE fu;obtain⟨Fu,u⟩:=pN (p:=fun e (_:Bool)=>(ab e 2=.ptr 1 0∧ab e 3=.int .i64 w∧ab e 4=.int .i64 x∧ab e 5=.int .i64 y∧ab e 6=.int .i64 z∧ab e 8=.func 214 [.ptr 2 0])) (q:=fun env (_:Bool) AC =>dx (ba prog) O 133 0 U U.toList ⟨env,R,false⟩=some ⟨AC,R.set 1 (.cells true 0 (mC (r1,r2,r3))),false⟩∧ab AC 2=.ptr 1 0) (fun env _ h=>by obtain⟨Z,h3,V,j,Y,W⟩:=h;subst A';obtain⟨E0,R0,a2,a3,a4,a5,a6,a8,a65⟩:=Nv (O:=O) (m0:=0) (ops:=fu) (mem:=R) (d:=false) h3 V j Y W pA pB pC pD pE pF pG pH u1 (wr (A+B-C) (by omega)) (wr (A+B-C-D) (by omega)) (wr (E-F) (by omega)) (wr (2*(E-F)) (by omega)) (wr (G+H) (by omega)) (wr (2*(G+H)) (by omega)) o;obtain⟨E1,R1,b2,b3,b4,b5,b6,b8,b65,b98⟩:=Nw (O:=O) (m0:=0) (ops:=fu) (mem:=R) (d:=false) a3 a4 a5 a6 a8 a65 pA pB pC pD pE pF pI pJ (wr (E+F) (by omega)) (wr (2*(E+F)) (by omega)) (wr (A-B) (by omega)) (wr (A-B+C) (by omega)) (wr (A-B+C-D) (by omega)) (wr (I-J) (by omega)) (wr (2*(I-J)) (by omega)) o2;obtain⟨E2,R2,c2⟩:=Nx (O:=O) (m0:=0) (ops:=fu) (mem:=R) (d:=false) b3 b4 b5 b6 b8 (b2.trans (a2.trans Z)) b65 b98 pA pB pC pD pG pH pI pJ (wr (G-H) (by omega)) (wr (2*(G-H)) (by omega)) (wr (I+J) (by omega)) (wr (2*(I+J)) (by omega)) (wr (A-B) (by omega)) (wr (A-B-C) (by omega)) (wr (A-B-C+D) (by omega)) o3 ⟨_,_,Yn⟩ rfl rfl;exact⟨E2,by rw[Ke];exact dH R0 (dH R1 R2),c2⟩)
 have Yl:=fun env Z h3 V j Y W=>(u env false ⟨Z,h3,V,j,Y,W⟩).1
 have Yp:=fun env Z h3 V j Y W=>(u env false ⟨Z,h3,V,j,Y,W⟩).2
 have hb:f146.body=some (.seq (.region 0 (gx 0) false) (.seq (.region 1 (gx 1) true) (.seq (.region 2 (gx 2) false) (.seq (.region 3 (gx 3) false) (.seq (.region 4 U false) .ret))))):=by rw[A'];kernel_rfl
 subst Yn;refine ao hO ?_ M;clear u hO m o o2 o3 e1 e2 e3;obtain⟨o,K⟩:=xE (gx 1);have IR:dW o.toList=[0,1,0,4,0,16,0,64,3,271,831,2047]:=by rw[K];kernel_rfl
 have YF:dS [0,1,0,4,0,16,0,64,3,271,831,2047] 11=true:=by decide
 have YZ :gx 1=o:=K.symm;unfold aa;rw[hG];dsimp only;rw[hb];dsimp only;rw[YZ];clear YZ hb;simp[gx,f146] at K;subst K;simp[-aK,aq IR,bm,aZ,bl,YF,Yl,Yp,gx,f146,pA,pB,pC,pD,u1,u2,u3,mC]
end Go.Proofs
