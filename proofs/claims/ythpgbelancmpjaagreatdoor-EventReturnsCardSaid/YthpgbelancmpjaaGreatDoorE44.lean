/- See E54. -/
import Derived.Test.YthpgbelancmpjaaGreatDoorE42
import Derived.Test.YthpgbelancmpjaaGreatDoorE43
set_option linter.all false
set_option maxRecDepth 100000
set_option maxHeartbeats 40000000
namespace Go.Proofs
open Go.Eng
def v0:V3:=(0,0,0)
section
variable {pv tv b u sv kn:AV}{c:Evc}{x:Int}{M:Mem}{us:List (List UInt8)}{ub:Nat}{o:Bool}
end
section
variable {c:Evc}{b u sv kn:AV}{M:Mem}{ub kb nu nk:Nat}{n:Int}
end
end Go.Proofs
namespace Go.Proofs
open Go.Eng
open Tryz
noncomputable def fD:Array Oper:=match f216.body with
 |some (.seq _ (.seq _ (.seq _ (.seq _ (.seq (.region _ ops _) _)))))=>ops
 |_=> #[]
noncomputable def qP:List Oper:=(fD.toList.drop 0).take 33
noncomputable def qQ:List Oper:=(fD.toList.drop 33).take 33
noncomputable def qR:List Oper:=(fD.toList.drop 66).take 35
theorem Ju:fD.toList=qP++(qQ++qR):=by kernel_rfl
section
variable {O:y9}{m0:Nat}{ops:Array Oper}{env:Env}{mem:Mem}{d:Bool}{w x y z A B C D E F G H I J K1 K2 K3 K4 K5 K6 K7 K8 K9 S1 S4 S5 S6 S7 S8 S9 S10 S11 S12 S13:Int}{r1 r2 r3:V3}
section
variable (h3:ad env 3=.int .i64 w)(h4:ad env 4=.int .i64 x)(h5:ad env 5=.int .i64 y)(h6:ad env 6=.int .i64 z)(h8:ad env 8=.func 260 [.ptr 2 0])
include h3 h4 h5 h6 h8
theorem Mz(pA:IntKind.i64.wrap (w*w)=A)(W:IntKind.i64.wrap (x*x)=B)(pC:IntKind.i64.wrap (y*y)=C)(Y:IntKind.i64.wrap (z*z)=D)(pE:IntKind.i64.wrap (x*y)=E)(pF:IntKind.i64.wrap (w*z)=F)(pG:IntKind.i64.wrap (x*z)=G)(pH:IntKind.i64.wrap (w*y)=H)(u1:IntKind.i64.wrap (A+B)=S1)(u4:IntKind.i64.wrap (S1-C)=S4)(q1:IntKind.i64.wrap (S4-D)=K1)(u5:IntKind.i64.wrap (E-F)=S5)(q2:IntKind.i64.wrap (2*S5)=K2)(u6:IntKind.i64.wrap (G+H)=S6)(q3:IntKind.i64.wrap (2*S6)=K3)(hO:O (.fn 260) [.int .i64 K1,.int .i64 K2,.int .i64 K3,.ptr 2 0] mem=some ⟨vA r1,none,[]⟩):
  ∃Z,dN (aV prog) O 133 m0 ops qP ⟨env,mem,d⟩=some ⟨Z,mem,d⟩∧ad Z 2=ad env 2∧ad Z 3=.int .i64 w∧ad Z 4=.int .i64 x∧ad Z 5=.int .i64 y∧ad Z 6=.int .i64 z∧ad Z 8=.func 260 [.ptr 2 0]∧ad Z 65=vA r1:=by
 unfold vA at*;simp[qP,fD,f216,h3,h4,h5,h6,h8,pA,W,pC,Y,pE,pF,pG,pH,u1,u4,q1,u5,q2,u6,q3,hO]
theorem MA(W:ad env 65=vA r1)(pA:IntKind.i64.wrap (w*w)=A)(pB:IntKind.i64.wrap (x*x)=B)(pC:IntKind.i64.wrap (y*y)=C)(pD:IntKind.i64.wrap (z*z)=D)(pE:IntKind.i64.wrap (x*y)=E)(pF:IntKind.i64.wrap (w*z)=F)(pI:IntKind.i64.wrap (y*z)=I)(pJ:IntKind.i64.wrap (w*x)=J)(u7:IntKind.i64.wrap (E+F)=S7)(q4:IntKind.i64.wrap (2*S7)=K4)(u8:IntKind.i64.wrap (A-B)=S8)(u9:IntKind.i64.wrap (S8+C)=S9)(q5:IntKind.i64.wrap (S9-D)=K5)(Y:IntKind.i64.wrap (I-J)=S10)(q6:IntKind.i64.wrap (2*S10)=K6)(hO:O (.fn 260) [.int .i64 K4,.int .i64 K5,.int .i64 K6,.ptr 2 0] mem=some ⟨vA r2,none,[]⟩):
  ∃Z,dN (aV prog) O 133 m0 ops qQ ⟨env,mem,d⟩=some ⟨Z,mem,d⟩∧ad Z 2=ad env 2∧ad Z 3=.int .i64 w∧ad Z 4=.int .i64 x∧ad Z 5=.int .i64 y∧ad Z 6=.int .i64 z∧ad Z 8=.func 260 [.ptr 2 0]∧ad Z 65=vA r1∧ad Z 98=vA r2:=by
 unfold vA at*;simp[qQ,fD,f216,h3,h4,h5,h6,h8,W,pA,pB,pC,pD,pE,pF,pI,pJ,u7,q4,u8,u9,q5,Y,q6,hO]
theorem MB(h2:ad env 2=.ptr 1 0)(W:ad env 65=vA r1)(k98:ad env 98=vA r2)(pA:IntKind.i64.wrap (w*w)=A)(pB:IntKind.i64.wrap (x*x)=B)(pC:IntKind.i64.wrap (y*y)=C)(pD:IntKind.i64.wrap (z*z)=D)(pG:IntKind.i64.wrap (x*z)=G)(pH:IntKind.i64.wrap (w*y)=H)(pI:IntKind.i64.wrap (y*z)=I)(pJ:IntKind.i64.wrap (w*x)=J)(u11:IntKind.i64.wrap (G-H)=S11)(q7:IntKind.i64.wrap (2*S11)=K7)(u12:IntKind.i64.wrap (I+J)=S12)(q8:IntKind.i64.wrap (2*S12)=K8)(u8:IntKind.i64.wrap (A-B)=S8)(u13:IntKind.i64.wrap (S8-C)=S13)(q9:IntKind.i64.wrap (S13+D)=K9)(hO:O (.fn 260) [.int .i64 K7,.int .i64 K8,.int .i64 K9,.ptr 2 0] mem=some ⟨vA r3,none,[]⟩)(hm:∃X Y,mem=[X,.cells true 0 [.str [],.str [],.str [],.str [],.str [],.str [],.str [],.str [],.str []],Y])(Yh:m0=0)(hd:d=false):
  ∃Z,dN (aV prog) O 133 m0 ops qR ⟨env,mem,d⟩=some ⟨Z,mem.set 1 (.cells true 0 (mC (r1,r2,r3))),d⟩∧ad Z 2=.ptr 1 0:=by
 obtain⟨X,Y,rfl⟩:=hm;subst Yh hd;unfold vA at*;simp[qR,fD,f216,h3,h4,h5,h6,h8,h2,W,k98,pA,pB,pC,pD,pG,pH,pI,pJ,u11,q7,u12,q8,u8,u13,q9,hO,mC,bJ]
end
end
theorem iF{a b:Int}(H:a.natAbs≤20)(I:b.natAbs≤20): -400≤a*b∧a*b≤400:=by have:=Xj H I;omega
noncomputable def gi(k:Nat):Array Oper:=match f216.body with
 |some (.seq (.region _ a _) (.seq (.region _ b _) (.seq (.region _ c _) (.seq (.region _ e _) _))))=>if k=0 then a else if k=1 then b else if k=2 then c else e
 |_=> #[]
theorem LH{t:I4}(ht:tLe 20 t)(hz:¬xY t)(M:Mem):kO prog 216 [tA t] M (.agg (mC (wJ t))) M:=by
 have hG:aT prog 216=some f216:=by kernel_rfl
 have X:=Ge hz;obtain⟨w,x,y,z⟩:=t;obtain⟨L,Z,h3,V⟩:=ht;simp only at L Z h3 V X;unfold wJ Ce tA;simp only;obtain⟨lA,nA⟩:=iF L L;obtain⟨lB,nB⟩:=iF Z Z;obtain⟨lC,nC⟩:=iF h3 h3;obtain⟨lD,nD⟩:=iF V V;obtain⟨lE,nE⟩:=iF Z h3;obtain⟨lF,nF⟩:=iF L V;obtain⟨lG,nG⟩:=iF Z V;obtain⟨lH,nH⟩:=iF L h3;obtain⟨lI,nI⟩:=iF h3 V;obtain⟨lJ,nJ⟩:=iF L Z;obtain⟨A,hA⟩:=xE (w*w);obtain⟨B,hB⟩:=xE (x*x);obtain⟨C,hC⟩:=xE (y*y);obtain⟨D,hD⟩:=xE (z*z);obtain⟨E,hE⟩:=xE (x*y);obtain⟨F,hF⟩:=xE (w*z);obtain⟨G,K⟩:=xE (x*z);obtain⟨H,hH⟩:=xE (w*y);obtain⟨I,hI⟩:=xE (y*z);obtain⟨J,hJ⟩:=xE (w*x);rw[←hA] at lA nA X;rw[←hB] at lB nB X;rw[←hC] at lC nC X;rw[←hD] at lD nD X;rw[←hE] at lE nE;rw[←hF] at lF nF;rw[←K] at lG nG;rw[←hH] at lH nH;rw[←hI] at lI nI;rw[←hJ] at lJ nJ;rw[←hA,←hB,←hC,←hD,←hE,←hF,←K,←hH,←hI,←hJ];clear L Z h3 V;have wr:∀n:Int,-1000000≤n∧n≤1000000→IntKind.i64.wrap n=n:=fun n h=>jm h.1 h.2
 have pA:IntKind.i64.wrap (w*w)=A:=by rw[←hA];exact wr A (by omega)
 have pB:IntKind.i64.wrap (x*x)=B:=by rw[←hB];exact wr B (by omega)
 have pC:IntKind.i64.wrap (y*y)=C:=by rw[←hC];exact wr C (by omega)
 have pD:IntKind.i64.wrap (z*z)=D:=by rw[←hD];exact wr D (by omega)
 have pE:IntKind.i64.wrap (x*y)=E:=by rw[←hE];exact wr E (by omega)
 have pF:IntKind.i64.wrap (w*z)=F:=by rw[←hF];exact wr F (by omega)
 have pG:IntKind.i64.wrap (x*z)=G:=by rw[←K];exact wr G (by omega)
 have pH:IntKind.i64.wrap (w*y)=H:=by rw[←hH];exact wr H (by omega)
 have pI:IntKind.i64.wrap (y*z)=I:=by rw[←hI];exact wr I (by omega)
 have pJ:IntKind.i64.wrap (w*x)=J:=by rw[←hJ];exact wr J (by omega)
 clear hA hB hC hD hE hF K hH hI hJ;obtain⟨S,hS⟩:=xE (A+B+C+D);have pS:0<S:=by omega
 have lS:S.natAbs≤1000000:=by omega
 have u1:=wr (A+B) (by omega);have u2:=wr (A+B+C) (by omega);have u3:IntKind.i64.wrap (A+B+C+D)=S:=by rw[←hS];exact wr S (by omega)
 rw[←hS];obtain⟨r1,e1⟩:=xE (α:=V3) (mkRat (A+B-C-D) S.toNat,mkRat (2*(E-F)) S.toNat,mkRat (2*(G+H)) S.toNat);obtain⟨r2,e2⟩:=xE (α:=V3) (mkRat (2*(E+F)) S.toNat,mkRat (A-B+C-D) S.toNat,mkRat (2*(I-J)) S.toNat);obtain⟨r3,e3⟩:=xE (α:=V3) (mkRat (2*(G-H)) S.toNat,mkRat (2*(I+J)) S.toNat,mkRat (A-B-C+D) S.toNat);rw[←e1,←e2,←e3];obtain⟨R,Yh⟩:=xE (α:=Mem) [.cells true 0 [.int .i64 w,.int .i64 x,.int .i64 y,.int .i64 z],.cells true 0 [.str [],.str [],.str [],.str [],.str [],.str [],.str [],.str [],.str []],.cells true 0 [.int .i64 S]];have hO:qS prog (wo fun c a N r=>∃p q v:Int,(c=.fn 260∧a=[.int .i64 p,.int .i64 q,.int .i64 v,.ptr 2 0]∧N=R)∧(p.natAbs≤1000000∧q.natAbs≤1000000∧v.natAbs≤1000000)∧r=⟨vA (mkRat p S.toNat,mkRat q S.toNat,mkRat v S.toNat),none,[]⟩):=wq fun c a N r ⟨p,q,v,⟨L,Z,h3⟩,⟨g1,g2,g3⟩,V⟩=>by subst L Z h3 V Yh;exact aC (by simpa [aee.mem] using LG p q v S pS lS g1 g2 g3 _ _)
 have j:∀p q v:Int,p.natAbs≤1000000→q.natAbs≤1000000→v.natAbs≤1000000→wo (fun c a N r=>∃p q v:Int,(c=.fn 260∧a=[.int .i64 p,.int .i64 q,.int .i64 v,.ptr 2 0]∧N=R)∧(p.natAbs≤1000000∧q.natAbs≤1000000∧v.natAbs≤1000000)∧r=⟨vA (mkRat p S.toNat,mkRat q S.toNat,mkRat v S.toNat),none,[]⟩) (.fn 260) [.int .i64 p,.int .i64 q,.int .i64 v,.ptr 2 0] R=some ⟨vA (mkRat p S.toNat,mkRat q S.toNat,mkRat v S.toNat),none,[]⟩:=fun p q v g1 g2 g3=>fQ ⟨p,q,v,⟨rfl,rfl,rfl⟩,⟨g1,g2,g3⟩,rfl⟩ fun r' ⟨p',q',v',⟨_,Z,_⟩,_,V⟩=>by simp only[List.cons.injEq,AV.int.injEq,true_and,and_true] at Z;obtain⟨rfl,rfl,rfl⟩:=Z;exact V
 obtain⟨O,Zx⟩:=xE (wo (fun c a N r=>∃p q v:Int,(c=.fn 260∧a=[.int .i64 p,.int .i64 q,.int .i64 v,.ptr 2 0]∧N=R)∧(p.natAbs≤1000000∧q.natAbs≤1000000∧v.natAbs≤1000000)∧r=⟨vA (mkRat p S.toNat,mkRat q S.toNat,mkRat v S.toNat),none,[]⟩));rw[←Zx] at hO;simp only[←Zx] at j;clear Zx;have m:=j (A+B-C-D) (2*(E-F)) (2*(G+H)) (by omega) (by omega) (by omega);have o2:=j (2*(E+F)) (A-B+C-D) (2*(I-J)) (by omega) (by omega) (by omega);have o3:=j (2*(G-H)) (2*(I+J)) (A-B-C+D) (by omega) (by omega) (by omega);rw[←e1] at m;rw[←e2] at o2;rw[←e3] at o3;obtain⟨U,D'⟩:=xE fD;obtain⟨Fu,o⟩:=rO (p:=fun e (_:Bool)=>(ad e 2=.ptr 1 0∧ad e 3=.int .i64 w∧ad e 4=.int .i64 x∧ad e 5=.int .i64 y∧ad e 6=.int .i64 z∧ad e 8=.func 260 [.ptr 2 0])) (q:=fun env (_:Bool) AC =>dN (aV prog) O 133 0 U U.toList ⟨env,R,false⟩=some ⟨AC,R.set 1 (.cells true 0 (mC (r1,r2,r3))),false⟩∧ad AC 2=.ptr 1 0) (fun env _ h=>by obtain⟨Z,h3,V,Y,W,h8⟩:=h;subst D';obtain⟨E0,R0,a2,a3,a4,a5,a6,a8,a65⟩:=Mz (O:=O) (m0:=0) (ops:=fD) (mem:=R) (d:=false) h3 V Y W h8 pA pB pC pD pE pF pG pH u1 (wr (A+B-C) (by omega)) (wr (A+B-C-D) (by omega)) (wr (E-F) (by omega)) (wr (2*(E-F)) (by omega)) (wr (G+H) (by omega)) (wr (2*(G+H)) (by omega)) m;obtain⟨E1,R1,b2,b3,b4,b5,b6,b8,b65,b98⟩:=MA (O:=O) (m0:=0) (ops:=fD) (mem:=R) (d:=false) a3 a4 a5 a6 a8 a65 pA pB pC pD pE pF pI pJ (wr (E+F) (by omega)) (wr (2*(E+F)) (by omega)) (wr (A-B) (by omega)) (wr (A-B+C) (by omega)) (wr (A-B+C-D) (by omega)) (wr (I-J) (by omega)) (wr (2*(I-J)) (by omega)) o2;obtain⟨E2,R2,c2⟩:=MB (O:=O) (m0:=0) (ops:=fD) (mem:=R) (d:=false) b3 b4 b5 b6 b8 (b2.trans (a2.trans Z)) b65 b98 pA pB pC pD pG pH pI pJ (wr (G-H) (by omega)) (wr (2*(G-H)) (by omega)) (wr (I+J) (by omega)) (wr (2*(I+J)) (by omega)) (wr (A-B) (by omega)) (wr (A-B-C) (by omega)) (wr (A-B-C+D) (by omega)) o3 ⟨_,_,Yh⟩ rfl rfl;exact⟨E2,by rw[Ju];exact ea R0 (ea R1 R2),c2⟩)
 have XV:=fun env Z h3 V Y W h8=>(o env false ⟨Z,h3,V,Y,W,h8⟩).1
 have XZ:=fun env Z h3 V Y W h8=>(o env false ⟨Z,h3,V,Y,W,h8⟩).2
 have hb:f216.body=some (.seq (.region 0 (gi 0) false) (.seq (.region 1 (gi 1) true) (.seq (.region 2 (gi 2) false) (.seq (.region 3 (gi 3) false) (.seq (.region 4 U false) .ret))))):=by rw[D'];kernel_rfl
 subst Yh;refine ak hO ?_ M;clear o hO j m o2 o3 e1 e2 e3;obtain⟨m,u⟩:=xE (gi 1);have UV:dT m.toList=[0,1,0,4,0,16,0,64,3,271,831,2047]:=by rw[u];kernel_rfl
 have YC:fc [0,1,0,4,0,16,0,64,3,271,831,2047] 11=true:=by decide
 have Yz :gi 1=m:=u.symm;unfold aa;rw[hG];dsimp only;rw[hb];dsimp only;rw[Yz];clear Yz hb;simp[gi,f216] at u;subst u;simp[-aK,ao UV,br,bk,bl,YC,XV,XZ,gi,f216,pA,pB,pC,pD,u1,u2,u3,mC]
end Go.Proofs
