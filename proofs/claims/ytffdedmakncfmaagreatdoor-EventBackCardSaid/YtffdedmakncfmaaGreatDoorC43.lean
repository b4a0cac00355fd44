/- See C54. -/
import Derived.Test.YtffdedmakncfmaaGreatDoorC41
import Derived.Test.YtffdedmakncfmaaGreatDoorC42
set_option linter.all false
set_option maxRecDepth 100000
set_option maxHeartbeats 40000000
namespace Go.Proofs
open Go.Eng
open Tryz
def idM:M3:=((1,0,0),(0,1,0),(0,0,1))
def v0:V3:=(0,0,0)
theorem Nb(M:Mem):kO prog 85 [] M (.agg (mC idM)) M:=by refine cK (aw _) (lv:=ae) (K:=6) rfl rfl ?_ M;as_aux_lemma=>kernel_rfl
theorem iJ:vDg 2 idM.1∧vDg 2 idM.2.1∧vDg 2 idM.2.2∧vDg 2 v0:=by have z:dg 2 2 (0:Rat):=⟨by decide,by decide⟩;have o:dg 2 2 (1:Rat):=⟨by decide,by decide⟩;exact⟨⟨o,z,z⟩,⟨z,o,z⟩,⟨z,z,o⟩,z,z,z⟩
theorem LI:afC idM v0:=⟨tz (iJ.1.mono (by decide)),tz (iJ.2.1.mono (by decide)),tz (iJ.2.2.1.mono (by decide)),tz (iJ.2.2.2.mono (by decide))⟩
theorem Na(M:Mem):kO prog 84 [.agg (mC idM),vA v0] M (.tuple [afA idM v0,.int .i64 0]) M:=by
 have R:aS prog 84=some f84:=by kernel_rfl
 have V:qS prog (afF.or (ag (cc [(49,[afA idM v0],.int .i64 0)])) (ag mO)):=qS.or (cD fun e U M=>by rw[List.mem_singleton] at U;rw[U];exact jg LI M) ph
 refine ao V ?_ M;clear V;obtain⟨S,Z⟩:∃S,aG f84=[S]:=⟨_,rfl⟩
 have X:=kJ Z (l:=[0,1,3,0,8,31,0,64,255,511,0,1535,4095,0,16383]) (by kernel_rfl);simp[aG,bQ,f84] at Z;subst Z;unfold idM v0;obtain⟨z,Q⟩:=xE (ax 0);obtain⟨o,O⟩:=xE (ax 1);simp[aa,R,f84,afF.or,cc,ag,mO,afA,mC,vL,vA,←Q,←O,bN,aF,-aH,bE X,dh,fu,fJ,dw,dE,jQ,bef,oO,Nat.testBit]
theorem mK(M:Mem):kO prog 43 [] M (afA idM v0) M:=by
 have X:aS prog 43=some f43:=by kernel_rfl
 have V:qS prog (ag (cc [(85,[],.agg (mC idM)),(84,[.agg (mC idM),vA v0],.tuple [afA idM v0,.int .i64 0])])):=cD fun e Z M=>by
  simp only[lM] at Z;rcases Z with rfl | rfl
  ·exact Nb M
  ·exact Na M
 have z:ax 0=[48]:=rfl;refine ao V ?_ M;simp[aa,X,f43,cc,ag,afA,mC,vL,vA,v0,z,bN]
section
variable {pv tv b u sv kn:AV}{c:Evc}{x:Int}{M:Mem}{us:List (List UInt8)}{ub:Nat}{o:Bool}
theorem nS(H:pv.afR=true∧tv.afR=true)(hk:(c.k=1∨c.k=4)∨(c.k=2∧x=0))(I:b.afR=true)(J:u.afR=true)(hs:sv.afR=true)(W:kn.afR=true)(y:∀Z,kO prog 42 [.agg [pv,tv],.agg (c.cells b u sv kn),.int .i64 x] (M++Z) (.int .i64 0) (M++Z)):
  kO prog 14 [.agg [pv,tv],.agg (c.cells b u sv kn),.int .i64 x] M (.tuple [afA idM v0,.int .i64 0]) M:=by
 have V:aS prog 14=some f14:=by kernel_rfl
 have X:∀s,(AV.str s).afR=true:=fun _=>rfl
 have R:∀k n,(AV.int k n).afR=true:=fun _ _=>rfl
 obtain⟨Q,O⟩:=H;have U:qS prog (afF.or (gH 42 [.agg [pv,tv],.agg (c.cells b u sv kn),.int .i64 x] (.int .i64 0) (fun N=>∃Z,N=M++Z)) (ag (cc [(43,[],afA idM v0),(49,[afA idM v0],.int .i64 0)]))):=qS.or (iM fun N ⟨Z,hZ⟩=>by subst hZ;exact y Z) (cD fun e S M=>by
  simp only[lM] at S;rcases S with rfl | rfl
  ·exact mK M
  ·exact jg LI M)
 clear y;refine er U ?_;clear U;unfold afA;rcases hk with (hk | hk) | ⟨hk,rfl⟩
 ·simp[-AV.afR,X,aa,V,f14,afF.or,gH,ag,cc,Evc.cells,mC,vL,hk]
 ·simp[-AV.afR,X,aa,V,f14,afF.or,gH,ag,cc,Evc.cells,mC,vL,hk]
 ·simp[-AV.afR,X,aa,V,f14,afF.or,gH,ag,cc,Evc.cells,mC,vL,hk]
end
def loK(k:Int):Int:=if k=1 then -2 else 0
section
variable {c:Evc}{b u sv kn:AV}{M:Mem}{ub kb nu nk:Nat}{n:Int}
section
variable (hb:b.afR=true)
include hb
theorem IW(y:u=.slice ub 0 nu none)(hs:sv.afR=true)(H:kn.afR=true)(I:nu≤1000):kO prog 160 [.agg (c.cells b u sv kn)] M (.int .i64 ((nu:Int)-1)) M:=by
 have Z:aS prog 160=some f160:=by kernel_rfl
 subst y;have w1:IntKind.i64.wrap ((nu:Int)-1)=(nu:Int)-1:=af;have h:aa (bh prog) (fun _=>[]) (aS prog) cF 1 160 [.agg (c.cells b (.slice ub 0 nu none) sv kn)] M=some ⟨.int .i64 ((nu:Int)-1),none,[]⟩:=by simp[-AV.afR,aa,Z,f160,Evc.cells,w1]
 have:=(ar aj (aK _) (aw _) (aR _) h).1;simpa [y9.mem] using this
section
variable (hu:u.afR=true)(hs:sv.afR=true)
include hu hs
theorem IX(y:kn.afR=true):kO prog 165 [.agg (c.cells b u sv kn)] M (.int .i64 1) M:=by
 have Z:aS prog 165=some f165:=by kernel_rfl
 refine er (aw _) ?_;simp[-AV.afR,aa,Z,f165,Evc.cells]
theorem IY(y:kn=.slice kb 0 nk none):kO prog 169 [.agg (c.cells b u sv kn)] M (.int .i64 (nk:Int)) M:=by
 have Z:aS prog 169=some f169:=by kernel_rfl
 subst y;have h:aa (bh prog) (fun _=>[]) (aS prog) cF 1 169 [.agg (c.cells b u sv (.slice kb 0 nk none))] M=some ⟨.int .i64 (nk:Int),none,[]⟩:=by simp[-AV.afR,aa,Z,f169,Evc.cells]
 have:=(ar aj (aK _) (aw _) (aR _) h).1;simpa [y9.mem] using this
theorem IZ(y:kn.afR=true):kO prog 174 [.agg (c.cells b u sv kn)] M (.int .i64 2) M:=by
 have Z:aS prog 174=some f174:=by kernel_rfl
 refine er (aw _) ?_;simp[-AV.afR,aa,Z,f174,Evc.cells]
theorem I2(y:kn.afR=true):kO prog 179 [.agg (c.cells b u sv kn)] M (.int .i64 0) M:=by
 have Z:aS prog 179=some f179:=by kernel_rfl
 refine er (aw _) ?_;simp[-AV.afR,aa,Z,f179,Evc.cells]
end
end
end
noncomputable def fQ:Array Oper:=match f146.body with
 |some (.seq _ (.seq _ (.seq _ (.seq _ (.seq (.region _ ops _) _)))))=>ops
 |_=> #[]
noncomputable def so:List Oper:=(fQ.toList.drop 0).take 33
noncomputable def ss:List Oper:=(fQ.toList.drop 33).take 33
noncomputable def su:List Oper:=(fQ.toList.drop 66).take 35
theorem Lm:fQ.toList=so++(ss++su):=by kernel_rfl
section
variable {O:afF}{m0:Nat}{ops:Array Oper}{env:Env}{mem:Mem}{d:Bool}{w x y z A B C D E F G H I J K1 K2 K3 K4 K5 K6 K7 K8 K9 S1 S4 S5 S6 S7 S8 S9 S10 S11 S12 S13:Int}{r1 r2 r3:V3}
section
variable (h3:ad env 3=.int .i64 w)(h4:ad env 4=.int .i64 x)(h5:ad env 5=.int .i64 y)(h6:ad env 6=.int .i64 z)(h8:ad env 8=.func 214 [.ptr 2 0])
include h3 h4 h5 h6 h8
theorem OF(pA:IntKind.i64.wrap (w*w)=A)(W:IntKind.i64.wrap (x*x)=B)(pC:IntKind.i64.wrap (y*y)=C)(Y:IntKind.i64.wrap (z*z)=D)(pE:IntKind.i64.wrap (x*y)=E)(pF:IntKind.i64.wrap (w*z)=F)(pG:IntKind.i64.wrap (x*z)=G)(pH:IntKind.i64.wrap (w*y)=H)(u1:IntKind.i64.wrap (A+B)=S1)(u4:IntKind.i64.wrap (S1-C)=S4)(q1:IntKind.i64.wrap (S4-D)=K1)(u5:IntKind.i64.wrap (E-F)=S5)(q2:IntKind.i64.wrap (2*S5)=K2)(u6:IntKind.i64.wrap (G+H)=S6)(q3:IntKind.i64.wrap (2*S6)=K3)(hO:O (.fn 214) [.int .i64 K1,.int .i64 K2,.int .i64 K3,.ptr 2 0] mem=some ⟨vA r1,none,[]⟩):
  ∃Z,dF (bh prog) O 133 m0 ops so ⟨env,mem,d⟩=some ⟨Z,mem,d⟩∧ad Z 2=ad env 2∧ad Z 3=.int .i64 w∧ad Z 4=.int .i64 x∧ad Z 5=.int .i64 y∧ad Z 6=.int .i64 z∧ad Z 8=.func 214 [.ptr 2 0]∧ad Z 65=vA r1:=by
 unfold vA at*;simp[so,fQ,f146,h3,h4,h5,h6,h8,pA,W,pC,Y,pE,pF,pG,pH,u1,u4,q1,u5,q2,u6,q3,hO]
theorem OG(W:ad env 65=vA r1)(pA:IntKind.i64.wrap (w*w)=A)(pB:IntKind.i64.wrap (x*x)=B)(pC:IntKind.i64.wrap (y*y)=C)(pD:IntKind.i64.wrap (z*z)=D)(pE:IntKind.i64.wrap (x*y)=E)(pF:IntKind.i64.wrap (w*z)=F)(pI:IntKind.i64.wrap (y*z)=I)(pJ:IntKind.i64.wrap (w*x)=J)(u7:IntKind.i64.wrap (E+F)=S7)(q4:IntKind.i64.wrap (2*S7)=K4)(u8:IntKind.i64.wrap (A-B)=S8)(u9:IntKind.i64.wrap (S8+C)=S9)(q5:IntKind.i64.wrap (S9-D)=K5)(Y:IntKind.i64.wrap (I-J)=S10)(q6:IntKind.i64.wrap (2*S10)=K6)(hO:O (.fn 214) [.int .i64 K4,.int .i64 K5,.int .i64 K6,.ptr 2 0] mem=some ⟨vA r2,none,[]⟩):
  ∃Z,dF (bh prog) O 133 m0 ops ss ⟨env,mem,d⟩=some ⟨Z,mem,d⟩∧ad Z 2=ad env 2∧ad Z 3=.int .i64 w∧ad Z 4=.int .i64 x∧ad Z 5=.int .i64 y∧ad Z 6=.int .i64 z∧ad Z 8=.func 214 [.ptr 2 0]∧ad Z 65=vA r1∧ad Z 98=vA r2:=by
 unfold vA at*;simp[ss,fQ,f146,h3,h4,h5,h6,h8,W,pA,pB,pC,pD,pE,pF,pI,pJ,u7,q4,u8,u9,q5,Y,q6,hO]
theorem OH(h2:ad env 2=.ptr 1 0)(W:ad env 65=vA r1)(k98:ad env 98=vA r2)(pA:IntKind.i64.wrap (w*w)=A)(pB:IntKind.i64.wrap (x*x)=B)(pC:IntKind.i64.wrap (y*y)=C)(pD:IntKind.i64.wrap (z*z)=D)(pG:IntKind.i64.wrap (x*z)=G)(pH:IntKind.i64.wrap (w*y)=H)(pI:IntKind.i64.wrap (y*z)=I)(pJ:IntKind.i64.wrap (w*x)=J)(u11:IntKind.i64.wrap (G-H)=S11)(q7:IntKind.i64.wrap (2*S11)=K7)(u12:IntKind.i64.wrap (I+J)=S12)(q8:IntKind.i64.wrap (2*S12)=K8)(u8:IntKind.i64.wrap (A-B)=S8)(u13:IntKind.i64.wrap (S8-C)=S13)(q9:IntKind.i64.wrap (S13+D)=K9)(hO:O (.fn 214) [.int .i64 K7,.int .i64 K8,.int .i64 K9,.ptr 2 0] mem=some ⟨vA r3,none,[]⟩)(hm:∃X Y,mem=[X,.cells true 0 [.str [],.str [],.str [],.str [],.str [],.str [],.str [],.str [],.str []],Y])(hm0:m0=0)(hd:d=false):
  ∃Z,dF (bh prog) O 133 m0 ops su ⟨env,mem,d⟩=some ⟨Z,mem.set 1 (.cells true 0 (mC (r1,r2,r3))),d⟩∧ad Z 2=.ptr 1 0:=by
 obtain⟨X,Y,rfl⟩:=hm;subst hm0 hd;unfold vA at*;simp[su,fQ,f146,h3,h4,h5,h6,h8,h2,W,k98,pA,pB,pC,pD,pG,pH,pI,pJ,u11,q7,u12,q8,u8,u13,q9,hO,mC,bN]
end
end
theorem fq{a b:Int}(y:a.natAbs≤20)(H:b.natAbs≤20): -400≤a*b∧a*b≤400:=by have:=ZI y H;omega
noncomputable def gS(k:Nat):Array Oper:=match f146.body with
 |some (.seq (.region _ a _) (.seq (.region _ b _) (.seq (.region _ c _) (.seq (.region _ e _) _))))=>if k=0 then a else if k=1 then b else if k=2 then c else e
 |_=> #[]
theorem NL{t:I4}(ht:tLe 20 t)(hz:¬xW t)(M:Mem):kO prog 146 [tA t] M (.agg (mC (A5 t))) M:=by
 have hG:aS prog 146=some f146:=by kernel_rfl
 have X:=Bu hz;obtain⟨w,x,y,z⟩:=t;obtain⟨Q,Z,h3,V⟩:=ht;simp only at Q Z h3 V X;unfold A5 E5 tA;simp only;obtain⟨lA,nA⟩:=fq Q Q;obtain⟨lB,nB⟩:=fq Z Z;obtain⟨lC,nC⟩:=fq h3 h3;obtain⟨lD,nD⟩:=fq V V;obtain⟨lE,nE⟩:=fq Z h3;obtain⟨lF,nF⟩:=fq Q V;obtain⟨lG,nG⟩:=fq Z V;obtain⟨lH,nH⟩:=fq Q h3;obtain⟨lI,nI⟩:=fq h3 V;obtain⟨lJ,nJ⟩:=fq Q Z;obtain⟨A,hA⟩:=xE (w*w);obtain⟨B,hB⟩:=xE (x*x);obtain⟨C,hC⟩:=xE (y*y);obtain⟨D,hD⟩:=xE (z*z);obtain⟨E,hE⟩:=xE (x*y);obtain⟨F,hF⟩:=xE (w*z);obtain⟨G,L⟩:=xE (x*z);obtain⟨H,hH⟩:=xE (w*y);obtain⟨I,hI⟩:=xE (y*z);obtain⟨J,hJ⟩:=xE (w*x);rw[←hA] at lA nA X;rw[←hB] at lB nB X;rw[←hC] at lC nC X;rw[←hD] at lD nD X;rw[←hE] at lE nE;rw[←hF] at lF nF;rw[←L] at lG nG;rw[←hH] at lH nH;rw[←hI] at lI nI;rw[←hJ] at lJ nJ;rw[←hA,←hB,←hC,←hD,←hE,←hF,←L,←hH,←hI,←hJ];clear Q Z h3 V;have wr:∀n:Int,-1000000≤n∧n≤1000000→IntKind.i64.wrap n=n:=fun n h=>jN h.1 h.2
 have pA:IntKind.i64.wrap (w*w)=A:=by rw[←hA];exact wr A (by omega)
 have pB:IntKind.i64.wrap (x*x)=B:=by rw[←hB];exact wr B (by omega)
 have pC:IntKind.i64.wrap (y*y)=C:=by rw[←hC];exact wr C (by omega)
 have pD:IntKind.i64.wrap (z*z)=D:=by rw[←hD];exact wr D (by omega)
 have pE:IntKind.i64.wrap (x*y)=E:=by rw[←hE];exact wr E (by omega)
 have pF:IntKind.i64.wrap (w*z)=F:=by rw[←hF];exact wr F (by omega)
 have pG:IntKind.i64.wrap (x*z)=G:=by rw[←L];exact wr G (by omega)
 have pH:IntKind.i64.wrap (w*y)=H:=by rw[←hH];exact wr H (by omega)
 have pI:IntKind.i64.wrap (y*z)=I:=by rw[←hI];exact wr I (by omega)
 have pJ:IntKind.i64.wrap (w*x)=J:=by rw[←hJ];exact wr J (by omega)
 clear hA hB hC hD hE hF L hH hI hJ;obtain⟨S,hS⟩:=xE (A+B+C+D);have pS:0<S:=by omega
 have lS:S.natAbs≤1000000:=by omega
 have u1:=wr (A+B) (by omega);have u2:=wr (A+B+C) (by omega);have u3:IntKind.i64.wrap (A+B+C+D)=S:=by rw[←hS];exact wr S (by omega)
 rw[←hS];obtain⟨r1,e1⟩:=xE (α:=V3) (mkRat (A+B-C-D) S.toNat,mkRat (2*(E-F)) S.toNat,mkRat (2*(G+H)) S.toNat);obtain⟨r2,e2⟩:=xE (α:=V3) (mkRat (2*(E+F)) S.toNat,mkRat (A-B+C-D) S.toNat,mkRat (2*(I-J)) S.toNat);obtain⟨r3,e3⟩:=xE (α:=V3) (mkRat (2*(G-H)) S.toNat,mkRat (2*(I+J)) S.toNat,mkRat (A-B-C+D) S.toNat);rw[←e1,←e2,←e3];obtain⟨R,u⟩:=xE (α:=Mem) [.cells true 0 [.int .i64 w,.int .i64 x,.int .i64 y,.int .i64 z],.cells true 0 [.str [],.str [],.str [],.str [],.str [],.str [],.str [],.str [],.str []],.cells true 0 [.int .i64 S]];have hO:qS prog (o9 fun c a N r=>∃p q v:Int,(c=.fn 214∧a=[.int .i64 p,.int .i64 q,.int .i64 v,.ptr 2 0]∧N=R)∧(p.natAbs≤1000000∧q.natAbs≤1000000∧v.natAbs≤1000000)∧r=⟨vA (mkRat p S.toNat,mkRat q S.toNat,mkRat v S.toNat),none,[]⟩):=uf fun c a N r ⟨p,q,v,⟨Q,Z,h3⟩,⟨g1,g2,g3⟩,V⟩=>by subst Q Z h3 V u;exact aC (by simpa [y9.mem] using NK p q v S pS lS g1 g2 g3 _ _)
 have Y:∀p q v:Int,p.natAbs≤1000000→q.natAbs≤1000000→v.natAbs≤1000000→o9 (fun c a N r=>∃p q v:Int,(c=.fn 214∧a=[.int .i64 p,.int .i64 q,.int .i64 v,.ptr 2 0]∧N=R)∧(p.natAbs≤1000000∧q.natAbs≤1000000∧v.natAbs≤1000000)∧r=⟨vA (mkRat p S.toNat,mkRat q S.toNat,mkRat v S.toNat),none,[]⟩) (.fn 214) [.int .i64 p,.int .i64 q,.int .i64 v,.ptr 2 0] R=some ⟨vA (mkRat p S.toNat,mkRat q S.toNat,mkRat v S.toNat),none,[]⟩:=fun p q v g1 g2 g3=>gx ⟨p,q,v,⟨rfl,rfl,rfl⟩,⟨g1,g2,g3⟩,rfl⟩ fun r' ⟨p',q',v',⟨_,Z,_⟩,_,V⟩=>by simp only[List.cons.injEq,AV.int.injEq,true_and,and_true] at Z;obtain⟨rfl,rfl,rfl⟩:=Z;exact V
 obtain⟨O,o⟩:=xE (o9 (fun c a N r=>∃p q v:Int,(c=.fn 214∧a=[.int .i64 p,.int .i64 q,.int .i64 v,.ptr 2 0]∧N=R)∧(p.natAbs≤1000000∧q.natAbs≤1000000∧v.natAbs≤1000000)∧r=⟨vA (mkRat p S.toNat,mkRat q S.toNat,mkRat v S.toNat),none,[]⟩));rw[←o] at hO;simp only[←o] at Y;clear o;have j:=Y (A+B-C-D) (2*(E-F)) (2*(G+H)) (by omega) (by omega) (by omega);have o2:=Y (2*(E+F)) (A-B+C-D) (2*(I-J)) (by omega) (by omega) (by omega);have o3:=Y (2*(G-H)) (2*(I+J)) (A-B-C+D) (by omega) (by omega) (by omega);rw[←e1] at j;rw[←e2] at o2;rw[←e3] at o3;obtain⟨U,D'⟩:=xE fQ;obtain⟨Fu,m⟩:=qJ (p:=fun e (_:Bool)=>(ad e 2=.ptr 1 0∧ad e 3=.int .i64 w∧ad e 4=.int .i64 x∧ad e 5=.int .i64 y∧ad e 6=.int .i64 z∧ad e 8=.func 214 [.ptr 2 0])) (q:=fun env (_:Bool) AC =>dF (bh prog) O 133 0 U U.toList ⟨env,R,false⟩=some ⟨AC,R.set 1 (.cells true 0 (mC (r1,r2,r3))),false⟩∧ad AC 2=.ptr 1 0) (fun env _ h=>by obtain⟨Z,h3,V,W,h6,h8⟩:=h;subst D';obtain⟨E0,R0,a2,a3,a4,a5,a6,a8,a65⟩:=OF (O:=O) (m0:=0) (ops:=fQ) (mem:=R) (d:=false) h3 V W h6 h8 pA pB pC pD pE pF pG pH u1 (wr (A+B-C) (by omega)) (wr (A+B-C-D) (by omega)) (wr (E-F) (by omega)) (wr (2*(E-F)) (by omega)) (wr (G+H) (by omega)) (wr (2*(G+H)) (by omega)) j;obtain⟨E1,R1,b2,b3,b4,b5,b6,b8,b65,b98⟩:=OG (O:=O) (m0:=0) (ops:=fQ) (mem:=R) (d:=false) a3 a4 a5 a6 a8 a65 pA pB pC pD pE pF pI pJ (wr (E+F) (by omega)) (wr (2*(E+F)) (by omega)) (wr (A-B) (by omega)) (wr (A-B+C) (by omega)) (wr (A-B+C-D) (by omega)) (wr (I-J) (by omega)) (wr (2*(I-J)) (by omega)) o2;obtain⟨E2,R2,c2⟩:=OH (O:=O) (m0:=0) (ops:=fQ) (mem:=R) (d:=false) b3 b4 b5 b6 b8 (b2.trans (a2.trans Z)) b65 b98 pA pB pC pD pG pH pI pJ (wr (G-H) (by omega)) (wr (2*(G-H)) (by omega)) (wr (I+J) (by omega)) (wr (2*(I+J)) (by omega)) (wr (A-B) (by omega)) (wr (A-B-C) (by omega)) (wr (A-B-C+D) (by omega)) o3 ⟨_,_,u⟩ rfl rfl;exact⟨E2,by rw[Lm];exact dM R0 (dM R1 R2),c2⟩)
 have hF1:=fun env Z h3 V W h6 h8=>(m env false ⟨Z,h3,V,W,h6,h8⟩).1
 have hF2:=fun env Z h3 V W h6 h8=>(m env false ⟨Z,h3,V,W,h6,h8⟩).2
 have hb:f146.body=some (.seq (.region 0 (gS 0) false) (.seq (.region 1 (gS 1) true) (.seq (.region 2 (gS 2) false) (.seq (.region 3 (gS 3) false) (.seq (.region 4 U false) .ret))))):=by rw[D'];kernel_rfl
 subst u;refine ao hO ?_ M;clear m hO Y j o2 o3 e1 e2 e3;obtain⟨j,K⟩:=xE (gS 1);have PP:dm j.toList=[0,1,0,4,0,16,0,64,3,271,831,2047]:=by rw[K];kernel_rfl
 have hab:dH [0,1,0,4,0,16,0,64,3,271,831,2047] 11=true:=by decide
 have h1' :gS 1=j:=K.symm;unfold aa;rw[hG];dsimp only;rw[hb];dsimp only;rw[h1'];clear h1' hb;simp[gS,f146] at K;subst K;simp[-aH,ak PP,be,aV,aX,hab,hF1,hF2,gS,f146,pA,pB,pC,pD,u1,u2,u3,mC]
end Go.Proofs
