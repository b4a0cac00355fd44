/- See B54. -/
import Derived.Test.YtffdedmakncfmaaGreatDoorB25
set_option linter.all false
set_option maxRecDepth 100000
set_option maxHeartbeats 40000000
namespace Go.Proofs
open Go.Eng
open Tryz
theorem Mm(a b c:P2)(ha:pDg 3000 a)(hb:pDg 3000 b)(hc:pDg 3000 c)(M:Mem):kO prog 233 [pA a,pA b,pA c] M (.str (aB (Af a b c))) M:=by
 have hG:aT prog 233=some f233:=by kernel_rfl
 obtain⟨j,Y⟩:=a;obtain⟨b1,b2⟩:=b;obtain⟨c1,c2⟩:=c;obtain⟨Q,O⟩:=ha;obtain⟨N,L⟩:=hb;obtain⟨K,G⟩:=hc;simp only at Q O N L K G;have F:=KN N Q (m:=6000) (by omega) (by omega);have D:=KN G O (m:=6000) (by omega) (by omega);have C:=KN L O (m:=6000) (by omega) (by omega);have B:=KN K Q (m:=6000) (by omega) (by omega);have W:=il F D;have J:=il C B;obtain⟨p1,p2⟩:=cY Q (by omega) (by omega) (by omega) (by omega);obtain⟨p3,p4⟩:=cY O (by omega) (by omega) (by omega) (by omega);obtain⟨q1,q2⟩:=cY N (by omega) (by omega) (by omega) (by omega);obtain⟨q3,q4⟩:=cY L (by omega) (by omega) (by omega) (by omega);obtain⟨r1,r2⟩:=cY K (by omega) (by omega) (by omega) (by omega);obtain⟨r3,r4⟩:=cY G (by omega) (by omega) (by omega) (by omega);obtain⟨I,H⟩:=cY F (by omega) (by omega) (by omega) (by omega);obtain⟨y,s4⟩:=cY D (by omega) (by omega) (by omega) (by omega);obtain⟨s5,s6⟩:=cY C (by omega) (by omega) (by omega) (by omega);obtain⟨s7,s8⟩:=cY B (by omega) (by omega) (by omega) (by omega);obtain⟨t1,t2⟩:=cY W (by omega) (by omega) (by omega) (by omega);obtain⟨t3,t4⟩:=cY J (by omega) (by omega) (by omega) (by omega);clear W J F D C B Q O N L K G;unfold Af;simp only;obtain⟨x1,Z⟩:=xE (b1-j);obtain⟨x2,X⟩:=xE (c2-Y);obtain⟨x3,V⟩:=xE (b2-Y);obtain⟨x4,U⟩:=xE (c1-j);rw[←Z] at I H t1 t2;rw[←X] at y s4 t1 t2;rw[←V] at s5 s6 t3 t4;rw[←U] at s7 s8 t3 t4;rw[←Z,←X,←V,←U];obtain⟨y1,S⟩:=xE (x1*x2);obtain⟨y2,R⟩:=xE (x3*x4);rw[←S] at t1 t2;rw[←R] at t3 t4;rw[←S,←R];refine ao cO ?_ M;obtain⟨o1,o2,u⟩:∃o1 o2,aJ f233=[o1,o2]:=⟨_,_,rfl⟩
 obtain⟨o,YL⟩:=KQ u (l:=[0,1,0,4,15,0,32,0,128,511,1023,2047]) (l' :=[0,0,2,0,8,30,0,64,0,256,1022,2046,4095,8191]) (by kernel_rfl);have k1:dS [0,1,0,4,15,0,32,0,128,511,1023,2047] 11=true:=by decide
 have k2:dS [0,0,2,0,8,30,0,64,0,256,1022,2046,4095,8191] 13=true:=by decide
 simp[aJ,bU,f233] at u;obtain⟨rfl,rfl⟩:=u;simp[aa,hG,f233,-aK,aq o,aq YL,bm,aZ,bl,k1,k2,pA,az,af,be,bd,p1,p2,p3,p4,q1,q2,q3,q4,r1,r2,r3,r4,I,H,y,s4,s5,s6,s7,s8,t1,t2,t3,t4,←Z,←X,←V,←U,←S,←R,Nat.testBit]
noncomputable def Bl(f:FuncId)(args:List AV):Option AV:=
 match f,args with
 |233,[.agg [.str a,.str b],.agg [.str c,.str d],.agg [.str e,.str f]]=>match ef a,ef b,ef c,ef d,ef e,ef f with
  |some a,some b,some c,some d,some e,some f=>if (ai a.num.natAbs).length≤2999∧(ai a.den).length≤2999∧(ai b.num.natAbs).length≤2999∧(ai b.den).length≤2999∧(ai c.num.natAbs).length≤2999∧(ai c.den).length≤2999∧
    (ai d.num.natAbs).length≤2999∧(ai d.den).length≤2999∧(ai e.num.natAbs).length≤2999∧(ai e.den).length≤2999∧(ai f.num.natAbs).length≤2999∧(ai f.den).length≤2999 then some (.str (aB (Af (a,b) (c,d) (e,f)))) else none
  |_,_,_,_,_,_=>none
 |f,args=>be f args
theorem Nk:qS prog (af Bl):=bH fun f U v h mem=>by
 unfold Bl at h;split at h
 ·split at h
  ·rename_i a b c d e f S R Q O N M
   split at h
   ·rename_i L
    obtain⟨K,G,F,D,C,B,u,o,m,Z,X,V⟩:=L;cases h;rw[aC S,aC R,aC Q,aC O,aC N,aC M];exact Mm (a,b) (c,d) (e,f) ⟨(de ⟨K,G⟩).mono (by omega) (by omega),(de ⟨F,D⟩).mono (by omega) (by omega)⟩
     ⟨(de ⟨C,B⟩).mono (by omega) (by omega),(de ⟨u,o⟩).mono (by omega) (by omega)⟩ ⟨(de ⟨m,Z⟩).mono (by omega) (by omega),(de ⟨X,V⟩).mono (by omega) (by omega)⟩ mem
   ·cases h
  ·cases h
 ·have:=cO.fn _ _ mem ⟨v,none,[]⟩ (by unfold af;simp only;rw[h])
  simpa [y9.mem] using this
theorem gb{n m:Nat}{q:Rat}(h:dg n n q)(h0:0<n)(y:n≤m):(ai q.num.natAbs).length≤m∧(ai q.den).length≤m:=by have:=h.lens h0 h0;exact⟨by omega,by omega⟩
theorem Mo(a b c:P2)(H:pDg 2999 a)(I:pDg 2999 b)(hc:pDg 2999 c)(M:Mem):kO prog 194 [pA a,pA b,pA c] M (.int .i64 (nQ (Af a b c))) M:=by
 have G:aT prog 194=some f194:=by kernel_rfl
 obtain⟨F,D⟩:=a;obtain⟨C,B⟩:=b;obtain⟨u,o⟩:=c;obtain⟨Z,X⟩:=gb H.1 (by omega) (Nat.le_refl _);obtain⟨V,U⟩:=gb H.2 (by omega) (Nat.le_refl _);obtain⟨S,R⟩:=gb I.1 (by omega) (Nat.le_refl _);obtain⟨Q,O⟩:=gb I.2 (by omega) (Nat.le_refl _);obtain⟨r1,r2⟩:=gb hc.1 (by omega) (Nat.le_refl _);obtain⟨N,L⟩:=gb hc.2 (by omega) (Nat.le_refl _);refine ao Nk ?_ M;simp only at Z X V U S R Q O r1 r2 N L;obtain⟨y,K⟩:=xE (Af (F,D) (C,B) (u,o));rw[←K];simp[aa,G,f194,pA,az,af,Bl,be,bd,bJ,bD,Z,X,V,U,S,R,Q,O,r1,r2,N,L,←K]
theorem kB(d:Nat)(x y:List UInt8):jy (ba prog) (d+1) 52 (.str x) (.str y)=some (x==y):=by rw[jy];simp
theorem RG(p q:P2):jy (ba prog) 20 100 (pA p) (pA q)=some (decide (p.1=q.1)&&decide (p.2=q.2)):=by have i:=kB 18;rw[jy];simp[pA,Rt,jm,TyI.isAgg,i,GP]
theorem Er(p:P2):∀(L:List P2) (i:Nat),p∉L→jz (ba prog) 100 (pA p) (L.map pmE) i=some none
 | [],i,_=>rfl
 |q::L,i,h=>by
  have e:=RG p q;have X:(decide (p.1=q.1)&&decide (p.2=q.2))=false:=by rw[←Bool.not_eq_true];intro Z;simp only[Bool.and_eq_true,decide_eq_true_eq] at Z;exact h (by rw[show p=q from Prod.ext Z.1 Z.2];exact List.mem_cons_self ..)
  simp only[List.map_cons,jz,pmE,e,X];exact Er p L (i+1) (fun Z=>h (List.mem_cons_of_mem _ Z))
theorem RH(p:P2):lU (ba prog) 20 100 (pA p)=true:=by simp[pA,lU,SX,jm,TyI.isAgg]
noncomputable def gn(f:FuncId)(args:List AV):Option AV:=
 match f,args with
 |194,[.agg [.str a,.str b],.agg [.str c,.str d],.agg [.str e,.str f]]=>match ef a,ef b,ef c,ef d,ef e,ef f with
  |some a,some b,some c,some d,some e,some f=>if (ai a.num.natAbs).length≤2998∧(ai a.den).length≤2998∧(ai b.num.natAbs).length≤2998∧(ai b.den).length≤2998∧(ai c.num.natAbs).length≤2998∧(ai c.den).length≤2998∧
    (ai d.num.natAbs).length≤2998∧(ai d.den).length≤2998∧(ai e.num.natAbs).length≤2998∧(ai e.den).length≤2998∧(ai f.num.natAbs).length≤2998∧(ai f.den).length≤2998 then some (.int .i64 (nQ (Af (a,b) (c,d) (e,f)))) else none
  |_,_,_,_,_,_=>none
 |193,[.agg [.str a,.str b]]=>if a.length≤1000000000∧b.length≤1000000000 then some (.int .i64 (yc [a,b])) else none
 |f,args=>be f args
theorem Bk:qS prog (af gn):=bH fun f S v h mem=>by
 unfold gn at h;split at h
 ·split at h
  ·rename_i a b c d e f R Q Z O N M
   split at h
   ·rename_i L
    obtain⟨K,G,F,D,C,B,u,o,m,X,V,U⟩:=L;cases h;rw[aC R,aC Q,aC Z,aC O,aC N,aC M];exact Mo (a,b) (c,d) (e,f) ⟨(de ⟨K,G⟩).mono (by omega) (by omega),(de ⟨F,D⟩).mono (by omega) (by omega)⟩
     ⟨(de ⟨C,B⟩).mono (by omega) (by omega),(de ⟨u,o⟩).mono (by omega) (by omega)⟩ ⟨(de ⟨m,X⟩).mono (by omega) (by omega),(de ⟨V,U⟩).mono (by omega) (by omega)⟩ mem
   ·cases h
  ·cases h
 ·split at h
  next Z=>cases h;exact mQ _ _ Z.1 Z.2 mem
  ·cases h
 ·have:=cO.fn _ _ mem ⟨v,none,[]⟩ (by unfold af;simp only;rw[h])
  simpa [y9.mem] using this
theorem W7{p:P2}(h:pDg 200 p):yc [aB p.1,aB p.2]=0:=by simp[yc,jx h.1,jx h.2]
noncomputable def oP(y:List P2)(H:List Tr):ae3:=fun c Z M=>match c,Z with
 |.fn 195,[.agg [.slice b 0 n none,.slice c 0 k none]]=>open Classical in if n=y.length∧k=H.length∧(∃o,M[b]? =some (.cells o 2 (pC y)))∧(∃o,M[c]? =some (.cells o 3 (tC H))) then some ⟨.bool true,none,[]⟩ else none
 |c,Z=>af gn c Z M
def vH(c:Code):List Nat:=if (ad c).contains 32 then [32] else if (ad c).contains 48 then [48] else if (ad c).contains 53 then [53] else []
def msB(n k:Nat):afb:=.cells true 0 [.slice 0 0 n none,.slice 1 0 k none]
variable{K:Nat}{b b3 b4 b5:Code}
theorem xx(y:List P2)(H:List Tr)(J:∀p∈y,pDg 200 p)(W:y.Nodup)(hl:y.length≤1000000000)(hK:y.length<K){Y:Code}(I:ah f131=[b,Y,b3,b4,b5]):
  ∃F:Env→Bool→Env,∀Z d,(ab Z 30=.slice 0 0 y.length none∧ab Z 31=.int .i64 y.length∧ab Z 32=.int .i64 0∧ab Z 3=.map 3∧ab Z 1=.ptr 2 0)→
   bh (ba prog) vH (oP y H) K 105 2 true (.loop b) ⟨Z,[.cells false 2 (pC y),.cells false 3 (tC H),msB y.length H.length,.map []],d⟩=some (.exit 1,⟨F Z d,[.cells false 2 (pC y),.cells false 3 (tC H),msB y.length H.length,.map (y.map pmE)],d⟩)∧ab (F Z d) 1=.ptr 2 0:=by
 refine bj (L:=[32]) (by simp[ah,aE,f131] at I;rw[←I.1];rfl) (fun Z=>ab Z 30=.slice 0 0 y.length none∧ab Z 31=.int .i64 y.length∧ab Z 32=.int .i64 0∧ab Z 3=.map 3∧ab Z 1=.ptr 2 0) (fun _ o =>ab o 1=.ptr 2 0) ?_;rintro Z d ⟨YX,h31,h32,h3,V⟩;simp[ah,aE,f131] at I;obtain⟨I,-⟩:=I;have N:ay [32] (ad b) Z ((32,.int .i64 ((0:Nat):Int))::Z)=ay [32] (ad b) Z Z:=by simp[ay,h32]
 rw[←N];refine bx (α:=Nat) (fun n=>⟨ay [32] (ad b) Z ((32,.int .i64 (n:Int))::Z),[.cells false 2 (pC y),.cells false 3 (tC H),msB y.length H.length,.map ((y.take n).map pmE)],d⟩) (fun n=>y.length-n) (fun n=>n≤y.length) (.exit 1) _ d _ (by simp) ?_ K 0 (by omega) (by omega);intro n Zg;clear N;subst I;by_cases R:n<y.length
 ·left
  obtain⟨p,U⟩:∃q,y[n]? =some q:=⟨y[n],List.getElem?_eq_getElem R⟩
  obtain⟨M,k2,k3,k4⟩:=Tp U;have X:=J p (List.mem_of_getElem? U);have Q:p∉y.take n:=by intro O;obtain⟨j,hj,G⟩:=List.mem_iff_getElem.1 O;rw[List.length_take] at hj;rw[List.getElem_take] at G;have V:=List.getElem?_eq_some_iff.1 U;obtain⟨V,h2⟩:=V;have:=(List.getElem_inj (h₀:=by omega) (h₁:=V) W).1 (G.trans h2.symm);omega
  have f1:=Er p (y.take n) 0 Q;have f2:=RH p;have S:(y.take (n+1)).map pmE=(y.take n).map pmE++[pmE p]:=by rw[List.take_add_one,U];simp
  have w1:IntKind.i64.wrap ((n:Int)+1)=((n+1:Nat):Int):=by rw[ae];omega
  have D:=W7 X;have C:=lf X.1 (by omega) (by omega);have B:=lf X.2 (by omega) (by omega);obtain⟨m,O⟩:=xE (n+1);rw[←O] at w1 S;have r1:=GV 4 (y.take n);obtain⟨E,u⟩:=xE ((y.take n).map pmE);rw[←u] at f1 S r1;rw[←u];refine⟨m,?_⟩;obtain⟨px,py⟩:=p;simp only[pA,pmE] at f1 f2 S M D C B;simp[YX,h31,h3,R,oP,af,gn,M,k4,D,C,B,w1,f1,f2,S,r1,msB,uR,sf,kS,jI,eZ];omega
 ·right
  have e:y.take n=y:=List.take_of_length_le (by omega);rw[e];have T' :¬(n:Int)<y.length:=by omega
  simp[h31,V,R]
def XJ(y:List P2)(t:Tr):Prop:=∃p q r,y[t.1]? =some p∧y[t.2.1]? =some q∧y[t.2.2]? =some r∧0<nQ (Af p q r)
theorem xz(H:List P2)(y:List Tr)(E:List (AV×AV))(J:∀p∈H,pDg 200 p)(hT:∀t∈y,XJ H t)(hl:H.length≤1000000000)(Yb:y.length≤1000000000)(hE:E.flatMap (fun e=>e.1.refs 4++e.2.refs 4)=[])(hK:y.length<K+5){b1:Code}(I:ah f131=[b1,b,b3,b4,b5]):
  ∃F:Env→Bool→Env,∀Z d,(ab Z 1=.ptr 2 0∧ab Z 46=.slice 1 0 y.length none∧ab Z 47=.int .i64 y.length∧ab Z 48=.int .i64 0)→
   bh (ba prog) vH (oP H y) (K+5) 105 2 true (.loop b) ⟨Z,[.cells false 2 (pC H),.cells false 3 (tC y),msB H.length y.length,.map E],d⟩=some (.exit 3,⟨F Z d,[.cells false 2 (pC H),.cells false 3 (tC y),msB H.length y.length,.map E],d⟩)∧ab (F Z d) 1=.ptr 2 0:=by
 refine bj (L:=[48]) (by simp[ah,aE,f131] at I;rw[←I.2.1];rfl) (fun Z=>ab Z 1=.ptr 2 0∧ab Z 46=.slice 1 0 y.length none∧ab Z 47=.int .i64 y.length∧ab Z 48=.int .i64 0) (fun _ AC =>ab AC 1=.ptr 2 0) ?_;rintro Z d ⟨h1,h46,h47,h48⟩;obtain⟨X,O⟩:∃X,aJ f131=[X]:=⟨_,rfl⟩
 obtain⟨IR,YF⟩:=cD O (l:=[0,1,0,4,15,31,0,64,0,256,960,1984,0,4096,0,16384,61440,126976,262143,524287]) (j:=19) (by kernel_rfl) (by decide);simp[aJ,bU,f131] at O;simp[ah,aE,f131] at I;obtain⟨-,I,-⟩:=I;have Yi:ay [48] (ad b) Z ((48,.int .i64 ((0:Nat):Int))::Z)=ay [48] (ad b) Z Z:=by simp[ay,h48]
 rw[←Yi];refine bx (α:=Nat) (fun n=>⟨ay [48] (ad b) Z ((48,.int .i64 (n:Int))::Z),[.cells false 2 (pC H),.cells false 3 (tC y),msB H.length y.length,.map E],d⟩) (fun n=>y.length-n) (fun n=>n≤y.length) (.exit 3) _ d _ (by simp) ?_ (K+5) 0 (by omega) (by omega);intro n Zg;clear Yi;subst I;subst O;by_cases N:n<y.length
 ·left
  obtain⟨t,ht⟩:∃q,y[n]? =some q:=⟨y[n],List.getElem?_eq_getElem N⟩
  obtain⟨k1,k2⟩:=Xg ht;obtain⟨p,q,r,U,R,Q,V⟩:=hT t (List.mem_of_getElem? ht);obtain⟨M,G,D⟩:=t;simp only at U R Q k1;obtain⟨p1,-,-,p4⟩:=Tp U;obtain⟨q1,-,-,q4⟩:=Tp R;obtain⟨r1,-,-,r4⟩:=Tp Q;have a1:=gL U;have a2:=gL R;have a3:=gL Q;have C :¬((M:Int)<0):=by omega
  have B :¬((G:Int)<0):=by omega
  have u :¬((D:Int)<0):=by omega
  have o :¬((H.length:Int)≤M):=by omega
  have Y :¬((H.length:Int)≤G):=by omega
  have W :¬((H.length:Int)≤D):=by omega
  have g1:¬H.length≤M:=by omega
  have g2:¬H.length≤G:=by omega
  have g3:¬H.length≤D:=by omega
  have hp:=J p (List.mem_of_getElem? U);have hq:=J q (List.mem_of_getElem? R);have hr:=J r (List.mem_of_getElem? Q);obtain⟨p5,p6⟩:=gb hp.1 (by omega) (m:=2998) (by omega);obtain⟨p7,p8⟩:=gb hp.2 (by omega) (m:=2998) (by omega);obtain⟨q5,q6⟩:=gb hq.1 (by omega) (m:=2998) (by omega);obtain⟨q7,q8⟩:=gb hq.2 (by omega) (m:=2998) (by omega);obtain⟨r5,r6⟩:=gb hr.1 (by omega) (m:=2998) (by omega);obtain⟨r7,r8⟩:=gb hr.2 (by omega) (m:=2998) (by omega);obtain⟨px,py⟩:=p;obtain⟨qx,qy⟩:=q;obtain⟨rx,ry⟩:=r;simp only at p1 q1 r1 p5 p6 p7 p8 q5 q6 q7 q8 r5 r6 r7 r8;obtain⟨S,hS⟩:=xE (nQ (Af (px,py) (qx,qy) (rx,ry)));rw[←hS] at V;have YO:¬S≤0:=by omega
  have w1:IntKind.i64.wrap ((n:Int)+1)=((n+1:Nat):Int):=by rw[ae];omega
  obtain⟨m,hm⟩:=xE (n+1);rw[←hm] at w1;have v1:IntKind.i64.wrap 1=1:=rfl;have v2:IntKind.i64.wrap 2=2:=rfl;have v3:IntKind.i64.wrap 3=3:=rfl;have v2' :IntKind.i64.wrap (1+1)=2:=rfl;have v3' :IntKind.i64.wrap (2+1)=3:=rfl;refine⟨m,?_⟩;clear J hT;simp[h1,h46,h47,N,k1,k2,bp,gi,v1,v2,v3,vH,a1,a2,a3,C,B,u,o,Y,W,p1,q1,r1,p4,q4,r4,-aK,aq IR,bm,aZ,bl,YF,
   oP,af,gn,az,p5,p6,p7,p8,q5,q6,q7,q8,r5,r6,r7,r8,←hS,YO,hE,msB,uR,sf,w1,Nat.testBit]
  omega
 ·right
  have T' :¬(n:Int)<y.length:=by omega
  simp[h47,h1,N]
theorem UO:ba prog 314=some ⟨.func #[3] #[100] false,1,8,.nilFunc,true⟩:=by kernel_rfl
theorem UN:ba prog 291=some ⟨.func #[3] #[4] false,1,8,.nilFunc,true⟩:=by kernel_rfl
attribute [simp] UO UN
def cZ(y:List Nat):List AV:=y.map fun(n:Nat)=>.int .i64 (n:Int)
theorem Xy{y:List Nat}{i c:Nat}(h:y[i]? =some c):(cZ y)[i]? =some (.int .i64 (c:Int)):=by simp[cZ,h]
def CG(H:List P2)(y:List Nat)(i:Nat):P2:=H.getD (y.getD (i%y.length) 0) (0,0)
theorem CH{H:List P2}(I:∀p∈H,pDg 200 p)(y:List Nat)(i:Nat):pDg 200 (CG H y i):=by
 unfold CG;rw[List.getD_eq_getElem?_getD];cases h:H[y.getD (i%y.length) 0]? with
 |none=>exact⟨⟨by decide,by decide⟩,⟨by decide,by decide⟩⟩
 |some p=>exact I p (List.mem_of_getElem? h)
def upV(H:List P2)(y:List Nat)(i:Nat):Bool:=
 decide (0<we (CG H y (i+1)).2 (CG H y i).2)||(decide (we (CG H y (i+1)).2 (CG H y i).2=0)&&decide (0<we (CG H y (i+1)).1 (CG H y i).1))
def ly(H:List P2)(y:List Nat):Nat→Nat
 |0=>0
 |n+1=>ly H y n+if !upV H y n&&upV H y (n+1) then 1 else 0
def eP(H:List P2)(k:Nat)(y:List Nat):Mem:=[.cells false 2 (pC H),.qK,.cells false 1 (cZ y),.cells true 0 [.slice 0 0 H.length none,.slice 1 0 k none],.cells true 0 [.slice 2 0 y.length none],.cells true 0 [.int .i64 y.length],.cells true 0 [.func 268 [.ptr 3 0,.ptr 4 0,.ptr 5 0]]]
theorem Mr(H:List P2)(k:Nat)(y:List Nat)(hc:∀c∈y,c<H.length)(h0:y≠[])(i:Nat):
  kO prog 268 [.int .i64 i,.ptr 3 0,.ptr 4 0,.ptr 5 0] (eP H k y) (pA (CG H y i)) (eP H k y):=by
 have G:aT prog 268=some f268:=by kernel_rfl
 have F:0<y.length:=by cases y with | nil=>exact absurd rfl h0 | cons a l=>simp
 have V:i%y.length<y.length:=Nat.mod_lt _ F;obtain⟨c,Z⟩:∃c,y[i%y.length]? =some c:=⟨_,List.getElem?_eq_getElem V⟩
 have Q:=hc c (List.mem_of_getElem? Z);obtain⟨p,O⟩:∃p,H[c]? =some p:=⟨_,List.getElem?_eq_getElem Q⟩
 have U:CG H y i=p:=by unfold CG;rw[List.getD_eq_getElem?_getD,List.getD_eq_getElem?_getD,Z];simp[O]
 rw[U];obtain⟨N,-,-,D⟩:=Tp O;have M:=Xy Z;have L:(i:Int).tmod (y.length:Int)=((i%y.length:Nat):Int):=wP i y.length;have Y:¬((y.length:Int)=0):=by omega
 have S:¬y.length=0:=by omega
 obtain⟨j,C⟩:=xE (i%y.length);rw[←C] at L V M Z;obtain⟨X,R⟩:∃X,aJ f268=[X]:=⟨_,rfl⟩
 obtain⟨B,u⟩:=cD R (l:=[0,1,0,0,0,24,60,124,255,511,1023]) (j:=10) (by kernel_rfl) (by decide);simp[aJ,bU,f268] at R;subst R;obtain⟨o,m⟩:=p;simp only at N;have h:aa (ba prog) (fun _=>[]) (aT prog) cN 1 268 [.int .i64 i,.ptr 3 0,.ptr 4 0,.ptr 5 0] (eP H k y)=some ⟨pA (o,m),none,[]⟩:=by simp[aa,G,f268,eP,-aK,aq B,bm,aZ,bl,u,L,S,V,M,N,D,Q,pA]
 have:=(ar aj (aI _) (ax _) (aP _) h).1;simpa [y9.mem] using this
noncomputable def kz(H:List P2)(k:Nat)(y:List Nat):ae3:=fun c Z M=>match c,Z with
 |.fn 268,[.int .i64 i,.ptr 3 0,.ptr 4 0,.ptr 5 0]=>open Classical in if 0≤i∧M=eP H k y then some ⟨pA (CG H y i.toNat),none,[]⟩ else none
 |c,Z=>af gn c Z M
theorem Bn(H:List P2)(k:Nat)(y:List Nat)(hc:∀c∈y,c<H.length)(h0:y≠[]):qS prog (kz H k y):=by
 refine bZ fun c Z M r h=>?_
 unfold kz at h;split at h
 ·rename_i i
  split at h
  ·rename_i X
   cases h;obtain⟨V,rfl⟩:=X;refine aw ?_;rw[List.append_nil];have:=Mr H k y hc h0 i.toNat
   rw[Int.toNat_of_nonneg V] at this;exact this
  ·cases h
 ·exact dr Bk h
theorem Ms(H:List P2)(k:Nat)(y:List Nat)(hP:∀p∈H,pDg 200 p)(hc:∀c∈y,c<H.length)(h0:y≠[])(i:Nat)(hi:i≤1000000000):
  kO prog 269 [.int .i64 i,.ptr 6 0] (eP H k y) (.bool (upV H y i)) (eP H k y):=by
 have M:aT prog 269=some f269:=by kernel_rfl
 have j:=CH hP y i;have Y:=CH hP y (i+1);unfold upV;obtain⟨p,Z⟩:=xE (CG H y i);obtain⟨q,X⟩:=xE (CG H y (i+1));rw[←Z] at j ⊢;rw[←X] at Y ⊢;have w1:IntKind.i64.wrap ((i:Int)+1)=((i+1:Nat):Int):=by rw[ae];omega
 have L:(0:Int)≤(i:Int)+1:=by omega
 have G:((i:Int)+1).toNat=i+1:=by omega
 obtain⟨W,J⟩:=cY j.1 (by omega) (by omega) (by omega) (by omega);obtain⟨R,Q⟩:=cY j.2 (by omega) (by omega) (by omega) (by omega);obtain⟨I,q2⟩:=cY Y.1 (by omega) (by omega) (by omega) (by omega);obtain⟨O,N⟩:=cY Y.2 (by omega) (by omega) (by omega) (by omega);obtain⟨px,F⟩:=p;obtain⟨qx,D⟩:=q;simp only at W J R Q I q2 O N ⊢;obtain⟨o1,o2,A'⟩:∃o1 o2,aJ f269=[o1,o2]:=⟨_,_,rfl⟩
 obtain⟨V,C⟩:=KQ A' (l:=[0,0,2,7,15,0,0,111,239,511,1023]) (l' :=[0,1,3,7,15,31,63,63,191,511,1023,63,63,7167,15359,32767,65535,131071,262143,524287]) (by kernel_rfl);have B:dS [0,0,2,7,15,0,0,111,239,511,1023] 10=true:=by decide
 have u:dS [0,1,3,7,15,31,63,63,191,511,1023,63,63,7167,15359,32767,65535,131071,262143,524287] 19=true:=by decide
 simp[aJ,bU,f269] at A';obtain⟨rfl,rfl⟩:=A';have key:∀b:Bool,(decide (0<we D F)||(decide (we D F=0)&&decide (0<we qx px)))=b→aa (ba prog) (fun _=>[]) (aT prog) (kz H k y) 1 269 [.int .i64 i,.ptr 6 0] (eP H k y)=some ⟨.bool b,none,[]⟩:=by
  intro b U;by_cases o:0<we D F
  ·simp only[o,decide_true,Bool.true_or] at U
   subst U;simp[aa,M,f269,eP,kz,-aK,aq V,aq C,bm,aZ,bl,B,u,w1,L,G,←Z,←X,pA,af,gn,be,bd,az,R,Q,O,N,o,Nat.testBit]
  ·by_cases S:we D F=0
   ·by_cases m:0<we qx px
    ·simp[S,m] at U
     subst U;simp[aa,M,f269,eP,kz,-aK,aq V,aq C,bm,aZ,bl,B,u,w1,L,G,←Z,←X,pA,af,gn,be,bd,az,W,J,R,Q,I,q2,O,N,S,m,Nat.testBit]
    ·simp[S,m] at U
     subst U;simp[aa,M,f269,eP,kz,-aK,aq V,aq C,bm,aZ,bl,B,u,w1,L,G,←Z,←X,pA,af,gn,be,bd,az,W,J,R,Q,I,q2,O,N,S,m,Nat.testBit]
   ·simp[o,S] at U
    subst U;simp[aa,M,f269,eP,kz,-aK,aq V,aq C,bm,aZ,bl,B,u,w1,L,G,←Z,←X,pA,af,gn,be,bd,az,R,Q,O,N,o,S,Nat.testBit]
 have:=(ar aj (aI _) (Bn H k y hc h0) (aP _) (key _ rfl)).1;simpa [y9.mem] using this
noncomputable def vI(H:List P2)(k:Nat)(y:List Nat):ae3:=fun c Z M=>match c,Z with
 |.fn 269,[.int .i64 i,.ptr 6 0]=>open Classical in if 0≤i∧i≤1000000000∧M=eP H k y then some ⟨.bool (upV H y i.toNat),none,[]⟩ else none
 |c,Z=>kz H k y c Z M
theorem J8(H:List P2)(k:Nat)(y:List Nat)(I:∀p∈H,pDg 200 p)(hc:∀c∈y,c<H.length)(h0:y≠[]):qS prog (vI H k y):=by
 refine bZ fun c Z M r h=>?_
 unfold vI at h;split at h
 ·rename_i i
  split at h
  ·rename_i X
   cases h;obtain⟨V,U,rfl⟩:=X;refine aw ?_;rw[List.append_nil];have:=Ms H k y I hc h0 i.toNat (by omega);rw[Int.toNat_of_nonneg V] at this;exact this
  ·cases h
 ·exact dr (Bn H k y hc h0) h
def Tn(H:List P2)(y:List Nat):Prop:=
 y≠[]∧(∀c∈y,c<H.length)∧(∀i,i<y.length→0≤nQ (Af (CG H y i) (CG H y (i+1)) (CG H y (i+2))))∧ly H y y.length=1
theorem E3(H:List P2)(y:List Nat):∀n,ly H y n≤n
 |0=>Nat.le_refl _
 |n+1=>by have:=E3 H y n;unfold ly;split<;>omega
section
variable (PS:List P2)(k:Nat)(cyc:List Nat)(hP:∀p∈PS,pDg 200 p)(ho:Tn PS cyc)(hl:cyc.length≤1000000)
include PS k cyc hP ho hl
theorem DK(hK:cyc.length<K)(y:ah f236=[b]):
  ∃F:Env→Bool→Env,∀Z d,(ab Z 6=.ptr 6 0∧ab Z 7=.func 269 [.ptr 6 0]∧ab Z 8=.int .i64 0∧ab Z 14=.int .i64 cyc.length∧ab Z 15=.int .i64 0)→
   bh (ba prog) (fun _=>[8,15]) (vI PS k cyc) K 46 3 true (.loop b) ⟨Z,eP PS k cyc,d⟩=some (.exit 0,⟨F Z d,eP PS k cyc,d⟩)∧ab (F Z d) 8=.int .i64 1:=by
 refine bj rfl (fun Z=>ab Z 6=.ptr 6 0∧ab Z 7=.func 269 [.ptr 6 0]∧ab Z 8=.int .i64 0∧ab Z 14=.int .i64 cyc.length∧ab Z 15=.int .i64 0) (fun _ AC =>ab AC 8=.int .i64 1) ?_;rintro Z d ⟨h6,h7,h8,h14,h15⟩;obtain⟨-,-,G,D⟩:=ho;obtain⟨N,C⟩:∃N,aJ f236=[N]:=⟨_,rfl⟩
 obtain⟨IR,YF⟩:=cD C (l:=[0,0,3,0,0,16,63,0,0,256,1023,2047,4095]) (j:=12) (by kernel_rfl) (by decide);simp[aJ,bU,f236] at C;simp[ah,aE,f236] at y;have W:ay [8,15] (ad b) Z ((8,.int .i64 ((ly PS cyc 0:Nat):Int))::(15,.int .i64 ((0:Nat):Int))::Z)=ay [8,15] (ad b) Z Z:=by simp[ay,h8,h15,ly]
 rw[←W];refine bx (α:=Nat) (fun n=>⟨ay [8,15] (ad b) Z ((8,.int .i64 ((ly PS cyc n:Nat):Int))::(15,.int .i64 (n:Int))::Z),eP PS k cyc,d⟩) (fun n=>cyc.length-n) (fun n=>n≤cyc.length) (.exit 0) _ d _ (by simp) ?_ K 0 (by omega) (by omega);intro n Zg;clear W;subst y;subst C;by_cases J:n<cyc.length
 ·left
  have h3:=G n J;have B:=CH hP cyc n;have u:=CH hP cyc (n+1);have o:=CH hP cyc (n+2);obtain⟨p,O⟩:=xE (CG PS cyc n);obtain⟨q,X⟩:=xE (CG PS cyc (n+1));obtain⟨r,Q⟩:=xE (CG PS cyc (n+2));rw[←O,←X,←Q] at h3;rw[←O] at B;rw[←X] at u;rw[←Q] at o;obtain⟨I,H⟩:=gb B.1 (by omega) (m:=2998) (by omega);obtain⟨p7,p8⟩:=gb B.2 (by omega) (m:=2998) (by omega);obtain⟨q5,q6⟩:=gb u.1 (by omega) (m:=2998) (by omega);obtain⟨q7,q8⟩:=gb u.2 (by omega) (m:=2998) (by omega);obtain⟨r5,r6⟩:=gb o.1 (by omega) (m:=2998) (by omega);obtain⟨r7,r8⟩:=gb o.2 (by omega) (m:=2998) (by omega);obtain⟨px,py⟩:=p;obtain⟨qx,qy⟩:=q;obtain⟨rx,ry⟩:=r;simp only at I H p7 p8 q5 q6 q7 q8 r5 r6 r7 r8;obtain⟨S,hS⟩:=xE (nQ (Af (px,py) (qx,qy) (rx,ry)));rw[←hS] at h3;have YO:¬S<0:=by omega
  obtain⟨L,Yu⟩:=xE (n+1);obtain⟨m2,Zo⟩:=xE (n+2);have w1:IntKind.i64.wrap ((n:Int)+1)=(L:Int):=by rw[ae];omega
  have w2:IntKind.i64.wrap ((n:Int)+2)=(m2:Int):=by rw[ae];omega
  have s5:(n:Int)≤1000000000:=by omega
  have s6:(L:Int)≤1000000000:=by omega
  have s7:n≤1000000000:=by omega
  have s8:L≤1000000000:=by omega
  have Ya:=E3 PS cyc n;have M:ly PS cyc (n+1)=ly PS cyc n+if !upV PS cyc n&&upV PS cyc (n+1) then 1 else 0:=rfl
  obtain⟨R,Y⟩:=xE (ly PS cyc n);rw[←Y] at M Ya ⊢;have w3:IntKind.i64.wrap ((R:Int)+1)=((R+1:Nat):Int):=by rw[ae];omega
  obtain⟨U,hU⟩:=xE (upV PS cyc n);obtain⟨V,hV⟩:=xE (upV PS cyc (n+1));rw[←hU,←hV] at M;rw[←Yu] at M hV X;rw[←Zo] at Q;refine⟨L,?_⟩;cases U<;>cases V;all_goals
   simp at M;simp[eP,h6,h7,h14,J,vI,kz,-aK,aq IR,bm,aZ,bl,YF,w1,w2,w3,s5,s6,←O,←X,←Q,←hU,←hV,pA,af,gn,az,I,H,p7,p8,q5,q6,q7,q8,r5,r6,r7,r8,←hS,YO,M,Nat.testBit];omega
 ·right
  have e:n=cyc.length:=by omega
  subst e;have T' :¬(cyc.length:Int)<cyc.length:=by omega
  simp[h14,D]
theorem Mn:
  kO prog 236 [.agg [.slice 0 0 PS.length none,.slice 1 0 k none],.slice 2 0 cyc.length none] [.cells false 2 (pC PS),.qK,.cells false 1 (cZ cyc)] (.bool true) [.cells false 2 (pC PS),.qK,.cells false 1 (cZ cyc)]:=by
 have S:aT prog 236=some f236:=by kernel_rfl
 obtain⟨b,Z⟩:∃b,ah f236=[b]:=⟨_,rfl⟩
 obtain⟨F,X⟩:=DK (K:=cyc.length+1) PS k cyc hP ho hl (by omega) Z;simp[ah,aE,f236] at Z;subst Z;have U:=fun V d h=>(X V d h).1
 have R:=fun V d h=>(X V d h).2
 clear X;simp only[eP] at U;refine cv (lv:=(fun _=>[8,15])) (K:=(cyc.length+1)) (J8 PS k cyc hP ho.2.1 ho.1) ?_;simp[aa,S,f236,U,R]
end
end Go.Proofs
