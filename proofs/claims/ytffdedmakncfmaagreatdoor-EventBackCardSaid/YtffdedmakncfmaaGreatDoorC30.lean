/- See C54. -/
import Derived.Test.YtffdedmakncfmaaGreatDoorC25
set_option linter.all false
set_option maxRecDepth 100000
set_option maxHeartbeats 40000000
namespace Go.Proofs
open Go.Eng
open Tryz
theorem Nr(a b c:P2)(ha:pDg 3000 a)(hb:pDg 3000 b)(hc:pDg 3000 c)(M:Mem):kO prog 233 [pA a,pA b,pA c] M (.str (ax (dj a b c))) M:=by
 have hG:aS prog 233=some f233:=by kernel_rfl
 obtain⟨Y,W⟩:=a;obtain⟨b1,b2⟩:=b;obtain⟨c1,c2⟩:=c;obtain⟨Q,O⟩:=ha;obtain⟨N,L⟩:=hb;obtain⟨K,G⟩:=hc;simp only at Q O N L K G;have F:=Fq N Q (m:=6000) (by omega) (by omega);have D:=Fq G O (m:=6000) (by omega) (by omega);have C:=Fq L O (m:=6000) (by omega) (by omega);have B:=Fq K Q (m:=6000) (by omega) (by omega);have J:=cV F D;have I:=cV C B;obtain⟨p1,p2⟩:=dc Q (by omega) (by omega) (by omega) (by omega);obtain⟨p3,p4⟩:=dc O (by omega) (by omega) (by omega) (by omega);obtain⟨q1,q2⟩:=dc N (by omega) (by omega) (by omega) (by omega);obtain⟨q3,q4⟩:=dc L (by omega) (by omega) (by omega) (by omega);obtain⟨r1,r2⟩:=dc K (by omega) (by omega) (by omega) (by omega);obtain⟨r3,r4⟩:=dc G (by omega) (by omega) (by omega) (by omega);obtain⟨H,y⟩:=dc F (by omega) (by omega) (by omega) (by omega);obtain⟨s3,s4⟩:=dc D (by omega) (by omega) (by omega) (by omega);obtain⟨s5,s6⟩:=dc C (by omega) (by omega) (by omega) (by omega);obtain⟨s7,s8⟩:=dc B (by omega) (by omega) (by omega) (by omega);obtain⟨t1,t2⟩:=dc J (by omega) (by omega) (by omega) (by omega);obtain⟨t3,t4⟩:=dc I (by omega) (by omega) (by omega) (by omega);clear J I F D C B Q O N L K G;unfold dj;simp only;obtain⟨x1,Z⟩:=xE (b1-Y);obtain⟨x2,X⟩:=xE (c2-W);obtain⟨x3,V⟩:=xE (b2-W);obtain⟨x4,U⟩:=xE (c1-Y);rw[←Z] at H y t1 t2;rw[←X] at s3 s4 t1 t2;rw[←V] at s5 s6 t3 t4;rw[←U] at s7 s8 t3 t4;rw[←Z,←X,←V,←U];obtain⟨y1,S⟩:=xE (x1*x2);obtain⟨y2,R⟩:=xE (x3*x4);rw[←S] at t1 t2;rw[←R] at t3 t4;rw[←S,←R];refine ao cP ?_ M;obtain⟨o1,o2,u⟩:∃o1 o2,aG f233=[o1,o2]:=⟨_,_,rfl⟩
 obtain⟨o,j⟩:=CV u (l:=[0,1,0,4,15,0,32,0,128,511,1023,2047]) (l' :=[0,0,2,0,8,30,0,64,0,256,1022,2046,4095,8191]) (by kernel_rfl);have k1:dH [0,1,0,4,15,0,32,0,128,511,1023,2047] 11=true:=by decide
 have k2:dH [0,0,2,0,8,30,0,64,0,256,1022,2046,4095,8191] 13=true:=by decide
 simp[aG,bQ,f233] at u;obtain⟨rfl,rfl⟩:=u;simp[aa,hG,f233,-aH,ak o,ak j,be,aV,aX,k1,k2,pA,ay,ag,bn,bw,p1,p2,p3,p4,q1,q2,q3,q4,r1,r2,r3,r4,H,y,s3,s4,s5,s6,s7,s8,t1,t2,t3,t4,←Z,←X,←V,←U,←S,←R,Nat.testBit]
noncomputable def B7(f:FuncId)(args:List AV):Option AV:=
 match f,args with
 |233,[.agg [.str a,.str b],.agg [.str c,.str d],.agg [.str e,.str f]]=>match dY a,dY b,dY c,dY d,dY e,dY f with
  |some a,some b,some c,some d,some e,some f=>if (ai a.num.natAbs).length≤2999∧(ai a.den).length≤2999∧(ai b.num.natAbs).length≤2999∧(ai b.den).length≤2999∧(ai c.num.natAbs).length≤2999∧(ai c.den).length≤2999∧
    (ai d.num.natAbs).length≤2999∧(ai d.den).length≤2999∧(ai e.num.natAbs).length≤2999∧(ai e.den).length≤2999∧(ai f.num.natAbs).length≤2999∧(ai f.den).length≤2999 then some (.str (ax (dj (a,b) (c,d) (e,f)))) else none
  |_,_,_,_,_,_=>none
 |f,args=>bn f args
theorem Ox:qS prog (ag B7):=bF fun f U v h mem=>by
 unfold B7 at h;split at h
 ·split at h
  ·rename_i a b c d e f S R Q O N M
   split at h
   ·rename_i L
    obtain⟨K,G,F,D,C,B,u,o,m,Z,X,V⟩:=L;cases h;rw[az S,az R,az Q,az O,az N,az M];exact Nr (a,b) (c,d) (e,f) ⟨(di ⟨K,G⟩).mono (by omega) (by omega),(di ⟨F,D⟩).mono (by omega) (by omega)⟩
     ⟨(di ⟨C,B⟩).mono (by omega) (by omega),(di ⟨u,o⟩).mono (by omega) (by omega)⟩ ⟨(di ⟨m,Z⟩).mono (by omega) (by omega),(di ⟨X,V⟩).mono (by omega) (by omega)⟩ mem
   ·cases h
  ·cases h
 ·have:=cP.fn _ _ mem ⟨v,none,[]⟩ (by unfold ag;simp only;rw[h])
  simpa [y9.mem] using this
theorem gJ{n m:Nat}{q:Rat}(h:dg n n q)(h0:0<n)(y:n≤m):(ai q.num.natAbs).length≤m∧(ai q.den).length≤m:=by have:=h.lens h0 h0;exact⟨by omega,by omega⟩
theorem Nu(a b c:P2)(H:pDg 2999 a)(I:pDg 2999 b)(hc:pDg 2999 c)(M:Mem):kO prog 194 [pA a,pA b,pA c] M (.int .i64 (fL (dj a b c))) M:=by
 have G:aS prog 194=some f194:=by kernel_rfl
 obtain⟨F,D⟩:=a;obtain⟨C,B⟩:=b;obtain⟨u,o⟩:=c;obtain⟨Z,X⟩:=gJ H.1 (by omega) (Nat.le_refl _);obtain⟨V,U⟩:=gJ H.2 (by omega) (Nat.le_refl _);obtain⟨S,R⟩:=gJ I.1 (by omega) (Nat.le_refl _);obtain⟨Q,O⟩:=gJ I.2 (by omega) (Nat.le_refl _);obtain⟨r1,r2⟩:=gJ hc.1 (by omega) (Nat.le_refl _);obtain⟨N,L⟩:=gJ hc.2 (by omega) (Nat.le_refl _);refine ao Ox ?_ M;simp only at Z X V U S R Q O r1 r2 N L;obtain⟨y,K⟩:=xE (dj (F,D) (C,B) (u,o));rw[←K];simp[aa,G,f194,pA,ay,ag,B7,bn,bw,bL,bD,Z,X,V,U,S,R,Q,O,r1,r2,N,L,←K]
theorem k8(d:Nat)(x y:List UInt8):kU (bh prog) (d+1) 52 (.str x) (.str y)=some (x==y):=by rw[kU];simp
theorem Tl(p q:P2):kU (bh prog) 20 100 (pA p) (pA q)=some (decide (p.1=q.1)&&decide (p.2=q.2)):=by have i:=k8 18;rw[kU];simp[pA,Ta,jR,TyI.isAgg,i,HG]
theorem Ff(p:P2):∀(L:List P2) (i:Nat),p∉L→jZ (bh prog) 100 (pA p) (L.map pmE) i=some none
 | [],i,_=>rfl
 |q::L,i,h=>by
  have e:=Tl p q;have X:(decide (p.1=q.1)&&decide (p.2=q.2))=false:=by rw[←Bool.not_eq_true];intro Z;simp only[Bool.and_eq_true,decide_eq_true_eq] at Z;exact h (by rw[show p=q from Prod.ext Z.1 Z.2];exact List.mem_cons_self ..)
  simp only[List.map_cons,jZ,pmE,e,X];exact Ff p L (i+1) (fun Z=>h (List.mem_cons_of_mem _ Z))
theorem Tn(p:P2):mG (bh prog) 20 100 (pA p)=true:=by simp[pA,mG,Uy,jR,TyI.isAgg]
noncomputable def gP(f:FuncId)(args:List AV):Option AV:=
 match f,args with
 |194,[.agg [.str a,.str b],.agg [.str c,.str d],.agg [.str e,.str f]]=>match dY a,dY b,dY c,dY d,dY e,dY f with
  |some a,some b,some c,some d,some e,some f=>if (ai a.num.natAbs).length≤2998∧(ai a.den).length≤2998∧(ai b.num.natAbs).length≤2998∧(ai b.den).length≤2998∧(ai c.num.natAbs).length≤2998∧(ai c.den).length≤2998∧
    (ai d.num.natAbs).length≤2998∧(ai d.den).length≤2998∧(ai e.num.natAbs).length≤2998∧(ai e.den).length≤2998∧(ai f.num.natAbs).length≤2998∧(ai f.den).length≤2998 then some (.int .i64 (fL (dj (a,b) (c,d) (e,f)))) else none
  |_,_,_,_,_,_=>none
 |193,[.agg [.str a,.str b]]=>if a.length≤1000000000∧b.length≤1000000000 then some (.int .i64 (yX [a,b])) else none
 |f,args=>bn f args
theorem B6:qS prog (ag gP):=bF fun f S v h mem=>by
 unfold gP at h;split at h
 ·split at h
  ·rename_i a b c d e f R Q Z O N M
   split at h
   ·rename_i L
    obtain⟨K,G,F,D,C,B,u,o,m,X,V,U⟩:=L;cases h;rw[az R,az Q,az Z,az O,az N,az M];exact Nu (a,b) (c,d) (e,f) ⟨(di ⟨K,G⟩).mono (by omega) (by omega),(di ⟨F,D⟩).mono (by omega) (by omega)⟩
     ⟨(di ⟨C,B⟩).mono (by omega) (by omega),(di ⟨u,o⟩).mono (by omega) (by omega)⟩ ⟨(di ⟨m,X⟩).mono (by omega) (by omega),(di ⟨V,U⟩).mono (by omega) (by omega)⟩ mem
   ·cases h
  ·cases h
 ·split at h
  next Z=>cases h;exact od _ _ Z.1 Z.2 mem
  ·cases h
 ·have:=cP.fn _ _ mem ⟨v,none,[]⟩ (by unfold ag;simp only;rw[h])
  simpa [y9.mem] using this
theorem Y6{p:P2}(h:pDg 200 p):yX [ax p.1,ax p.2]=0:=by simp[yX,jy h.1,jy h.2]
noncomputable def qc(y:List P2)(H:List Tr):afF:=fun c Z M=>match c,Z with
 |.fn 195,[.agg [.slice b 0 n none,.slice c 0 k none]]=>open Classical in if n=y.length∧k=H.length∧(∃o,M[b]? =some (.cells o 2 (pC y)))∧(∃o,M[c]? =some (.cells o 3 (tC H))) then some ⟨.bool true,none,[]⟩ else none
 |c,Z=>ag gP c Z M
def wZ(c:Code):List Nat:=if (ae c).contains 32 then [32] else if (ae c).contains 48 then [48] else if (ae c).contains 53 then [53] else []
def msB(n k:Nat):afU:=.cells true 0 [.slice 0 0 n none,.slice 1 0 k none]
variable{K:Nat}{b b3 b4 b5:Code}
theorem yy(y:List P2)(H:List Tr)(J:∀p∈y,pDg 200 p)(W:y.Nodup)(hl:y.length≤1000000000)(hK:y.length<K){Y:Code}(I:ah f131=[b,Y,b3,b4,b5]):
  ∃F:Env→Bool→Env,∀Z d,(ad Z 30=.slice 0 0 y.length none∧ad Z 31=.int .i64 y.length∧ad Z 32=.int .i64 0∧ad Z 3=.map 3∧ad Z 1=.ptr 2 0)→
   aW (bh prog) wZ (qc y H) K 105 2 true (.loop b) ⟨Z,[.cells false 2 (pC y),.cells false 3 (tC H),msB y.length H.length,.map []],d⟩=some (.exit 1,⟨F Z d,[.cells false 2 (pC y),.cells false 3 (tC H),msB y.length H.length,.map (y.map pmE)],d⟩)∧ad (F Z d) 1=.ptr 2 0:=by
 refine bj (L:=[32]) (by simp[ah,aE,f131] at I;rw[←I.1];rfl) (fun Z=>ad Z 30=.slice 0 0 y.length none∧ad Z 31=.int .i64 y.length∧ad Z 32=.int .i64 0∧ad Z 3=.map 3∧ad Z 1=.ptr 2 0) (fun _ o =>ad o 1=.ptr 2 0) ?_;rintro Z d ⟨h30,h31,h32,h3,V⟩;simp[ah,aE,f131] at I;obtain⟨I,-⟩:=I;have U:aA [32] (ae b) Z ((32,.int .i64 ((0:Nat):Int))::Z)=aA [32] (ae b) Z Z:=by simp[aA,h32]
 rw[←U];refine bz (α:=Nat) (fun n=>⟨aA [32] (ae b) Z ((32,.int .i64 (n:Int))::Z),[.cells false 2 (pC y),.cells false 3 (tC H),msB y.length H.length,.map ((y.take n).map pmE)],d⟩) (fun n=>y.length-n) (fun n=>n≤y.length) (.exit 1) _ d _ (by simp) ?_ K 0 (by omega) (by omega);intro n hn1;clear U;subst I;by_cases Q:n<y.length
 ·left
  obtain⟨p,S⟩:∃q,y[n]? =some q:=⟨y[n],List.getElem?_eq_getElem Q⟩
  obtain⟨M,k2,k3,k4⟩:=MB S;have X:=J p (List.mem_of_getElem? S);have O:p∉y.take n:=by intro N;obtain⟨j,hj,G⟩:=List.mem_iff_getElem.1 N;rw[List.length_take] at hj;rw[List.getElem_take] at G;have V:=List.getElem?_eq_some_iff.1 S;obtain⟨V,h2⟩:=V;have:=(List.getElem_inj (h₀:=by omega) (h₁:=V) W).1 (G.trans h2.symm);omega
  have f1:=Ff p (y.take n) 0 O;have f2:=Tn p;have R:(y.take (n+1)).map pmE=(y.take n).map pmE++[pmE p]:=by rw[List.take_add_one,S];simp
  have w1:IntKind.i64.wrap ((n:Int)+1)=((n+1:Nat):Int):=by rw[af];omega
  have D:=Y6 X;have C:=mh X.1 (by omega) (by omega);have B:=mh X.2 (by omega) (by omega);obtain⟨m,N⟩:=xE (n+1);rw[←N] at w1 R;have r1:=HK 4 (y.take n);obtain⟨E,u⟩:=xE ((y.take n).map pmE);rw[←u] at f1 R r1;rw[←u];refine⟨m,?_⟩;obtain⟨px,py⟩:=p;simp only[pA,pmE] at f1 f2 R M D C B;simp[h30,h31,h3,Q,qc,ag,gP,M,k4,D,C,B,w1,f1,f2,R,r1,msB,wq,tw,lQ,kv,fz];omega
 ·right
  have e:y.take n=y:=List.take_of_length_le (by omega);rw[e];have Z5 :¬(n:Int)<y.length:=by omega
  simp[h31,V,Q]
def ZM(y:List P2)(t:Tr):Prop:=∃p q r,y[t.1]? =some p∧y[t.2.1]? =some q∧y[t.2.2]? =some r∧0<fL (dj p q r)
variable{b1:Code}
theorem yz(H:List P2)(y:List Tr)(E:List (AV×AV))(J:∀p∈H,pDg 200 p)(hT:∀t∈y,ZM H t)(hl:H.length≤1000000000)(hl2:y.length≤1000000000)(hE:E.flatMap (fun e=>e.1.refs 4++e.2.refs 4)=[])(hK:y.length<K+5)(I:ah f131=[b1,b,b3,b4,b5]):
  ∃F:Env→Bool→Env,∀Z d,(ad Z 1=.ptr 2 0∧ad Z 46=.slice 1 0 y.length none∧ad Z 47=.int .i64 y.length∧ad Z 48=.int .i64 0)→
   aW (bh prog) wZ (qc H y) (K+5) 105 2 true (.loop b) ⟨Z,[.cells false 2 (pC H),.cells false 3 (tC y),msB H.length y.length,.map E],d⟩=some (.exit 3,⟨F Z d,[.cells false 2 (pC H),.cells false 3 (tC y),msB H.length y.length,.map E],d⟩)∧ad (F Z d) 1=.ptr 2 0:=by
 refine bj (L:=[48]) (by simp[ah,aE,f131] at I;rw[←I.2.1];rfl) (fun Z=>ad Z 1=.ptr 2 0∧ad Z 46=.slice 1 0 y.length none∧ad Z 47=.int .i64 y.length∧ad Z 48=.int .i64 0) (fun _ AC =>ad AC 1=.ptr 2 0) ?_;rintro Z d ⟨h1,h46,h47,h48⟩;obtain⟨X,N⟩:∃X,aG f131=[X]:=⟨_,rfl⟩
 obtain⟨PP,M⟩:=cC N (l:=[0,1,0,4,15,31,0,64,0,256,960,1984,0,4096,0,16384,61440,126976,262143,524287]) (j:=19) (by kernel_rfl) (by decide);simp[aG,bQ,f131] at N;simp[ah,aE,f131] at I;obtain⟨-,I,-⟩:=I;have V:aA [48] (ae b) Z ((48,.int .i64 ((0:Nat):Int))::Z)=aA [48] (ae b) Z Z:=by simp[aA,h48]
 rw[←V];refine bz (α:=Nat) (fun n=>⟨aA [48] (ae b) Z ((48,.int .i64 (n:Int))::Z),[.cells false 2 (pC H),.cells false 3 (tC y),msB H.length y.length,.map E],d⟩) (fun n=>y.length-n) (fun n=>n≤y.length) (.exit 3) _ d _ (by simp) ?_ (K+5) 0 (by omega) (by omega);intro n hn1;clear V;subst I;subst N;by_cases G:n<y.length
 ·left
  obtain⟨t,ht⟩:∃q,y[n]? =some q:=⟨y[n],List.getElem?_eq_getElem G⟩
  obtain⟨k1,k2⟩:=Ve ht;obtain⟨p,q,r,R,Q,O,U⟩:=hT t (List.mem_of_getElem? ht);obtain⟨D,C,B⟩:=t;simp only at R Q O k1;obtain⟨p1,-,-,p4⟩:=MB R;obtain⟨q1,-,-,q4⟩:=MB Q;obtain⟨r1,-,-,r4⟩:=MB O;have a1:=gL R;have a2:=gL Q;have a3:=gL O;have u :¬((D:Int)<0):=by omega
  have o :¬((C:Int)<0):=by omega
  have Y :¬((B:Int)<0):=by omega
  have W :¬((H.length:Int)≤D):=by omega
  have ae0 :¬((H.length:Int)≤C):=by omega
  have ae1 :¬((H.length:Int)≤B):=by omega
  have g1:¬H.length≤D:=by omega
  have g2:¬H.length≤C:=by omega
  have g3:¬H.length≤B:=by omega
  have hp:=J p (List.mem_of_getElem? R);have hq:=J q (List.mem_of_getElem? Q);have hr:=J r (List.mem_of_getElem? O);obtain⟨p5,p6⟩:=gJ hp.1 (by omega) (m:=2998) (by omega);obtain⟨p7,p8⟩:=gJ hp.2 (by omega) (m:=2998) (by omega);obtain⟨q5,q6⟩:=gJ hq.1 (by omega) (m:=2998) (by omega);obtain⟨q7,q8⟩:=gJ hq.2 (by omega) (m:=2998) (by omega);obtain⟨r5,r6⟩:=gJ hr.1 (by omega) (m:=2998) (by omega);obtain⟨r7,r8⟩:=gJ hr.2 (by omega) (m:=2998) (by omega);obtain⟨px,py⟩:=p;obtain⟨qx,qy⟩:=q;obtain⟨rx,ry⟩:=r;simp only at p1 q1 r1 p5 p6 p7 p8 q5 q6 q7 q8 r5 r6 r7 r8;obtain⟨S,hS⟩:=xE (fL (dj (px,py) (qx,qy) (rx,ry)));rw[←hS] at U;have aau:¬S≤0:=by omega
  have w1:IntKind.i64.wrap ((n:Int)+1)=((n+1:Nat):Int):=by rw[af];omega
  obtain⟨m,hm⟩:=xE (n+1);rw[←hm] at w1;have v1:IntKind.i64.wrap 1=1:=rfl;have v2:IntKind.i64.wrap 2=2:=rfl;have v3:IntKind.i64.wrap 3=3:=rfl;have v2' :IntKind.i64.wrap (1+1)=2:=rfl;have v3' :IntKind.i64.wrap (2+1)=3:=rfl;refine⟨m,?_⟩;clear J hT;simp[h1,h46,h47,G,k1,k2,aT,ga,v1,v2,v3,wZ,a1,a2,a3,u,o,Y,W,ae0,ae1,p1,q1,r1,p4,q4,r4,-aH,ak PP,be,aV,aX,M,
   qc,ag,gP,ay,p5,p6,p7,p8,q5,q6,q7,q8,r5,r6,r7,r8,←hS,aau,hE,msB,wq,tw,w1,Nat.testBit]
  omega
 ·right
  have Z5 :¬(n:Int)<y.length:=by omega
  simp[h47,h1,G]
theorem Wl:bh prog 314=some ⟨.func #[3] #[100] false,1,8,.nilFunc,true⟩:=by kernel_rfl
theorem Wk:bh prog 291=some ⟨.func #[3] #[4] false,1,8,.nilFunc,true⟩:=by kernel_rfl
attribute [simp] Wl Wk
def cZ(y:List Nat):List AV:=y.map fun(n:Nat)=>.int .i64 (n:Int)
theorem Zy{y:List Nat}{i c:Nat}(h:y[i]? =some c):(cZ y)[i]? =some (.int .i64 (c:Int)):=by simp[cZ,h]
def DC(H:List P2)(y:List Nat)(i:Nat):P2:=H.getD (y.getD (i%y.length) 0) (0,0)
theorem DD{H:List P2}(I:∀p∈H,pDg 200 p)(y:List Nat)(i:Nat):pDg 200 (DC H y i):=by
 unfold DC;rw[List.getD_eq_getElem?_getD];cases h:H[y.getD (i%y.length) 0]? with
 |none=>exact⟨⟨by decide,by decide⟩,⟨by decide,by decide⟩⟩
 |some p=>exact I p (List.mem_of_getElem? h)
def upV(H:List P2)(y:List Nat)(i:Nat):Bool:=
 decide (0<CO (DC H y (i+1)).2 (DC H y i).2)||(decide (CO (DC H y (i+1)).2 (DC H y i).2=0)&&decide (0<CO (DC H y (i+1)).1 (DC H y i).1))
def mw(H:List P2)(y:List Nat):Nat→Nat
 |0=>0
 |n+1=>mw H y n+if !upV H y n&&upV H y (n+1) then 1 else 0
def fh(H:List P2)(k:Nat)(y:List Nat):Mem:=[.cells false 2 (pC H),.qK,.cells false 1 (cZ y),.cells true 0 [.slice 0 0 H.length none,.slice 1 0 k none],.cells true 0 [.slice 2 0 y.length none],.cells true 0 [.int .i64 y.length],.cells true 0 [.func 268 [.ptr 3 0,.ptr 4 0,.ptr 5 0]]]
theorem Nw(H:List P2)(k:Nat)(y:List Nat)(hc:∀c∈y,c<H.length)(h0:y≠[])(i:Nat):
  kO prog 268 [.int .i64 i,.ptr 3 0,.ptr 4 0,.ptr 5 0] (fh H k y) (pA (DC H y i)) (fh H k y):=by
 have D:aS prog 268=some f268:=by kernel_rfl
 have C:0<y.length:=by cases y with | nil=>exact absurd rfl h0 | cons a l=>simp
 have U:i%y.length<y.length:=Nat.mod_lt _ C;obtain⟨c,Z⟩:∃c,y[i%y.length]? =some c:=⟨_,List.getElem?_eq_getElem U⟩
 have X:=hc c (List.mem_of_getElem? Z);obtain⟨p,M⟩:∃p,H[c]? =some p:=⟨_,List.getElem?_eq_getElem X⟩
 have S:DC H y i=p:=by unfold DC;rw[List.getD_eq_getElem?_getD,List.getD_eq_getElem?_getD,Z];simp[M]
 rw[S];obtain⟨L,-,-,B⟩:=MB M;have G:=Zy Z;have F:(i:Int).tmod (y.length:Int)=((i%y.length:Nat):Int):=xO i y.length;have Y:¬((y.length:Int)=0):=by omega
 have R:¬y.length=0:=by omega
 obtain⟨j,Q⟩:=xE (i%y.length);rw[←Q] at F U G Z;obtain⟨V,O⟩:∃V,aG f268=[V]:=⟨_,rfl⟩
 obtain⟨u,N⟩:=cC O (l:=[0,1,0,0,0,24,60,124,255,511,1023]) (j:=10) (by kernel_rfl) (by decide);simp[aG,bQ,f268] at O;subst O;obtain⟨o,m⟩:=p;simp only at L;have h:aa (bh prog) (fun _=>[]) (aS prog) cF 1 268 [.int .i64 i,.ptr 3 0,.ptr 4 0,.ptr 5 0] (fh H k y)=some ⟨pA (o,m),none,[]⟩:=by simp[aa,D,f268,fh,-aH,ak u,be,aV,aX,N,F,R,U,G,L,B,X,pA]
 have:=(ar aj (aK _) (aw _) (aR _) h).1;simpa [y9.mem] using this
noncomputable def kY(H:List P2)(k:Nat)(y:List Nat):afF:=fun c Z M=>match c,Z with
 |.fn 268,[.int .i64 i,.ptr 3 0,.ptr 4 0,.ptr 5 0]=>open Classical in if 0≤i∧M=fh H k y then some ⟨pA (DC H y i.toNat),none,[]⟩ else none
 |c,Z=>ag gP c Z M
theorem B9(H:List P2)(k:Nat)(y:List Nat)(hc:∀c∈y,c<H.length)(h0:y≠[]):qS prog (kY H k y):=by
 refine cf fun c Z M r h=>?_
 unfold kY at h;split at h
 ·rename_i i
  split at h
  ·rename_i X
   cases h;obtain⟨V,rfl⟩:=X;refine aC ?_;rw[List.append_nil];have:=Nw H k y hc h0 i.toNat
   rw[Int.toNat_of_nonneg V] at this;exact this
  ·cases h
 ·exact dN B6 h
theorem Nx(H:List P2)(k:Nat)(y:List Nat)(hP:∀p∈H,pDg 200 p)(hc:∀c∈y,c<H.length)(h0:y≠[])(i:Nat)(hi:i≤1000000000):
  kO prog 269 [.int .i64 i,.ptr 6 0] (fh H k y) (.bool (upV H y i)) (fh H k y):=by
 have L:aS prog 269=some f269:=by kernel_rfl
 have j:=DD hP y i;have Y:=DD hP y (i+1);unfold upV;obtain⟨p,Z⟩:=xE (DC H y i);obtain⟨q,X⟩:=xE (DC H y (i+1));rw[←Z] at j ⊢;rw[←X] at Y ⊢;have w1:IntKind.i64.wrap ((i:Int)+1)=((i+1:Nat):Int):=by rw[af];omega
 have G:(0:Int)≤(i:Int)+1:=by omega
 have F:((i:Int)+1).toNat=i+1:=by omega
 obtain⟨W,J⟩:=dc j.1 (by omega) (by omega) (by omega) (by omega);obtain⟨Q,O⟩:=dc j.2 (by omega) (by omega) (by omega) (by omega);obtain⟨I,q2⟩:=dc Y.1 (by omega) (by omega) (by omega) (by omega);obtain⟨N,M⟩:=dc Y.2 (by omega) (by omega) (by omega) (by omega);obtain⟨px,D⟩:=p;obtain⟨qx,C⟩:=q;simp only at W J Q O I q2 N M ⊢;obtain⟨o1,o2,D'⟩:∃o1 o2,aG f269=[o1,o2]:=⟨_,_,rfl⟩
 obtain⟨V,U⟩:=CV D' (l:=[0,0,2,7,15,0,0,111,239,511,1023]) (l' :=[0,1,3,7,15,31,63,63,191,511,1023,63,63,7167,15359,32767,65535,131071,262143,524287]) (by kernel_rfl);have B:dH [0,0,2,7,15,0,0,111,239,511,1023] 10=true:=by decide
 have u:dH [0,1,3,7,15,31,63,63,191,511,1023,63,63,7167,15359,32767,65535,131071,262143,524287] 19=true:=by decide
 simp[aG,bQ,f269] at D';obtain⟨rfl,rfl⟩:=D';have key:∀b:Bool,(decide (0<CO C D)||(decide (CO C D=0)&&decide (0<CO qx px)))=b→aa (bh prog) (fun _=>[]) (aS prog) (kY H k y) 1 269 [.int .i64 i,.ptr 6 0] (fh H k y)=some ⟨.bool b,none,[]⟩:=by
  intro b S;by_cases o:0<CO C D
  ·simp only[o,decide_true,Bool.true_or] at S
   subst S;simp[aa,L,f269,fh,kY,-aH,ak V,ak U,be,aV,aX,B,u,w1,G,F,←Z,←X,pA,ag,gP,bn,bw,ay,Q,O,N,M,o,Nat.testBit]
  ·by_cases R:CO C D=0
   ·by_cases m:0<CO qx px
    ·simp[R,m] at S
     subst S;simp[aa,L,f269,fh,kY,-aH,ak V,ak U,be,aV,aX,B,u,w1,G,F,←Z,←X,pA,ag,gP,bn,bw,ay,W,J,Q,O,I,q2,N,M,R,m,Nat.testBit]
    ·simp[R,m] at S
     subst S;simp[aa,L,f269,fh,kY,-aH,ak V,ak U,be,aV,aX,B,u,w1,G,F,←Z,←X,pA,ag,gP,bn,bw,ay,W,J,Q,O,I,q2,N,M,R,m,Nat.testBit]
   ·simp[o,R] at S
    subst S;simp[aa,L,f269,fh,kY,-aH,ak V,ak U,be,aV,aX,B,u,w1,G,F,←Z,←X,pA,ag,gP,bn,bw,ay,Q,O,N,M,o,R,Nat.testBit]
 have:=(ar aj (aK _) (B9 H k y hc h0) (aR _) (key _ rfl)).1;simpa [y9.mem] using this
noncomputable def w8(H:List P2)(k:Nat)(y:List Nat):afF:=fun c Z M=>match c,Z with
 |.fn 269,[.int .i64 i,.ptr 6 0]=>open Classical in if 0≤i∧i≤1000000000∧M=fh H k y then some ⟨.bool (upV H y i.toNat),none,[]⟩ else none
 |c,Z=>kY H k y c Z M
theorem Lh(H:List P2)(k:Nat)(y:List Nat)(I:∀p∈H,pDg 200 p)(hc:∀c∈y,c<H.length)(h0:y≠[]):qS prog (w8 H k y):=by
 refine cf fun c Z M r h=>?_
 unfold w8 at h;split at h
 ·rename_i i
  split at h
  ·rename_i X
   cases h;obtain⟨V,U,rfl⟩:=X;refine aC ?_;rw[List.append_nil];have:=Nx H k y I hc h0 i.toNat (by omega);rw[Int.toNat_of_nonneg V] at this;exact this
  ·cases h
 ·exact dN (B9 H k y hc h0) h
def UN(H:List P2)(y:List Nat):Prop:=
 y≠[]∧(∀c∈y,c<H.length)∧(∀i,i<y.length→0≤fL (dj (DC H y i) (DC H y (i+1)) (DC H y (i+2))))∧mw H y y.length=1
theorem FT(H:List P2)(y:List Nat):∀n,mw H y n≤n
 |0=>Nat.le_refl _
 |n+1=>by have:=FT H y n;unfold mw;split<;>omega
section
variable (PS:List P2)(k:Nat)(cyc:List Nat)(hP:∀p∈PS,pDg 200 p)(ho:UN PS cyc)(hl:cyc.length≤1000000)
include PS k cyc hP ho hl
theorem Ez(hK:cyc.length<K)(hb:ah f236=[b]):
  ∃F:Env→Bool→Env,∀Z d,(ad Z 6=.ptr 6 0∧ad Z 7=.func 269 [.ptr 6 0]∧ad Z 8=.int .i64 0∧ad Z 14=.int .i64 cyc.length∧ad Z 15=.int .i64 0)→
   aW (bh prog) (fun _=>[8,15]) (w8 PS k cyc) K 46 3 true (.loop b) ⟨Z,fh PS k cyc,d⟩=some (.exit 0,⟨F Z d,fh PS k cyc,d⟩)∧ad (F Z d) 8=.int .i64 1:=by
 refine bj rfl (fun Z=>ad Z 6=.ptr 6 0∧ad Z 7=.func 269 [.ptr 6 0]∧ad Z 8=.int .i64 0∧ad Z 14=.int .i64 cyc.length∧ad Z 15=.int .i64 0) (fun _ AC =>ad AC 8=.int .i64 1) ?_;rintro Z d ⟨h6,h7,h8,h14,h15⟩;obtain⟨-,-,D,C⟩:=ho;obtain⟨N,B⟩:∃N,aG f236=[N]:=⟨_,rfl⟩
 obtain⟨PP,u⟩:=cC B (l:=[0,0,3,0,0,16,63,0,0,256,1023,2047,4095]) (j:=12) (by kernel_rfl) (by decide);simp[aG,bQ,f236] at B;simp[ah,aE,f236] at hb;have M:aA [8,15] (ae b) Z ((8,.int .i64 ((mw PS cyc 0:Nat):Int))::(15,.int .i64 ((0:Nat):Int))::Z)=aA [8,15] (ae b) Z Z:=by simp[aA,h8,h15,mw]
 rw[←M];refine bz (α:=Nat) (fun n=>⟨aA [8,15] (ae b) Z ((8,.int .i64 ((mw PS cyc n:Nat):Int))::(15,.int .i64 (n:Int))::Z),fh PS k cyc,d⟩) (fun n=>cyc.length-n) (fun n=>n≤cyc.length) (.exit 0) _ d _ (by simp) ?_ K 0 (by omega) (by omega);intro n hn1;clear M;subst hb;subst B;by_cases FS:n<cyc.length
 ·left
  have h3:=D n FS;have o:=DD hP cyc n;have Y:=DD hP cyc (n+1);have W:=DD hP cyc (n+2);obtain⟨p,O⟩:=xE (DC PS cyc n);obtain⟨q,X⟩:=xE (DC PS cyc (n+1));obtain⟨r,Q⟩:=xE (DC PS cyc (n+2));rw[←O,←X,←Q] at h3;rw[←O] at o;rw[←X] at Y;rw[←Q] at W;obtain⟨p5,p6⟩:=gJ o.1 (by omega) (m:=2998) (by omega);obtain⟨p7,p8⟩:=gJ o.2 (by omega) (m:=2998) (by omega);obtain⟨q5,q6⟩:=gJ Y.1 (by omega) (m:=2998) (by omega);obtain⟨q7,q8⟩:=gJ Y.2 (by omega) (m:=2998) (by omega);obtain⟨r5,r6⟩:=gJ W.1 (by omega) (m:=2998) (by omega);obtain⟨r7,r8⟩:=gJ W.2 (by omega) (m:=2998) (by omega);obtain⟨px,py⟩:=p;obtain⟨qx,qy⟩:=q;obtain⟨rx,ry⟩:=r;simp only at p5 p6 p7 p8 q5 q6 q7 q8 r5 r6 r7 r8;obtain⟨S,hS⟩:=xE (fL (dj (px,py) (qx,qy) (rx,ry)));rw[←hS] at h3;have J:¬S<0:=by omega
  obtain⟨G,I⟩:=xE (n+1);obtain⟨m2,H⟩:=xE (n+2);have w1:IntKind.i64.wrap ((n:Int)+1)=(G:Int):=by rw[af];omega
  have w2:IntKind.i64.wrap ((n:Int)+2)=(m2:Int):=by rw[af];omega
  have s5:(n:Int)≤1000000000:=by omega
  have s6:(G:Int)≤1000000000:=by omega
  have s7:n≤1000000000:=by omega
  have s8:G≤1000000000:=by omega
  have y:=FT PS cyc n;have L:mw PS cyc (n+1)=mw PS cyc n+if !upV PS cyc n&&upV PS cyc (n+1) then 1 else 0:=rfl
  obtain⟨R,hRe⟩:=xE (mw PS cyc n);rw[←hRe] at L y ⊢;have w3:IntKind.i64.wrap ((R:Int)+1)=((R+1:Nat):Int):=by rw[af];omega
  obtain⟨U,hU⟩:=xE (upV PS cyc n);obtain⟨V,hV⟩:=xE (upV PS cyc (n+1));rw[←hU,←hV] at L;rw[←I] at L hV X;rw[←H] at Q;refine⟨G,?_⟩;cases U<;>cases V;all_goals
   simp at L;simp[fh,h6,h7,h14,FS,w8,kY,-aH,ak PP,be,aV,aX,u,w1,w2,w3,s5,s6,←O,←X,←Q,←hU,←hV,pA,ag,gP,ay,p5,p6,p7,p8,q5,q6,q7,q8,r5,r6,r7,r8,←hS,J,L,Nat.testBit];omega
 ·right
  have e:n=cyc.length:=by omega
  subst e;have Z5 :¬(cyc.length:Int)<cyc.length:=by omega
  simp[h14,C]
theorem Nt:
  kO prog 236 [.agg [.slice 0 0 PS.length none,.slice 1 0 k none],.slice 2 0 cyc.length none] [.cells false 2 (pC PS),.qK,.cells false 1 (cZ cyc)] (.bool true) [.cells false 2 (pC PS),.qK,.cells false 1 (cZ cyc)]:=by
 have R:aS prog 236=some f236:=by kernel_rfl
 obtain⟨b,X⟩:∃b,ah f236=[b]:=⟨_,rfl⟩
 obtain⟨F,V⟩:=Ez (K:=cyc.length+1) PS k cyc hP ho hl (by omega) X;simp[ah,aE,f236] at X;subst X;have Z:=fun U d h=>(V U d h).1
 have S:=fun U d h=>(V U d h).2
 clear V;simp only[fh] at Z;refine cE (lv:=(fun _=>[8,15])) (K:=(cyc.length+1)) (Lh PS k cyc hP ho.2.1 ho.1) ?_;simp[aa,R,f236,Z,S]
end
theorem yo(a:Int):∀(N:List (Int×Int)) (i:Nat),(qY N a=none→jZ (bh prog) 3 (.int .i64 a) (N.map nxE) i=some none)∧∀b,qY N a=some b→∃q,jZ (bh prog) 3 (.int .i64 a) (N.map nxE) i=some (some (q,.int .i64 b))
 | [],i=>⟨fun _=>rfl,fun b h=>by cases h⟩
 |p::N,i=>by
  have e:kU (bh prog) 20 3 (.int .i64 a) (.int .i64 p.1)=some (decide (a=p.1)):=by simp[kU]
  simp only[List.map_cons,jZ,nxE,e,qY];have Z:=yo a N (i+1);by_cases h:a=p.1
  ·simp only[h,decide_true,if_true]
   exact⟨fun h=>(by cases h),fun b X=>⟨i,(by cases X;rfl)⟩⟩
  ·simp only[h,decide_false,if_false]
   exact Z
theorem Vy(d:Nat)(x y:Int):kU (bh prog) (d+1) 3 (.int .i64 x) (.int .i64 y)=some (decide (x=y)):=by rw[kU];simp
theorem Vz(a b c d:Int):kU (bh prog) 20 102 (.agg [.int .i64 a,.int .i64 b]) (.agg [.int .i64 c,.int .i64 d])=some (decide (a=c)&&decide (b=d)):=by have r:List.range' 0 2=[0,1]:=rfl;have i:=Vy 18;rw[kU];simp only[Ls,G6,r,Xk];simp[jR,TyI.isAgg,i]
theorem yp(a:Int×Int):∀(N:List Sd) (i:Nat),(Sw N a=none→jZ (bh prog) 102 (.agg [.int .i64 a.1,.int .i64 a.2]) (N.map sdE) i=some none)∧∀b,Sw N a=some b→∃q,jZ (bh prog) 102 (.agg [.int .i64 a.1,.int .i64 a.2]) (N.map sdE) i=some (some (q,.int .i64 b))
 | [],i=>⟨fun _=>rfl,fun b h=>by cases h⟩
 |p::N,i=>by
  have e:=Vz a.1 a.2 p.1.1 p.1.2;simp only[List.map_cons,jZ,sdE,e,Sw];have Z:=yp a N (i+1);by_cases h:a.1=p.1.1∧a.2=p.1.2
  ·rw[if_pos h]
   simp only[h.1,h.2,decide_true,Bool.and_true];exact⟨fun h=>(by cases h),fun b X=>⟨i,(by cases X;rfl)⟩⟩
  ·rw[if_neg h]
   have V:(decide (a.1=p.1.1)&&decide (a.2=p.1.2))=false:=by rw[←Bool.not_eq_true];simpa using h
   rw[V];exact Z
def ouO(l:List Int):AV:=match l with
 | []=>.qF
 |_=>.slice 6 0 l.length none
def ouM(y:Mem)(l:List Int):Mem:=match l with
 | []=>y
 |_=>y++[.cells true 1 (iZ l)]
theorem zW(n:Nat):∀N:List (Int×Int),(N.map nxE).flatMap (fun e=>e.1.refs n++e.2.refs n)=[]
 | []=>rfl
 |p::N=>by simp[nxE,AV.refs,zW n N]
theorem sZ(n:Nat):∀N:List Sd,(N.map sdE).flatMap (fun e=>e.1.refs n++e.2.refs n)=[]
 | []=>rfl
 |p::N=>by simp[sdE,AV.refs,AV.af6,sZ n N]
theorem nK(n:Nat)(N:List (Int×Int)):afU.refs n (.map (N.map nxE))=[]:=zW n N
theorem nL(n:Nat)(N:List Sd):afU.refs n (.agq (N.map sdE))=[]:=sZ n N
theorem y8(n:Nat)(o:Bool)(e:Nat)(cs:List AV):afU.refs n (.cells o e cs)=AV.af6 n cs:=rfl
theorem DK(f:Nat→Option Nat)(o:Bool)(e:Nat)(cs:List AV):afU.ren f (.cells o e cs)=.cells o e (AV.af9 f cs):=rfl
theorem wz(n:Nat):afU.refs n .qK=[]:=rfl
theorem Cb(ks:List Sd)(N:List (Int×Int))(first:Int)(y:List Int)(W Y:Nat)(hc:xT N first N.length first []=some y)(hN:N≠[])(hl:N.length≤1000000)(hK:N.length<K)(I:ah f235=[b1,b])(H:Mem)(J:H=[.agq (ks.map sdE),.qK,.qK,.cells true 0 [.slice 1 0 W none,.slice 2 0 Y none],.map (N.map nxE),.qK]):
  ∃F:Env→Bool→Env,∀X d,(ad X 6=.map 4∧ad X 7=.int .i64 first∧ad X 13=.qF∧ad X 14=.int .i64 first)→
   aW (bh prog) (fun _=>[13,14]) cF K 93 3 true (.loop b) ⟨X,H,d⟩=some (.exit 2,⟨F X d,H++[.cells true 1 (iZ y)],d⟩)∧ad (F X d) 13=.slice 6 0 y.length none:=by
 refine bj rfl (fun X=>ad X 6=.map 4∧ad X 7=.int .i64 first∧ad X 13=.qF∧ad X 14=.int .i64 first) (fun _ C =>ad C 13=.slice 6 0 y.length none) ?_;rintro X d ⟨h6,h7,h13,h14⟩;simp[ah,aE,f235] at I;obtain⟨_,I⟩:=I;have R:H.length=6:=by rw[J];rfl
 rw[R];have B:aA [13,14] (ae b) X ((13,ouO [])::(14,.int .i64 first)::X)=aA [13,14] (ae b) X X:=by simp[aA,h13,h14,ouO]
 rw[←B];have V:H=ouM H []:=rfl;conv=>congr;ext C;lhs;lhs;rw[V]
 refine bz (α:=List Int×Int) (fun x=>⟨aA [13,14] (ae b) X ((13,ouO x.1)::(14,.int .i64 x.2)::X),ouM H x.1,d⟩) (fun x=>N.length-x.1.length) (fun x=>∃n,x.1.length+n=N.length∧xT N first n x.2 x.1=some y) (.exit 2) _ d _ (by simp) ?_ K ([],first) ⟨N.length,by simp,hc⟩ (by simpa using hK);rintro ⟨Z,a⟩ ⟨n,hn1,hw⟩;clear B V;simp only at hn1 hw;cases n with
 |zero=>
  right;simp only[xT,Option.some.injEq] at hw;subst hw;cases Z with
  |nil=>exact absurd (List.eq_nil_of_length_eq_zero (by simpa using hn1.symm)) hN
  |cons x Z=>
   have o:¬((Z.length:Int)+1<N.length):=by simp at hn1;omega
   subst I J;simp[ouO,ouM,h6,o]
 |succ n=>
  left;rw[xT] at hw;cases hlk:qY N a with
  |none=>rw[hlk] at hw;cases hw
  |some c=>
   rw[hlk] at hw;simp only at hw;split at hw
   ·cases hw
   ·rename_i Q
    obtain⟨q,O⟩:=(yo a N 0).2 c hlk;refine⟨(Z++[a],c),?_⟩;have U:(Z.length:Int)<N.length:=by omega
    subst I J;have u:0<N.length:=by omega
    have m:n+1≤1000000:=by omega
    have M:xT N first n c (Z++[a])=some y:=hw
    cases Z with
    |nil=>
     by_cases S:a=first
     ·subst S
      simp[-afU.refs,-afU.ren,ouO,ouM,h6,h7,u,lQ,kv,mG,O,nK,nL,qg,gh,nM,A7,zb,qX,fY,iZ,y8,DK,wz];exact⟨⟨n,by simp at hn1;omega,M⟩,by omega⟩
     ·simp[-afU.refs,-afU.ren,ouO,ouM,h6,h7,u,S,lQ,kv,mG,O,nK,nL,qg,gh,nM,A7,zb,qX,fY,iZ,y8,DK,wz]
      exact⟨⟨n,by simp at hn1;omega,M⟩,by omega⟩
    |cons x Z=>
     have S:¬a=first:=fun e=>Q ⟨e,by simp⟩
     have j:Z.length+1<N.length:=by simp at hn1;omega
     have U:(Z.length:Int)+1<N.length:=by omega
     have hz:iZ (x::Z)++[.int .i64 a]=iZ (x::(Z++[a])):=by simp[iZ]
     have G':(iZ (x::Z)).length=Z.length+1:=by simp[iZ]
     have L:(iZ (x::Z)).take (Z.length+1)=iZ (x::Z):=List.take_of_length_le (by omega);have G:(Z.length+1+1)*8≤140737488355328:=by omega
     have D:Z.length≤140737488355326:=by omega
     simp[-afU.refs,-afU.ren,ouO,ouM,h6,h7,S,U,lQ,kv,mG,O,nK,nL,qg,gh,nM,A7,zb,qX,fY,y8,DK,wz,HJ,DL,L,G,D,hz,G'];exact⟨⟨n,by simp at hn1;omega,by simpa using M⟩,by omega⟩
theorem TO{P:Program}{T:TypeId→Option TyI}{O:afF}{tp:Bool}{N m0:Nat}{lv:Code→List Nat}{Q:Exit→St→Prop}(y:P.follows .mixedOrders=true)(hT:cX P T)(H:qS P O){c:Code}{s:XS}(hs:cM c=true)(h:∃e Z,aW T lv O K N m0 tp c s=some (e,Z)∧Q e ⟨Z.env,Z.mem⟩):AWP P tp N m0 c ⟨s.env,s.mem⟩ Q:=by obtain⟨e,Z,X,V⟩:=h;exact xj y hT H hs X V
def WY(ks:List Sd)(y H:Nat)(seen:List Nat):Mem:=[.agq (ks.map sdE),.qK,.qK,.cells true 0 [.slice 1 0 y none,.slice 2 0 H none],.map ((cU ks seen).map nxE),.qK]
def ouV(ks:List Sd)(seen:List Nat)(t:Nat):AV:=if t=7 then .int .i64 (Br (-1) (cU ks seen)) else .undef
theorem uH(ks:List Sd)(seen:List Nat)(j:Nat):cU ks (seen++[j])=cU ks seen++(match bAt ks j with | some p=>[p] | none=>[]):=by unfold cU;rw[List.filterMap_append];congr 1;simp only[List.filterMap_cons,List.filterMap_nil];cases bAt ks j<;>rfl
theorem Iu(ks:List Sd)(I:List Int)(y H:Nat)(J:wo ks=true)(hc:CP (um ks)=some I):
  kO prog 235 [.agg [.slice 1 0 y none,.slice 2 0 H none],.map 0] [.agq (ks.map sdE),.qK,.qK] (.tuple [.slice 3 0 I.length none,.bool true]) [.agq (ks.map sdE),.qK,.qK,.cells true 1 (iZ I)]:=by
 obtain⟨o,M,Y,ok4⟩:=My J;have hT:=aK prog;refine ags.intro hT (fn:=f235) (by kernel_rfl) rfl rfl (Nat.le_of_ble_eq_true rfl) ?_;refine yK ?_;refine xj aj hT (aw _) (lv:=fun _=>[]) (K:=1) (s:=⟨dC 0 [.agg [.slice 1 0 y none,.slice 2 0 H none],.map 0],[.agq (ks.map sdE),.qK,.qK],false⟩) rfl (s' :=⟨[(5,.bool false),(4,.qF),(2,.ptr 3 0),(0,.agg [.slice 1 0 y none,.slice 2 0 H none]),(1,.map 0)],[.agq (ks.map sdE),.qK,.qK,.cells true 0 [.slice 1 0 y none,.slice 2 0 H none]],false⟩) (e:=.normal) (by simp) ?_;refine yK ?_;refine xj aj hT (aw _) (lv:=fun _=>[]) (K:=1) (s:=⟨_,_,false⟩) rfl (s' :=⟨[(6,.map 4),(17,.map 4),(5,.bool false),(4,.qF),(2,.ptr 3 0),(0,.agg [.slice 1 0 y none,.slice 2 0 H none]),(1,.map 0)],[.agq (ks.map sdE),.qK,.qK,.cells true 0 [.slice 1 0 y none,.slice 2 0 H none],.map []],false⟩) (e:=.normal) (by simp) ?_;refine yK ?_;refine xj aj hT (aw _) (lv:=fun _=>[]) (K:=1) (s:=⟨_,_,false⟩) rfl (s' :=⟨[(7,.int .i64 (-1)),(6,.map 4),(17,.map 4),(5,.bool false),(4,.qF),(2,.ptr 3 0),(0,.agg [.slice 1 0 y none,.slice 2 0 H none]),(1,.map 0)],[.agq (ks.map sdE),.qK,.qK,.cells true 0 [.slice 1 0 y none,.slice 2 0 H none],.map []],false⟩) (e:=.normal) (by simp) ?_;refine yK ?_;show AWP _ _ _ _ _ ⟨[(7,.int .i64 (-1)),(6,.map 4),(17,.map 4),(5,.bool false),(4,.qF),(2,.ptr 3 0),(0,.agg [.slice 1 0 y none,.slice 2 0 H none]),(1,.map 0)],[.agq (ks.map sdE),.qK,.qK,.cells true 0 [.slice 1 0 y none,.slice 2 0 H none],.map []]⟩ _
 refine OQ aj hT (aw _) (lv:=fun _=>[]) (K:=1) (b:=0) (es:=ks.map sdE) (s:=⟨[(7,.int .i64 (-1)),(6,.map 4),(17,.map 4),(5,.bool false),(4,.qF),(2,.ptr 3 0),(0,.agg [.slice 1 0 y none,.slice 2 0 H none]),(1,.map 0)],[.agq (ks.map sdE),.qK,.qK,.cells true 0 [.slice 1 0 y none,.slice 2 0 H none],.map []],false⟩) (s1:=⟨[(18,.map 0),(7,.int .i64 (-1)),(6,.map 4),(17,.map 4),(5,.bool false),(4,.qF),(2,.ptr 3 0),(0,.agg [.slice 1 0 y none,.slice 2 0 H none]),(1,.map 0)],[.agq (ks.map sdE),.qK,.qK,.cells true 0 [.slice 1 0 y none,.slice 2 0 H none],.map []],false⟩)
  rfl rfl rfl rfl (Lt) rfl rfl rfl rfl rfl rfl rfl rfl rfl rfl rfl rfl ?_ ?_ ?_ ?_ rfl rfl [7] _ (ouV ks) (WY ks y H) (fun seen=>seen.Nodup∧∀j∈seen,j<ks.length) rfl ?_ ?_ ?_ ?_ ?_ ?_ ?_
 ·decide
 ·decide
 ·rfl
 ·simp
 ·decide
 ·rfl
 ·rintro seen ⟨_,_⟩
  refine⟨rfl,rfl,rfl,fun x hx=>?_⟩;simp only[WY,lM] at hx;rcases hx with rfl | rfl | rfl | rfl | rfl | rfl
  ·exact nL _ _
  ·rfl
  ·rfl
  ·rfl
  ·exact nK _ _
  ·rfl
 ·intro seen t _ L
  simp only[List.mem_singleton] at L;subst L;rfl
 ·refine⟨⟨List.nodup_nil,fun j Q=>(by cases Q)⟩,rfl,fun t L=>?_⟩
  simp only[List.mem_singleton] at L;subst L;rfl
 ·rintro seen env ⟨i1,i2⟩ hs hv UV
  have U:=hv 7 (by simp);have O:=hs 6 (by decide);simp[] at O;simp only[ouV,if_true] at U;have W:=M2 i1 i2 (fun j Q=>UV j (by simpa using Q));have hge:=SY Y (seen:=seen);have V:=UE W hge;have Z:∀a,qY (cU ks seen) a=qY (um ks) a:=Sv W (HX M)
  have u:(cU ks seen).length=(um ks).length:=W.length_eq;have hw:∀n a l,xT (cU ks seen) (Br (-1) (cU ks seen)) n a l=xT (um ks) (Br (-1) (um ks)) n a l:=by
   intro n;induction n with
   |zero=>intro a l;rfl
   |succ n ih=>intro a l;simp only[xT,Z,ih];rw[V]
  have G :xT (cU ks seen) (Br (-1) (cU ks seen)) (cU ks seen).length (Br (-1) (cU ks seen)) []=some I:=by rw[hw,u];rw[V];exact hc
  have hN:cU ks seen≠[]:=fun e=>o (by rw[e] at u;exact List.eq_nil_of_length_eq_zero u.symm)
  have hNl:(cU ks seen).length≤1000000:=by rw[u];have:(um ks).length≤(List.range ks.length).length:=List.length_filterMap_le _ _;rw[List.length_range] at this;omega
  obtain⟨b1,b,X⟩:∃b1 b,ah f235=[b1,b]:=⟨_,_,rfl⟩
  obtain⟨F,hF⟩:=Cb (K:=(cU ks seen).length+1) ks (cU ks seen) _ I y H G hN hNl (by omega) X _ rfl;simp[ah,aE,f235] at X;obtain⟨_,X⟩:=X;subst X;show AWP _ _ _ _ _ _ _
  refine TO aj hT (aw _) (lv:=fun _=>[13,14]) (K:=(cU ks seen).length+1) (s:=⟨_,_,false⟩) rfl ?_;show∃e B,aW (bh prog) (fun _=>[13,14]) cF ((cU ks seen).length+1) 93 3 true _ _=some (e,B)∧_
  simp[-afU.refs,-afU.ren,O,U,hF];have hcl:0<I.length:=by have:=Ac G;have:0<(cU ks seen).length:=List.length_pos_iff.2 hN;omega
  refine⟨_,_,⟨rfl,rfl⟩,.inr rfl,[6],rfl,.inl ⟨rfl,?_⟩⟩;have e2:decide (0<I.length)=true:=by simpa using hcl
  rw[e2];simp[AV.ren,AV.af9,rho,agK,DL,List.idxOf?,List.findIdx?,List.findIdx?.go]
 ·rintro seen env j k v ⟨i1,i2⟩ hs hv Q hns
  have U:=hv 7 (by simp);have D:=hs 1 (by decide);have O:=hs 6 (by decide);simp[] at D O;simp only[ouV,if_true] at U;rw[List.getElem?_map] at Q;simp only[Option.map_eq_some_iff] at Q;obtain⟨s,hs1,hs2⟩:=Q;have hkv:=Prod.mk.inj hs2;obtain⟨hk,hvv⟩:=hkv;subst hk hvv;have hjl:=gL hs1;have J':(seen++[j]).Nodup∧∀i∈seen++[j],i<ks.length:=by
   constructor
   ·rw[List.nodup_append];exact⟨i1,by simp,fun a ha b X=>by simp at X;subst X;rintro rfl;exact hns ha⟩
   ·intro i hi
    rcases List.mem_append.1 hi with h | h
    ·exact i2 i h
    ·simp at h;subst h;exact hjl
  have S :(seen++[j]).Nodup∧∀i,i∈seen∨i=j→i<ks.length:=⟨J'.1,fun i hi=>J'.2 i (by simpa using hi)⟩
  cases Z:Sw ks (s.1.2,s.1.1) with
  |some t=>
   have X:bAt ks j=none:=by simp[bAt,hs1,Z]
   have R:cU ks (seen++[j])=cU ks seen:=by rw[uH,X];simp
   obtain⟨q,C⟩:=(yp (s.1.2,s.1.1) ks 0).2 t Z;rw[show(List.length _+1:Nat)=6 from rfl];simp[-afU.refs,-afU.ren,WY,ouV,D,C,R,lQ,kv,mG,Mf,jR,ux,uy,bN,qX,List.range'];exact⟨_,_,⟨rfl,rfl⟩,.inr rfl,S,by simpa using U,rfl⟩
  |none=>
   have X:bAt ks j=some s.1:=by simp[bAt,hs1,Z]
   have R:cU ks (seen++[j])=cU ks seen++[s.1]:=by rw[uH,X]
   have V:Br (-1) (cU ks (seen++[j]))=if Br (-1) (cU ks seen)<0∨s.1.1<Br (-1) (cU ks seen) then s.1.1 else Br (-1) (cU ks seen):=by rw[R,Pg];rfl
   have C:=(yp (s.1.2,s.1.1) ks 0).1 Z;have hfr:=HW M hns X;have N:=(yo s.1.1 (cU ks seen) 0).1 hfr;rw[show(List.length _+1:Nat)=6 from rfl];unfold WY ouV;rw[V,R];obtain⟨m,hm⟩:=xE (Br (-1) (cU ks seen));rw[←hm] at U ⊢;clear V;by_cases c1:m<0
   ·simp[-afU.refs,-afU.ren,D,O,U,C,N,c1,lQ,fz,kv,mG,Mf,jR,ux,uy,bN,qX,List.range']
    exact⟨_,_,⟨rfl,rfl⟩,.inl rfl,S,rfl,rfl⟩
   ·by_cases c2:s.1.1<m
    ·simp[-afU.refs,-afU.ren,D,O,U,C,N,c1,c2,lQ,fz,kv,mG,Mf,jR,ux,uy,bN,qX,List.range']
     exact⟨_,_,⟨rfl,rfl⟩,.inl rfl,S,rfl,rfl⟩
    ·simp[-afU.refs,-afU.ren,D,O,U,C,N,c1,c2,lQ,fz,kv,mG,Mf,jR,ux,uy,bN,qX,List.range']
     exact⟨_,_,⟨rfl,rfl⟩,.inl rfl,S,U,rfl⟩
def W4:List (AV×AV)→Option (List Sd)
 | []=>some []
 |(.agg [.int .i64 a,.int .i64 b],.int .i64 t)::l=>match W4 l with
  |some r=>some (((a,b),t)::r)
  |none=>none
 |_=>none
theorem FW:∀{es:List (AV×AV)} {ks:List Sd},W4 es=some ks→es=ks.map sdE
 | [],ks,h=>by cases h;rfl
 |e::es,ks,h=>by
  unfold W4 at h;split at h
  next Z=>cases Z
  ·rename_i a b t l Z
   cases Z;split at h
   ·rename_i r X
    cases h;rw[FW X];rfl
   ·cases h
  ·cases h
def Sy(M:Mem)(b:Nat):Option (List (AV×AV)):=match M[b]? with
 |some (.map es)=>some es
 |some (.agq es)=>some es
 |_=>none
theorem U1(n:Nat)(s:Sd):(sdE s).1.under n=true∧(sdE s).2.under n=true:=by simp[sdE,AV.under,AV.afX]
theorem Px(f:Nat→Option Nat)(s:Sd):((sdE s).1.ren f,(sdE s).2.ren f)=sdE s:=by simp[sdE,AV.ren,AV.af9]
theorem zi(M:Mem)(ks:List Sd)(y:List Int)(b b1 I W Y:Nat)(hb1:b1<M.length)(hb2:I<M.length)(H:Sy M b=some (ks.map sdE))(J:wo ks=true)(hc:CP (um ks)=some y):
  kO prog 235 [.agg [.slice b1 0 W none,.slice I 0 Y none],.map b] M (.tuple [.slice M.length 0 y.length none,.bool true]) (M++[.cells true 1 (iZ y)]):=by
 have S:b<M.length:=by
  unfold Sy at H;split at H
  next es h=>exact(gL h)
  next es h=>exact(gL h)
  ·cases H
 have:=kO.frame (M:=M) (new:=[.cells true 1 (iZ y)]) [b,b1,I] (m:=[.agq (ks.map sdE),.qK,.qK]) rfl (by intro k V;simp at V;rcases V with rfl | rfl | rfl<;>assumption) (by rfl) (fun i s Z=>by
  match i with
  |0=>
   simp at Z;subst Z;refine⟨ks.map sdE,?_,rfl,fun j e X=>?_⟩
   ·unfold Sy at H
    split at H
    next es h=>cases H;exact .inr h
    next es h=>cases H;exact .inl h
    ·cases H
   ·rw[List.getElem?_map] at X
    simp only[Option.map_eq_some_iff] at X;obtain⟨R,U,rfl⟩:=X;refine⟨U1 _ _,?_⟩;rw[Px,List.getElem?_map,U];rfl
  |1=>simp at Z;subst Z;trivial
  |2=>simp at Z;subst Z;trivial
  |i+3=>simp at Z) rfl (Iu ks y W Y J hc)
 simpa [AV.af9,AV.ren,fj,afU.ren,DL] using this
def Ol(c:Go.Eng.Callee)(args:List AV)(M:Mem):Option y9:=match c,args with
 |.fn 235,[.agg [.slice b1 0 _ none,.slice b2 0 _ none],.map b]=>match Sy M b with
  |some es=>match W4 es with
   |some ks=>match CP (um ks) with
    |some cyc=>if wo ks&&(decide (b1<M.length)&&decide (b2<M.length)) then some ⟨.tuple [.slice M.length 0 cyc.length none,.bool true],none,[.cells true 1 (iZ cyc)]⟩ else none
    |none=>none
   |none=>none
  |none=>none
 |_,_=>none
theorem RC:qS prog Ol:=by
 refine cf fun c R M r h=>?_
 unfold Ol at h;split at h
 ·split at h
  ·rename_i es X
   split at h
   ·rename_i Q V
    split at h
    ·rename_i U S
     split at h
     ·rename_i Z
      simp only[Bool.and_eq_true,decide_eq_true_eq] at Z;cases h;refine aC (zi M Q U _ _ _ _ _ Z.2.1 Z.2.2 ?_ Z.1 S);rw[X,FW V]
     ·cases h
    ·cases h
   ·cases h
  ·cases h
 ·cases h
noncomputable def PM:afF:=afF.or Ol (ag bn)
theorem On:qS prog PM:=qS.or RC cP
end Go.Proofs
