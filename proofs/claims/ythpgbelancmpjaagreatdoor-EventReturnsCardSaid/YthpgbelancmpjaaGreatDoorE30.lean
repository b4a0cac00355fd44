/- See E54. -/
import Derived.Test.YthpgbelancmpjaaGreatDoorE24
set_option linter.all false
set_option maxRecDepth 100000
set_option maxHeartbeats 40000000
namespace Go.Proofs
open Go.Eng
open Tryz
theorem Lu(a b c:P2)(ha:pDg 3000 a)(hb:pDg 3000 b)(hc:pDg 3000 c)(M:Mem):kO prog 179 [pA a,pA b,pA c] M (.str (aj (cN a b c))) M:=by
 have hG:aT prog 179=some f179:=by kernel_rfl
 obtain⟨j,Y⟩:=a;obtain⟨b1,b2⟩:=b;obtain⟨c1,c2⟩:=c;obtain⟨O,N⟩:=ha;obtain⟨L,K⟩:=hb;obtain⟨G,F⟩:=hc;simp only at O N L K G F;have D:=DD L O (m:=6000) (by omega) (by omega);have C:=DD F N (m:=6000) (by omega) (by omega);have B:=DD K N (m:=6000) (by omega) (by omega);have A:=DD G O (m:=6000) (by omega) (by omega);have W:=dE D C;have J:=dE B A;obtain⟨p1,p2⟩:=cO O (by omega) (by omega) (by omega) (by omega);obtain⟨p3,p4⟩:=cO N (by omega) (by omega) (by omega) (by omega);obtain⟨q1,q2⟩:=cO L (by omega) (by omega) (by omega) (by omega);obtain⟨q3,q4⟩:=cO K (by omega) (by omega) (by omega) (by omega);obtain⟨r1,r2⟩:=cO G (by omega) (by omega) (by omega) (by omega);obtain⟨r3,r4⟩:=cO F (by omega) (by omega) (by omega) (by omega);obtain⟨I,H⟩:=cO D (by omega) (by omega) (by omega) (by omega);obtain⟨s3,s4⟩:=cO C (by omega) (by omega) (by omega) (by omega);obtain⟨s5,s6⟩:=cO B (by omega) (by omega) (by omega) (by omega);obtain⟨s7,s8⟩:=cO A (by omega) (by omega) (by omega) (by omega);obtain⟨t1,t2⟩:=cO W (by omega) (by omega) (by omega) (by omega);obtain⟨t3,t4⟩:=cO J (by omega) (by omega) (by omega) (by omega);clear W J D C B A O N L K G F;unfold cN;simp only;obtain⟨x1,Z⟩:=xE (b1-j);obtain⟨x2,X⟩:=xE (c2-Y);obtain⟨x3,V⟩:=xE (b2-Y);obtain⟨x4,U⟩:=xE (c1-j);rw[←Z] at I H t1 t2;rw[←X] at s3 s4 t1 t2;rw[←V] at s5 s6 t3 t4;rw[←U] at s7 s8 t3 t4;rw[←Z,←X,←V,←U];obtain⟨y1,S⟩:=xE (x1*x2);obtain⟨y2,R⟩:=xE (x3*x4);rw[←S] at t1 t2;rw[←R] at t3 t4;rw[←S,←R];refine ak bK ?_ M;obtain⟨o1,o2,u⟩:∃o1 o2,aJ f179=[o1,o2]:=⟨_,_,rfl⟩
 obtain⟨o,Yv⟩:=vE u (l:=[0,1,0,4,15,0,32,0,128,511,1023,2047]) (l' :=[0,0,2,0,8,30,0,64,0,256,1022,2046,4095,8191]) (by kernel_rfl);have k1:fc [0,1,0,4,15,0,32,0,128,511,1023,2047] 11=true:=by decide
 have k2:fc [0,0,2,0,8,30,0,64,0,256,1022,2046,4095,8191] 13=true:=by decide
 simp[aJ,bR,f179] at u;obtain⟨rfl,rfl⟩:=u;simp[aa,hG,f179,-aK,ao o,ao Yv,br,bk,bl,k1,k2,pA,ar,ag,aE,aH,p1,p2,p3,p4,q1,q2,q3,q4,r1,r2,r3,r4,I,H,s3,s4,s5,s6,s7,s8,t1,t2,t3,t4,←Z,←X,←V,←U,←S,←R,Nat.testBit]
noncomputable def AL(f:FuncId)(args:List AV):Option AV:=
 match f,args with
 |179,[.agg [.str a,.str b],.agg [.str c,.str d],.agg [.str e,.str f]]=>match ek a,ek b,ek c,ek d,ek e,ek f with
  |some a,some b,some c,some d,some e,some f=>if (au a.num.natAbs).length≤2999∧(au a.den).length≤2999∧(au b.num.natAbs).length≤2999∧(au b.den).length≤2999∧(au c.num.natAbs).length≤2999∧(au c.den).length≤2999∧
    (au d.num.natAbs).length≤2999∧(au d.den).length≤2999∧(au e.num.natAbs).length≤2999∧(au e.den).length≤2999∧(au f.num.natAbs).length≤2999∧(au f.den).length≤2999 then some (.str (aj (cN (a,b) (c,d) (e,f)))) else none
  |_,_,_,_,_,_=>none
 |f,args=>aE f args
theorem Mn:qS prog (ag AL):=bM fun f U v h mem=>by
 unfold AL at h;split at h
 ·split at h
  ·rename_i a b c d e f S R O N M L
   split at h
   ·rename_i K
    obtain⟨G,F,D,C,B,A,u,o,m,Z,X,V⟩:=K;cases h;rw[aA S,aA R,aA O,aA N,aA M,aA L];exact Lu (a,b) (c,d) (e,f) ⟨(cQ ⟨G,F⟩).mono (by omega) (by omega),(cQ ⟨D,C⟩).mono (by omega) (by omega)⟩
     ⟨(cQ ⟨B,A⟩).mono (by omega) (by omega),(cQ ⟨u,o⟩).mono (by omega) (by omega)⟩ ⟨(cQ ⟨m,Z⟩).mono (by omega) (by omega),(cQ ⟨X,V⟩).mono (by omega) (by omega)⟩ mem
   ·cases h
  ·cases h
 ·have:=bK.fn _ _ mem ⟨v,none,[]⟩ (by unfold ag;simp only;rw[h])
  simpa [aee.mem] using this
theorem fZ{n m:Nat}{q:Rat}(h:dg n n q)(h0:0<n)(H:n≤m):(au q.num.natAbs).length≤m∧(au q.den).length≤m:=by have:=h.lens h0 h0;exact⟨by omega,by omega⟩
theorem Lw(a b c:P2)(H:pDg 2999 a)(I:pDg 2999 b)(hc:pDg 2999 c)(M:Mem):kO prog 99 [pA a,pA b,pA c] M (.int .i64 (ky (cN a b c))) M:=by
 have F:aT prog 99=some f99:=by kernel_rfl
 obtain⟨D,C⟩:=a;obtain⟨B,A⟩:=b;obtain⟨u,o⟩:=c;obtain⟨Z,X⟩:=fZ H.1 (by omega) (Nat.le_refl _);obtain⟨V,U⟩:=fZ H.2 (by omega) (Nat.le_refl _);obtain⟨S,R⟩:=fZ I.1 (by omega) (Nat.le_refl _);obtain⟨O,N⟩:=fZ I.2 (by omega) (Nat.le_refl _);obtain⟨r1,r2⟩:=fZ hc.1 (by omega) (Nat.le_refl _);obtain⟨L,K⟩:=fZ hc.2 (by omega) (Nat.le_refl _);refine ak Mn ?_ M;simp only at Z X V U S R O N r1 r2 L K;obtain⟨y,G⟩:=xE (cN (D,C) (B,A) (u,o));rw[←G];simp[aa,F,f99,pA,ar,ag,AL,aE,aH,bj,be,Z,X,V,U,S,R,O,N,r1,r2,L,K,←G]
theorem kg(d:Nat)(x y:List UInt8):jU (aV prog) (d+1) 52 (.str x) (.str y)=some (x==y):=by rw[jU];simp
theorem QN(p q:P2):jU (aV prog) 20 79 (pA p) (pA q)=some (decide (p.1=q.1)&&decide (p.2=q.2)):=by have i:=kg 18;rw[jU];simp[pA,QD,iY,TyI.isAgg,i,F9]
theorem Dw(p:P2):∀(L:List P2) (i:Nat),p∉L→jd (aV prog) 79 (pA p) (L.map pmE) i=some none
 | [],i,_=>rfl
 |q::L,i,h=>by
  have e:=QN p q;have X:(decide (p.1=q.1)&&decide (p.2=q.2))=false:=by rw[←Bool.not_eq_true];intro Z;simp only[Bool.and_eq_true,decide_eq_true_eq] at Z;exact h (by rw[show p=q from Prod.ext Z.1 Z.2];exact List.mem_cons_self ..)
  simp only[List.map_cons,jd,pmE,e,X];exact Dw p L (i+1) (fun Z=>h (List.mem_cons_of_mem _ Z))
theorem QO(p:P2):lr (aV prog) 20 79 (pA p)=true:=by simp[pA,lr,R7,iY,TyI.isAgg]
noncomputable def gh(f:FuncId)(args:List AV):Option AV:=
 match f,args with
 |99,[.agg [.str a,.str b],.agg [.str c,.str d],.agg [.str e,.str f]]=>match ek a,ek b,ek c,ek d,ek e,ek f with
  |some a,some b,some c,some d,some e,some f=>if (au a.num.natAbs).length≤2998∧(au a.den).length≤2998∧(au b.num.natAbs).length≤2998∧(au b.den).length≤2998∧(au c.num.natAbs).length≤2998∧(au c.den).length≤2998∧
    (au d.num.natAbs).length≤2998∧(au d.den).length≤2998∧(au e.num.natAbs).length≤2998∧(au e.den).length≤2998∧(au f.num.natAbs).length≤2998∧(au f.den).length≤2998 then some (.int .i64 (ky (cN (a,b) (c,d) (e,f)))) else none
  |_,_,_,_,_,_=>none
 |47,[.agg [.str a,.str b]]=>if a.length≤1000000000∧b.length≤1000000000 then some (.int .i64 (sP [a,b])) else none
 |f,args=>aE f args
theorem AK:qS prog (ag gh):=bM fun f S v h mem=>by
 unfold gh at h;split at h
 ·split at h
  ·rename_i a b c d e f R O Z N M L
   split at h
   ·rename_i K
    obtain⟨G,F,D,C,B,A,u,o,m,X,V,U⟩:=K;cases h;rw[aA R,aA O,aA Z,aA N,aA M,aA L];exact Lw (a,b) (c,d) (e,f) ⟨(cQ ⟨G,F⟩).mono (by omega) (by omega),(cQ ⟨D,C⟩).mono (by omega) (by omega)⟩
     ⟨(cQ ⟨B,A⟩).mono (by omega) (by omega),(cQ ⟨u,o⟩).mono (by omega) (by omega)⟩ ⟨(cQ ⟨m,X⟩).mono (by omega) (by omega),(cQ ⟨V,U⟩).mono (by omega) (by omega)⟩ mem
   ·cases h
  ·cases h
 ·split at h
  next Z=>cases h;exact gA _ _ Z.1 Z.2 mem
  ·cases h
 ·have:=bK.fn _ _ mem ⟨v,none,[]⟩ (by unfold ag;simp only;rw[h])
  simpa [aee.mem] using this
theorem WO{p:P2}(h:pDg 200 p):sP [aj p.1,aj p.2]=0:=by simp[sP,gm h.1,gm h.2]
noncomputable def oD(H:List P2)(I:List Tr):y9:=fun c Z M=>match c,Z with
 |.fn 100,[.agg [.slice b 0 n none,.slice c 0 k none]]=>open Classical in if n=H.length∧k=I.length∧(∃o,M[b]? =some (.cells o 2 (pC H)))∧(∃o,M[c]? =some (.cells o 3 (tC I))) then some ⟨.bool true,none,[]⟩ else none
 |c,Z=>ag gh c Z M
def vf(c:Code):List Nat:=if (ae c).contains 32 then [32] else if (ae c).contains 48 then [48] else if (ae c).contains 53 then [53] else []
def msB(n k:Nat):aek:=.cells true 0 [.slice 0 0 n none,.slice 1 0 k none]
variable{K:Nat}{b b3 b4 b5:Code}
theorem xd(H:List P2)(I:List Tr)(W:∀p∈H,pDg 200 p)(Y:H.Nodup)(hl:H.length≤1000000000)(hK:H.length<K){b2:Code}(J:ah f46=[b,b2,b3,b4,b5]):
  ∃F:Env→Bool→Env,∀Z d,(ad Z 30=.slice 0 0 H.length none∧ad Z 31=.int .i64 H.length∧ad Z 32=.int .i64 0∧ad Z 3=.map 3∧ad Z 1=.ptr 2 0)→
   aS (aV prog) vf (oD H I) K 105 2 true (.loop b) ⟨Z,[.cells false 2 (pC H),.cells false 3 (tC I),msB H.length I.length,.map []],d⟩=some (.exit 1,⟨F Z d,[.cells false 2 (pC H),.cells false 3 (tC I),msB H.length I.length,.map (H.map pmE)],d⟩)∧ad (F Z d) 1=.ptr 2 0:=by
 refine bw (L:=[32]) (by simp[ah,aG,f46] at J;rw[←J.1];rfl) (fun Z=>ad Z 30=.slice 0 0 H.length none∧ad Z 31=.int .i64 H.length∧ad Z 32=.int .i64 0∧ad Z 3=.map 3∧ad Z 1=.ptr 2 0) (fun _ o =>ad o 1=.ptr 2 0) ?_;rintro Z d ⟨YF,h31,h32,h3,V⟩;simp[ah,aG,f46] at J;obtain⟨J,-⟩:=J;have M:aw [32] (ae b) Z ((32,.int .i64 ((0:Nat):Int))::Z)=aw [32] (ae b) Z Z:=by simp[aw,h32]
 rw[←M];refine bO (α:=Nat) (fun n=>⟨aw [32] (ae b) Z ((32,.int .i64 (n:Int))::Z),[.cells false 2 (pC H),.cells false 3 (tC I),msB H.length I.length,.map ((H.take n).map pmE)],d⟩) (fun n=>H.length-n) (fun n=>n≤H.length) (.exit 1) _ d _ (by simp) ?_ K 0 (by omega) (by omega);intro n Y9;clear M;subst J;by_cases R:n<H.length
 ·left
  obtain⟨p,U⟩:∃q,H[n]? =some q:=⟨H[n],List.getElem?_eq_getElem R⟩
  obtain⟨G,k2,k3,k4⟩:=zI U;have X:=W p (List.mem_of_getElem? U);have O:p∉H.take n:=by intro N;obtain⟨j,hj,D⟩:=List.mem_iff_getElem.1 N;rw[List.length_take] at hj;rw[List.getElem_take] at D;have V:=List.getElem?_eq_some_iff.1 U;obtain⟨V,h2⟩:=V;have:=(List.getElem_inj (h₀:=by omega) (h₁:=V) Y).1 (D.trans h2.symm);omega
  have f1:=Dw p (H.take n) 0 O;have f2:=QO p;have S:(H.take (n+1)).map pmE=(H.take n).map pmE++[pmE p]:=by rw[List.take_add_one,U];simp
  have w1:IntKind.i64.wrap ((n:Int)+1)=((n+1:Nat):Int):=by rw[af];omega
  have C:=WO X;have B:=iM X.1 (by omega) (by omega);have A:=iM X.2 (by omega) (by omega);obtain⟨m,N⟩:=xE (n+1);rw[←N] at w1 S;have r1:=Gd 4 (H.take n);obtain⟨E,u⟩:=xE ((H.take n).map pmE);rw[←u] at f1 S r1;rw[←u];refine⟨m,?_⟩;obtain⟨px,py⟩:=p;simp only[pA,pmE] at f1 f2 S G C B A;simp[YF,h31,h3,R,oD,ag,gh,G,k4,C,B,A,w1,f1,f2,S,r1,msB,uF,rQ,kH,jq,fl];omega
 ·right
  have e:H.take n=H:=List.take_of_length_le (by omega);rw[e];have XM :¬(n:Int)<H.length:=by omega
  simp[h31,V,R]
def Xo(H:List P2)(t:Tr):Prop:=∃p q r,H[t.1]? =some p∧H[t.2.1]? =some q∧H[t.2.2]? =some r∧0<ky (cN p q r)
variable{b1:Code}
theorem xe(I:List P2)(H:List Tr)(E:List (AV×AV))(W:∀p∈I,pDg 200 p)(hT:∀t∈H,Xo I t)(hl:I.length≤1000000000)(Yb:H.length≤1000000000)(hE:E.flatMap (fun e=>e.1.refs 4++e.2.refs 4)=[])(hK:H.length<K+5)(J:ah f46=[b1,b,b3,b4,b5]):
  ∃F:Env→Bool→Env,∀Z d,(ad Z 1=.ptr 2 0∧ad Z 46=.slice 1 0 H.length none∧ad Z 47=.int .i64 H.length∧ad Z 48=.int .i64 0)→
   aS (aV prog) vf (oD I H) (K+5) 105 2 true (.loop b) ⟨Z,[.cells false 2 (pC I),.cells false 3 (tC H),msB I.length H.length,.map E],d⟩=some (.exit 3,⟨F Z d,[.cells false 2 (pC I),.cells false 3 (tC H),msB I.length H.length,.map E],d⟩)∧ad (F Z d) 1=.ptr 2 0:=by
 refine bw (L:=[48]) (by simp[ah,aG,f46] at J;rw[←J.2.1];rfl) (fun Z=>ad Z 1=.ptr 2 0∧ad Z 46=.slice 1 0 H.length none∧ad Z 47=.int .i64 H.length∧ad Z 48=.int .i64 0) (fun _ AC =>ad AC 1=.ptr 2 0) ?_;rintro Z d ⟨h1,h46,h47,h48⟩;obtain⟨X,N⟩:∃X,aJ f46=[X]:=⟨_,rfl⟩
 obtain⟨UV,YC⟩:=de N (l:=[0,1,0,4,15,31,0,64,0,256,960,1984,0,4096,0,16384,61440,126976,262143,524287]) (j:=19) (by kernel_rfl) (by decide);simp[aJ,bR,f46] at N;simp[ah,aG,f46] at J;obtain⟨-,J,-⟩:=J;have XW:aw [48] (ae b) Z ((48,.int .i64 ((0:Nat):Int))::Z)=aw [48] (ae b) Z Z:=by simp[aw,h48]
 rw[←XW];refine bO (α:=Nat) (fun n=>⟨aw [48] (ae b) Z ((48,.int .i64 (n:Int))::Z),[.cells false 2 (pC I),.cells false 3 (tC H),msB I.length H.length,.map E],d⟩) (fun n=>H.length-n) (fun n=>n≤H.length) (.exit 3) _ d _ (by simp) ?_ (K+5) 0 (by omega) (by omega);intro n Y9;clear XW;subst J;subst N;by_cases M:n<H.length
 ·left
  obtain⟨t,ht⟩:∃q,H[n]? =some q:=⟨H[n],List.getElem?_eq_getElem M⟩
  obtain⟨k1,k2⟩:=SZ ht;obtain⟨p,q,r,U,R,O,V⟩:=hT t (List.mem_of_getElem? ht);obtain⟨G,D,C⟩:=t;simp only at U R O k1;obtain⟨p1,-,-,p4⟩:=zI U;obtain⟨q1,-,-,q4⟩:=zI R;obtain⟨r1,-,-,r4⟩:=zI O;have a1:=gL U;have a2:=gL R;have a3:=gL O;have B :¬((G:Int)<0):=by omega
  have A :¬((D:Int)<0):=by omega
  have u :¬((C:Int)<0):=by omega
  have o :¬((I.length:Int)≤G):=by omega
  have Y :¬((I.length:Int)≤D):=by omega
  have adB :¬((I.length:Int)≤C):=by omega
  have g1:¬I.length≤G:=by omega
  have g2:¬I.length≤D:=by omega
  have g3:¬I.length≤C:=by omega
  have hp:=W p (List.mem_of_getElem? U);have hq:=W q (List.mem_of_getElem? R);have hr:=W r (List.mem_of_getElem? O);obtain⟨p5,p6⟩:=fZ hp.1 (by omega) (m:=2998) (by omega);obtain⟨p7,p8⟩:=fZ hp.2 (by omega) (m:=2998) (by omega);obtain⟨q5,q6⟩:=fZ hq.1 (by omega) (m:=2998) (by omega);obtain⟨q7,q8⟩:=fZ hq.2 (by omega) (m:=2998) (by omega);obtain⟨r5,r6⟩:=fZ hr.1 (by omega) (m:=2998) (by omega);obtain⟨r7,r8⟩:=fZ hr.2 (by omega) (m:=2998) (by omega);obtain⟨px,py⟩:=p;obtain⟨qx,qy⟩:=q;obtain⟨rx,ry⟩:=r;simp only at p1 q1 r1 p5 p6 p7 p8 q5 q6 q7 q8 r5 r6 r7 r8;obtain⟨S,hS⟩:=xE (ky (cN (px,py) (qx,qy) (rx,ry)));rw[←hS] at V;have ZE:¬S≤0:=by omega
  have w1:IntKind.i64.wrap ((n:Int)+1)=((n+1:Nat):Int):=by rw[af];omega
  obtain⟨m,hm⟩:=xE (n+1);rw[←hm] at w1;have v1:IntKind.i64.wrap 1=1:=rfl;have v2:IntKind.i64.wrap 2=2:=rfl;have v3:IntKind.i64.wrap 3=3:=rfl;have v2' :IntKind.i64.wrap (1+1)=2:=rfl;have v3' :IntKind.i64.wrap (2+1)=3:=rfl;refine⟨m,?_⟩;clear W hT;simp[h1,h46,h47,M,k1,k2,bh,fy,v1,v2,v3,vf,a1,a2,a3,B,A,u,o,Y,adB,p1,q1,r1,p4,q4,r4,-aK,ao UV,br,bk,bl,YC,
   oD,ag,gh,ar,p5,p6,p7,p8,q5,q6,q7,q8,r5,r6,r7,r8,←hS,ZE,hE,msB,uF,rQ,w1,Nat.testBit]
  omega
 ·right
  have XM :¬(n:Int)<H.length:=by omega
  simp[h47,h1,M]
theorem T9:aV prog 286=some ⟨.func #[3] #[79] false,1,8,.nilFunc,true⟩:=by kernel_rfl
theorem T8:aV prog 203=some ⟨.func #[3] #[4] false,1,8,.nilFunc,true⟩:=by kernel_rfl
attribute [simp] T9 T8
def cZ(H:List Nat):List AV:=H.map fun(n:Nat)=>.int .i64 (n:Int)
theorem Xc{H:List Nat}{i c:Nat}(h:H[i]? =some c):(cZ H)[i]? =some (.int .i64 (c:Int)):=by simp[cZ,h]
def B0(I:List P2)(H:List Nat)(i:Nat):P2:=I.getD (H.getD (i%H.length) 0) (0,0)
theorem B4{I:List P2}(J:∀p∈I,pDg 200 p)(H:List Nat)(i:Nat):pDg 200 (B0 I H i):=by
 unfold B0;rw[List.getD_eq_getElem?_getD];cases h:I[H.getD (i%H.length) 0]? with
 |none=>exact⟨⟨by decide,by decide⟩,⟨by decide,by decide⟩⟩
 |some p=>exact J p (List.mem_of_getElem? h)
def upV(I:List P2)(H:List Nat)(i:Nat):Bool:=
 decide (0<pU (B0 I H (i+1)).2 (B0 I H i).2)||(decide (pU (B0 I H (i+1)).2 (B0 I H i).2=0)&&decide (0<pU (B0 I H (i+1)).1 (B0 I H i).1))
def kX(I:List P2)(H:List Nat):Nat→Nat
 |0=>0
 |n+1=>kX I H n+if !upV I H n&&upV I H (n+1) then 1 else 0
def fh(I:List P2)(k:Nat)(H:List Nat):Mem:=[.cells false 2 (pC I),.qK,.cells false 1 (cZ H),.cells true 0 [.slice 0 0 I.length none,.slice 1 0 k none],.cells true 0 [.slice 2 0 H.length none],.cells true 0 [.int .i64 H.length],.cells true 0 [.func 239 [.ptr 3 0,.ptr 4 0,.ptr 5 0]]]
theorem Lx(I:List P2)(k:Nat)(H:List Nat)(hc:∀c∈H,c<I.length)(h0:H≠[])(i:Nat):
  kO prog 239 [.int .i64 i,.ptr 3 0,.ptr 4 0,.ptr 5 0] (fh I k H) (pA (B0 I H i)) (fh I k H):=by
 have F:aT prog 239=some f239:=by kernel_rfl
 have D:0<H.length:=by cases H with | nil=>exact absurd rfl h0 | cons a l=>simp
 have V:i%H.length<H.length:=Nat.mod_lt _ D;obtain⟨c,Z⟩:∃c,H[i%H.length]? =some c:=⟨_,List.getElem?_eq_getElem V⟩
 have O:=hc c (List.mem_of_getElem? Z);obtain⟨p,N⟩:∃p,I[c]? =some p:=⟨_,List.getElem?_eq_getElem O⟩
 have U:B0 I H i=p:=by unfold B0;rw[List.getD_eq_getElem?_getD,List.getD_eq_getElem?_getD,Z];simp[N]
 rw[U];obtain⟨M,-,-,C⟩:=zI N;have L:=Xc Z;have G:(i:Int).tmod (H.length:Int)=((i%H.length:Nat):Int):=pf i H.length;have Y:¬((H.length:Int)=0):=by omega
 have S:¬H.length=0:=by omega
 obtain⟨j,B⟩:=xE (i%H.length);rw[←B] at G V L Z;obtain⟨X,R⟩:∃X,aJ f239=[X]:=⟨_,rfl⟩
 obtain⟨A,u⟩:=de R (l:=[0,1,0,0,0,24,60,124,255,511,1023]) (j:=10) (by kernel_rfl) (by decide);simp[aJ,bR,f239] at R;subst R;obtain⟨o,m⟩:=p;simp only at M;have h:aa (aV prog) (fun _=>[]) (aT prog) cu 1 239 [.int .i64 i,.ptr 3 0,.ptr 4 0,.ptr 5 0] (fh I k H)=some ⟨pA (o,m),none,[]⟩:=by simp[aa,F,f239,fh,-aK,ao A,br,bk,bl,u,G,S,V,L,M,C,O,pA]
 have:=(aq ai (aO _) (az _) (aR _) h).1;simpa [aee.mem] using this
noncomputable def jY(I:List P2)(k:Nat)(H:List Nat):y9:=fun c Z M=>match c,Z with
 |.fn 239,[.int .i64 i,.ptr 3 0,.ptr 4 0,.ptr 5 0]=>open Classical in if 0≤i∧M=fh I k H then some ⟨pA (B0 I H i.toNat),none,[]⟩ else none
 |c,Z=>ag gh c Z M
theorem AN(I:List P2)(k:Nat)(H:List Nat)(hc:∀c∈H,c<I.length)(h0:H≠[]):qS prog (jY I k H):=by
 refine cq fun c Z M r h=>?_
 unfold jY at h;split at h
 ·rename_i i
  split at h
  ·rename_i X
   cases h;obtain⟨V,rfl⟩:=X;refine aC ?_;rw[List.append_nil];have:=Lx I k H hc h0 i.toNat
   rw[Int.toNat_of_nonneg V] at this;exact this
  ·cases h
 ·exact eW AK h
theorem Ly(I:List P2)(k:Nat)(H:List Nat)(hP:∀p∈I,pDg 200 p)(hc:∀c∈H,c<I.length)(h0:H≠[])(i:Nat)(hi:i≤1000000000):
  kO prog 240 [.int .i64 i,.ptr 6 0] (fh I k H) (.bool (upV I H i)) (fh I k H):=by
 have L:aT prog 240=some f240:=by kernel_rfl
 have j:=B4 hP H i;have Y:=B4 hP H (i+1);unfold upV;obtain⟨p,Z⟩:=xE (B0 I H i);obtain⟨q,X⟩:=xE (B0 I H (i+1));rw[←Z] at j ⊢;rw[←X] at Y ⊢;have w1:IntKind.i64.wrap ((i:Int)+1)=((i+1:Nat):Int):=by rw[af];omega
 have G:(0:Int)≤(i:Int)+1:=by omega
 have F:((i:Int)+1).toNat=i+1:=by omega
 obtain⟨W,J⟩:=cO j.1 (by omega) (by omega) (by omega) (by omega);obtain⟨R,O⟩:=cO j.2 (by omega) (by omega) (by omega) (by omega);obtain⟨q1,q2⟩:=cO Y.1 (by omega) (by omega) (by omega) (by omega);obtain⟨N,M⟩:=cO Y.2 (by omega) (by omega) (by omega) (by omega);obtain⟨px,D⟩:=p;obtain⟨qx,C⟩:=q;simp only at W J R O q1 q2 N M ⊢;obtain⟨o1,o2,D'⟩:∃o1 o2,aJ f240=[o1,o2]:=⟨_,_,rfl⟩
 obtain⟨V,B⟩:=vE D' (l:=[0,0,2,7,15,0,0,111,239,511,1023]) (l' :=[0,1,3,7,15,31,63,63,191,511,1023,63,63,7167,15359,32767,65535,131071,262143,524287]) (by kernel_rfl);have A:fc [0,0,2,7,15,0,0,111,239,511,1023] 10=true:=by decide
 have u:fc [0,1,3,7,15,31,63,63,191,511,1023,63,63,7167,15359,32767,65535,131071,262143,524287] 19=true:=by decide
 simp[aJ,bR,f240] at D';obtain⟨rfl,rfl⟩:=D';have key:∀b:Bool,(decide (0<pU C D)||(decide (pU C D=0)&&decide (0<pU qx px)))=b→aa (aV prog) (fun _=>[]) (aT prog) (jY I k H) 1 240 [.int .i64 i,.ptr 6 0] (fh I k H)=some ⟨.bool b,none,[]⟩:=by
  intro b U;by_cases o:0<pU C D
  ·simp only[o,decide_true,Bool.true_or] at U
   subst U;simp[aa,L,f240,fh,jY,-aK,ao V,ao B,br,bk,bl,A,u,w1,G,F,←Z,←X,pA,ag,gh,aE,aH,ar,R,O,N,M,o,Nat.testBit]
  ·by_cases S:pU C D=0
   ·by_cases m:0<pU qx px
    ·simp[S,m] at U
     subst U;simp[aa,L,f240,fh,jY,-aK,ao V,ao B,br,bk,bl,A,u,w1,G,F,←Z,←X,pA,ag,gh,aE,aH,ar,W,J,R,O,q1,q2,N,M,S,m,Nat.testBit]
    ·simp[S,m] at U
     subst U;simp[aa,L,f240,fh,jY,-aK,ao V,ao B,br,bk,bl,A,u,w1,G,F,←Z,←X,pA,ag,gh,aE,aH,ar,W,J,R,O,q1,q2,N,M,S,m,Nat.testBit]
   ·simp[o,S] at U
    subst U;simp[aa,L,f240,fh,jY,-aK,ao V,ao B,br,bk,bl,A,u,w1,G,F,←Z,←X,pA,ag,gh,aE,aH,ar,R,O,N,M,o,S,Nat.testBit]
 have:=(aq ai (aO _) (AN I k H hc h0) (aR _) (key _ rfl)).1;simpa [aee.mem] using this
noncomputable def vh(I:List P2)(k:Nat)(H:List Nat):y9:=fun c Z M=>match c,Z with
 |.fn 240,[.int .i64 i,.ptr 6 0]=>open Classical in if 0≤i∧i≤1000000000∧M=fh I k H then some ⟨.bool (upV I H i.toNat),none,[]⟩ else none
 |c,Z=>jY I k H c Z M
theorem Jm(I:List P2)(k:Nat)(H:List Nat)(J:∀p∈I,pDg 200 p)(hc:∀c∈H,c<I.length)(h0:H≠[]):qS prog (vh I k H):=by
 refine cq fun c Z M r h=>?_
 unfold vh at h;split at h
 ·rename_i i
  split at h
  ·rename_i X
   cases h;obtain⟨V,U,rfl⟩:=X;refine aC ?_;rw[List.append_nil];have:=Ly I k H J hc h0 i.toNat (by omega);rw[Int.toNat_of_nonneg V] at this;exact this
  ·cases h
 ·exact eW (AN I k H hc h0) h
def Sq(I:List P2)(H:List Nat):Prop:=
 H≠[]∧(∀c∈H,c<I.length)∧(∀i,i<H.length→0≤ky (cN (B0 I H i) (B0 I H (i+1)) (B0 I H (i+2))))∧kX I H H.length=1
theorem D9(I:List P2)(H:List Nat):∀n,kX I H n≤n
 |0=>Nat.le_refl _
 |n+1=>by have:=D9 I H n;unfold kX;split<;>omega
section
variable (PS:List P2)(k:Nat)(cyc:List Nat)(hP:∀p∈PS,pDg 200 p)(ho:Sq PS cyc)(hl:cyc.length≤1000000)
include PS k cyc hP ho hl
theorem CU(hK:cyc.length<K)(H:ah f182=[b]):
  ∃F:Env→Bool→Env,∀Z d,(ad Z 6=.ptr 6 0∧ad Z 7=.func 240 [.ptr 6 0]∧ad Z 8=.int .i64 0∧ad Z 14=.int .i64 cyc.length∧ad Z 15=.int .i64 0)→
   aS (aV prog) (fun _=>[8,15]) (vh PS k cyc) K 46 3 true (.loop b) ⟨Z,fh PS k cyc,d⟩=some (.exit 0,⟨F Z d,fh PS k cyc,d⟩)∧ad (F Z d) 8=.int .i64 1:=by
 refine bw rfl (fun Z=>ad Z 6=.ptr 6 0∧ad Z 7=.func 240 [.ptr 6 0]∧ad Z 8=.int .i64 0∧ad Z 14=.int .i64 cyc.length∧ad Z 15=.int .i64 0) (fun _ AC =>ad AC 8=.int .i64 1) ?_;rintro Z d ⟨h6,h7,h8,h14,h15⟩;obtain⟨-,-,D,C⟩:=ho;obtain⟨M,B⟩:∃M,aJ f182=[M]:=⟨_,rfl⟩
 obtain⟨UV,YC⟩:=de B (l:=[0,0,3,0,0,16,63,0,0,256,1023,2047,4095]) (j:=12) (by kernel_rfl) (by decide);simp[aJ,bR,f182] at B;simp[ah,aG,f182] at H;have J:aw [8,15] (ae b) Z ((8,.int .i64 ((kX PS cyc 0:Nat):Int))::(15,.int .i64 ((0:Nat):Int))::Z)=aw [8,15] (ae b) Z Z:=by simp[aw,h8,h15,kX]
 rw[←J];refine bO (α:=Nat) (fun n=>⟨aw [8,15] (ae b) Z ((8,.int .i64 ((kX PS cyc n:Nat):Int))::(15,.int .i64 (n:Int))::Z),fh PS k cyc,d⟩) (fun n=>cyc.length-n) (fun n=>n≤cyc.length) (.exit 0) _ d _ (by simp) ?_ K 0 (by omega) (by omega);intro n Y9;clear J;subst H;subst B;by_cases I:n<cyc.length
 ·left
  have h3:=D n I;have A:=B4 hP cyc n;have u:=B4 hP cyc (n+1);have o:=B4 hP cyc (n+2);obtain⟨p,N⟩:=xE (B0 PS cyc n);obtain⟨q,X⟩:=xE (B0 PS cyc (n+1));obtain⟨r,O⟩:=xE (B0 PS cyc (n+2));rw[←N,←X,←O] at h3;rw[←N] at A;rw[←X] at u;rw[←O] at o;obtain⟨p5,p6⟩:=fZ A.1 (by omega) (m:=2998) (by omega);obtain⟨p7,p8⟩:=fZ A.2 (by omega) (m:=2998) (by omega);obtain⟨q5,q6⟩:=fZ u.1 (by omega) (m:=2998) (by omega);obtain⟨q7,q8⟩:=fZ u.2 (by omega) (m:=2998) (by omega);obtain⟨r5,r6⟩:=fZ o.1 (by omega) (m:=2998) (by omega);obtain⟨r7,r8⟩:=fZ o.2 (by omega) (m:=2998) (by omega);obtain⟨px,py⟩:=p;obtain⟨qx,qy⟩:=q;obtain⟨rx,ry⟩:=r;simp only at p5 p6 p7 p8 q5 q6 q7 q8 r5 r6 r7 r8;obtain⟨S,hS⟩:=xE (ky (cN (px,py) (qx,qy) (rx,ry)));rw[←hS] at h3;have ZE:¬S<0:=by omega
  obtain⟨G,Yp⟩:=xE (n+1);obtain⟨m2,Y⟩:=xE (n+2);have w1:IntKind.i64.wrap ((n:Int)+1)=(G:Int):=by rw[af];omega
  have w2:IntKind.i64.wrap ((n:Int)+2)=(m2:Int):=by rw[af];omega
  have s5:(n:Int)≤1000000000:=by omega
  have s6:(G:Int)≤1000000000:=by omega
  have s7:n≤1000000000:=by omega
  have s8:G≤1000000000:=by omega
  have XY:=D9 PS cyc n;have L:kX PS cyc (n+1)=kX PS cyc n+if !upV PS cyc n&&upV PS cyc (n+1) then 1 else 0:=rfl
  obtain⟨R,W⟩:=xE (kX PS cyc n);rw[←W] at L XY ⊢;have w3:IntKind.i64.wrap ((R:Int)+1)=((R+1:Nat):Int):=by rw[af];omega
  obtain⟨U,hU⟩:=xE (upV PS cyc n);obtain⟨V,hV⟩:=xE (upV PS cyc (n+1));rw[←hU,←hV] at L;rw[←Yp] at L hV X;rw[←Y] at O;refine⟨G,?_⟩;cases U<;>cases V;all_goals
   simp at L;simp[fh,h6,h7,h14,I,vh,jY,-aK,ao UV,br,bk,bl,YC,w1,w2,w3,s5,s6,←N,←X,←O,←hU,←hV,pA,ag,gh,ar,p5,p6,p7,p8,q5,q6,q7,q8,r5,r6,r7,r8,←hS,ZE,L,Nat.testBit];omega
 ·right
  have e:n=cyc.length:=by omega
  subst e;have XM :¬(cyc.length:Int)<cyc.length:=by omega
  simp[h14,C]
theorem Lv:
  kO prog 182 [.agg [.slice 0 0 PS.length none,.slice 1 0 k none],.slice 2 0 cyc.length none] [.cells false 2 (pC PS),.qK,.cells false 1 (cZ cyc)] (.bool true) [.cells false 2 (pC PS),.qK,.cells false 1 (cZ cyc)]:=by
 have S:aT prog 182=some f182:=by kernel_rfl
 obtain⟨b,Z⟩:∃b,ah f182=[b]:=⟨_,rfl⟩
 obtain⟨F,X⟩:=CU (K:=cyc.length+1) PS k cyc hP ho hl (by omega) Z;simp[ah,aG,f182] at Z;subst Z;have U:=fun V d h=>(X V d h).1
 have R:=fun V d h=>(X V d h).2
 clear X;simp only[fh] at U;refine ca (lv:=(fun _=>[8,15])) (K:=(cyc.length+1)) (Jm PS k cyc hP ho.2.1 ho.1) ?_;simp[aa,S,f182,U,R]
end
theorem wW(a:Int):∀(N:List (Int×Int)) (i:Nat),(pQ N a=none→jd (aV prog) 3 (.int .i64 a) (N.map nxE) i=some none)∧∀b,pQ N a=some b→∃q,jd (aV prog) 3 (.int .i64 a) (N.map nxE) i=some (some (q,.int .i64 b))
 | [],i=>⟨fun _=>rfl,fun b h=>by cases h⟩
 |p::N,i=>by
  have e:jU (aV prog) 20 3 (.int .i64 a) (.int .i64 p.1)=some (decide (a=p.1)):=by simp[jU]
  simp only[List.map_cons,jd,nxE,e,pQ];have Z:=wW a N (i+1);by_cases h:a=p.1
  ·simp only[h,decide_true,if_true]
   exact⟨fun h=>(by cases h),fun b X=>⟨i,(by cases X;rfl)⟩⟩
  ·simp only[h,decide_false,if_false]
   exact Z
theorem Tn(d:Nat)(x y:Int):jU (aV prog) (d+1) 3 (.int .i64 x) (.int .i64 y)=some (decide (x=y)):=by rw[jU];simp
theorem To(a b c d:Int):jU (aV prog) 20 115 (.agg [.int .i64 a,.int .i64 b]) (.agg [.int .i64 c,.int .i64 d])=some (decide (a=c)&&decide (b=d)):=by have r:List.range' 0 2=[0,1]:=rfl;have i:=Tn 18;rw[jU];simp only[Jz,Ft,r,Vc];simp[iY,TyI.isAgg,i]
theorem wY(a:Int×Int):∀(N:List Sd) (i:Nat),(P7 N a=none→jd (aV prog) 115 (.agg [.int .i64 a.1,.int .i64 a.2]) (N.map sdE) i=some none)∧∀b,P7 N a=some b→∃q,jd (aV prog) 115 (.agg [.int .i64 a.1,.int .i64 a.2]) (N.map sdE) i=some (some (q,.int .i64 b))
 | [],i=>⟨fun _=>rfl,fun b h=>by cases h⟩
 |p::N,i=>by
  have e:=To a.1 a.2 p.1.1 p.1.2;simp only[List.map_cons,jd,sdE,e,P7];have Z:=wY a N (i+1);by_cases h:a.1=p.1.1∧a.2=p.1.2
  ·rw[if_pos h]
   simp only[h.1,h.2,decide_true,Bool.and_true];exact⟨fun h=>(by cases h),fun b X=>⟨i,(by cases X;rfl)⟩⟩
  ·rw[if_neg h]
   have V:(decide (a.1=p.1.1)&&decide (a.2=p.1.2))=false:=by rw[←Bool.not_eq_true];simpa using h
   rw[V];exact Z
def ouO(l:List Int):AV:=match l with
 | []=>.qF
 |_=>.slice 6 0 l.length none
def ouM(M0:Mem)(l:List Int):Mem:=match l with
 | []=>M0
 |_=>M0++[.cells true 1 (iZ l)]
theorem yP(n:Nat):∀N:List (Int×Int),(N.map nxE).flatMap (fun e=>e.1.refs n++e.2.refs n)=[]
 | []=>rfl
 |p::N=>by simp[nxE,AV.refs,yP n N]
theorem rI(n:Nat):∀N:List Sd,(N.map sdE).flatMap (fun e=>e.1.refs n++e.2.refs n)=[]
 | []=>rfl
 |p::N=>by simp[sdE,AV.refs,AV.aew,rI n N]
theorem mj(n:Nat)(N:List (Int×Int)):aek.refs n (.map (N.map nxE))=[]:=yP n N
theorem ml(n:Nat)(N:List Sd):aek.refs n (.aeO (N.map sdE))=[]:=rI n N
theorem xO(n:Nat)(o:Bool)(e:Nat)(cs:List AV):aek.refs n (.cells o e cs)=AV.aew n cs:=rfl
theorem Cc(f:Nat→Option Nat)(o:Bool)(e:Nat)(cs:List AV):aek.ren f (.cells o e cs)=.cells o e (AV.aez f cs):=rfl
theorem uG(n:Nat):aek.refs n .qK=[]:=rfl
theorem AP(ks:List Sd)(N:List (Int×Int))(first:Int)(H:List Int)(W Y:Nat)(hc:wG N first N.length first []=some H)(hN:N≠[])(hl:N.length≤1000000)(hK:N.length<K)(I:ah f181=[b1,b])(M0:Mem)(J:M0=[.aeO (ks.map sdE),.qK,.qK,.cells true 0 [.slice 1 0 W none,.slice 2 0 Y none],.map (N.map nxE),.qK]):
  ∃F:Env→Bool→Env,∀X d,(ad X 6=.map 4∧ad X 7=.int .i64 first∧ad X 13=.qF∧ad X 14=.int .i64 first)→
   aS (aV prog) (fun _=>[13,14]) cu K 93 3 true (.loop b) ⟨X,M0,d⟩=some (.exit 2,⟨F X d,M0++[.cells true 1 (iZ H)],d⟩)∧ad (F X d) 13=.slice 6 0 H.length none:=by
 refine bw rfl (fun X=>ad X 6=.map 4∧ad X 7=.int .i64 first∧ad X 13=.qF∧ad X 14=.int .i64 first) (fun _ B =>ad B 13=.slice 6 0 H.length none) ?_;rintro X d ⟨h6,h7,h13,h14⟩;simp[ah,aG,f181] at I;obtain⟨_,I⟩:=I;have R:M0.length=6:=by rw[J];rfl
 rw[R];have A:aw [13,14] (ae b) X ((13,ouO [])::(14,.int .i64 first)::X)=aw [13,14] (ae b) X X:=by simp[aw,h13,h14,ouO]
 rw[←A];have V:M0=ouM M0 []:=rfl;conv=>congr;ext B;lhs;lhs;rw[V]
 refine bO (α:=List Int×Int) (fun x=>⟨aw [13,14] (ae b) X ((13,ouO x.1)::(14,.int .i64 x.2)::X),ouM M0 x.1,d⟩) (fun x=>N.length-x.1.length) (fun x=>∃n,x.1.length+n=N.length∧wG N first n x.2 x.1=some H) (.exit 2) _ d _ (by simp) ?_ K ([],first) ⟨N.length,by simp,hc⟩ (by simpa using hK);rintro ⟨Z,a⟩ ⟨n,Y9,hw⟩;clear A V;simp only at Y9 hw;cases n with
 |zero=>
  right;simp only[wG,Option.some.injEq] at hw;subst hw;cases Z with
  |nil=>exact absurd (List.eq_nil_of_length_eq_zero (by simpa using Y9.symm)) hN
  |cons x Z=>
   have o:¬((Z.length:Int)+1<N.length):=by simp at Y9;omega
   subst I J;simp[ouO,ouM,h6,o]
 |succ n=>
  left;rw[wG] at hw;cases hlk:pQ N a with
  |none=>rw[hlk] at hw;cases hw
  |some c=>
   rw[hlk] at hw;simp only at hw;split at hw
   ·cases hw
   ·rename_i O
    obtain⟨q,M⟩:=(wW a N 0).2 c hlk;refine⟨(Z++[a],c),?_⟩;have U:(Z.length:Int)<N.length:=by omega
    subst I J;have u:0<N.length:=by omega
    have m:n+1≤1000000:=by omega
    have L:wG N first n c (Z++[a])=some H:=hw
    cases Z with
    |nil=>
     by_cases S:a=first
     ·subst S
      simp[-aek.refs,-aek.ren,ouO,ouM,h6,h7,u,kH,jq,lr,M,mj,ml,oJ,fK,mq,zJ,xQ,pP,fS,iZ,xO,Cc,uG];exact⟨⟨n,by simp at Y9;omega,L⟩,by omega⟩
     ·simp[-aek.refs,-aek.ren,ouO,ouM,h6,h7,u,S,kH,jq,lr,M,mj,ml,oJ,fK,mq,zJ,xQ,pP,fS,iZ,xO,Cc,uG]
      exact⟨⟨n,by simp at Y9;omega,L⟩,by omega⟩
    |cons x Z=>
     have S:¬a=first:=fun e=>O ⟨e,by simp⟩
     have j:Z.length+1<N.length:=by simp at Y9;omega
     have U:(Z.length:Int)+1<N.length:=by omega
     have hz:iZ (x::Z)++[.int .i64 a]=iZ (x::(Z++[a])):=by simp[iZ]
     have H':(iZ (x::Z)).length=Z.length+1:=by simp[iZ]
     have G:(iZ (x::Z)).take (Z.length+1)=iZ (x::Z):=List.take_of_length_le (by omega);have D:(Z.length+1+1)*8≤140737488355328:=by omega
     have C:Z.length≤140737488355326:=by omega
     simp[-aek.refs,-aek.ren,ouO,ouM,h6,h7,S,U,kH,jq,lr,M,mj,ml,oJ,fK,mq,zJ,xQ,pP,fS,xO,Cc,uG,Gc,Cd,G,D,C,hz,H'];exact⟨⟨n,by simp at Y9;omega,by simpa using L⟩,by omega⟩
theorem Rh{P:Program}{T:TypeId→Option TyI}{O:y9}{tp:Bool}{N m0:Nat}{lv:Code→List Nat}{Q:Exit→St→Prop}(H:P.follows .mixedOrders=true)(hT:cK P T)(I:qS P O){c:Code}{s:XS}(J:cC c=true)(h:∃e Z,aS T lv O K N m0 tp c s=some (e,Z)∧Q e ⟨Z.env,Z.mem⟩):AWP P tp N m0 c ⟨s.env,s.mem⟩ Q:=by obtain⟨e,Z,X,V⟩:=h;exact vz H hT I J X V
def UN(ks:List Sd)(H I:Nat)(seen:List Nat):Mem:=[.aeO (ks.map sdE),.qK,.qK,.cells true 0 [.slice 1 0 H none,.slice 2 0 I none],.map ((cI ks seen).map nxE),.qK]
def ouV(ks:List Sd)(seen:List Nat)(t:Nat):AV:=if t=7 then .int .i64 (Ac (-1) (cI ks seen)) else .undef
theorem th(ks:List Sd)(seen:List Nat)(j:Nat):cI ks (seen++[j])=cI ks seen++(match bAt ks j with | some p=>[p] | none=>[]):=by unfold cI;rw[List.filterMap_append];congr 1;simp only[List.filterMap_cons,List.filterMap_nil];cases bAt ks j<;>rfl
theorem GU(ks:List Sd)(J:List Int)(H I:Nat)(XT:uD ks=true)(hc:Bm (sO ks)=some J):
  kO prog 181 [.agg [.slice 1 0 H none,.slice 2 0 I none],.map 0] [.aeO (ks.map sdE),.qK,.qK] (.tuple [.slice 3 0 J.length none,.bool true]) [.aeO (ks.map sdE),.qK,.qK,.cells true 1 (iZ J)]:=by
 obtain⟨o,M,Y,ok4⟩:=Ky XT;have hT:=aO prog;refine aeQ.intro hT (fn:=f181) (by kernel_rfl) rfl rfl (Nat.le_of_ble_eq_true rfl) ?_;refine xp ?_;refine vz ai hT (az _) (lv:=fun _=>[]) (K:=1) (s:=⟨dh 0 [.agg [.slice 1 0 H none,.slice 2 0 I none],.map 0],[.aeO (ks.map sdE),.qK,.qK],false⟩) rfl (s' :=⟨[(5,.bool false),(4,.qF),(2,.ptr 3 0),(0,.agg [.slice 1 0 H none,.slice 2 0 I none]),(1,.map 0)],[.aeO (ks.map sdE),.qK,.qK,.cells true 0 [.slice 1 0 H none,.slice 2 0 I none]],false⟩) (e:=.normal) (by simp) ?_;refine xp ?_;refine vz ai hT (az _) (lv:=fun _=>[]) (K:=1) (s:=⟨_,_,false⟩) rfl (s' :=⟨[(6,.map 4),(17,.map 4),(5,.bool false),(4,.qF),(2,.ptr 3 0),(0,.agg [.slice 1 0 H none,.slice 2 0 I none]),(1,.map 0)],[.aeO (ks.map sdE),.qK,.qK,.cells true 0 [.slice 1 0 H none,.slice 2 0 I none],.map []],false⟩) (e:=.normal) (by simp) ?_;refine xp ?_;refine vz ai hT (az _) (lv:=fun _=>[]) (K:=1) (s:=⟨_,_,false⟩) rfl (s' :=⟨[(7,.int .i64 (-1)),(6,.map 4),(17,.map 4),(5,.bool false),(4,.qF),(2,.ptr 3 0),(0,.agg [.slice 1 0 H none,.slice 2 0 I none]),(1,.map 0)],[.aeO (ks.map sdE),.qK,.qK,.cells true 0 [.slice 1 0 H none,.slice 2 0 I none],.map []],false⟩) (e:=.normal) (by simp) ?_;refine xp ?_;show AWP _ _ _ _ _ ⟨[(7,.int .i64 (-1)),(6,.map 4),(17,.map 4),(5,.bool false),(4,.qF),(2,.ptr 3 0),(0,.agg [.slice 1 0 H none,.slice 2 0 I none]),(1,.map 0)],[.aeO (ks.map sdE),.qK,.qK,.cells true 0 [.slice 1 0 H none,.slice 2 0 I none],.map []]⟩ _
 refine MK ai hT (az _) (lv:=fun _=>[]) (K:=1) (b:=0) (es:=ks.map sdE) (s:=⟨[(7,.int .i64 (-1)),(6,.map 4),(17,.map 4),(5,.bool false),(4,.qF),(2,.ptr 3 0),(0,.agg [.slice 1 0 H none,.slice 2 0 I none]),(1,.map 0)],[.aeO (ks.map sdE),.qK,.qK,.cells true 0 [.slice 1 0 H none,.slice 2 0 I none],.map []],false⟩) (s1:=⟨[(18,.map 0),(7,.int .i64 (-1)),(6,.map 4),(17,.map 4),(5,.bool false),(4,.qF),(2,.ptr 3 0),(0,.agg [.slice 1 0 H none,.slice 2 0 I none]),(1,.map 0)],[.aeO (ks.map sdE),.qK,.qK,.cells true 0 [.slice 1 0 H none,.slice 2 0 I none],.map []],false⟩)
  rfl rfl rfl rfl (JA) rfl rfl rfl rfl rfl rfl rfl rfl rfl rfl rfl rfl ?_ ?_ ?_ ?_ rfl rfl [7] _ (ouV ks) (UN ks H I) (fun seen=>seen.Nodup∧∀j∈seen,j<ks.length) rfl ?_ ?_ ?_ ?_ ?_ ?_ ?_
 ·decide
 ·decide
 ·rfl
 ·simp
 ·decide
 ·rfl
 ·rintro seen ⟨_,_⟩
  refine⟨rfl,rfl,rfl,fun x hx=>?_⟩;simp only[UN,lM] at hx;rcases hx with rfl | rfl | rfl | rfl | rfl | rfl
  ·exact ml _ _
  ·rfl
  ·rfl
  ·rfl
  ·exact mj _ _
  ·rfl
 ·intro seen t _ L
  simp only[List.mem_singleton] at L;subst L;rfl
 ·refine⟨⟨List.nodup_nil,fun j R=>(by cases R)⟩,rfl,fun t L=>?_⟩
  simp only[List.mem_singleton] at L;subst L;rfl
 ·rintro seen env ⟨i1,i2⟩ hs hv P'
  have V:=hv 7 (by simp);have O:=hs 6 (by decide);simp[] at O;simp only[ouV,if_true] at V;have W:=Lc i1 i2 (fun j R=>P' j (by simpa using R));have hge:=QA Y (seen:=seen);have G:=Sf W hge;have Z:∀a,pQ (cI ks seen) a=pQ (sO ks) a:=P6 W (Gp M)
  have u:(cI ks seen).length=(sO ks).length:=W.length_eq;have hw:∀n a l,wG (cI ks seen) (Ac (-1) (cI ks seen)) n a l=wG (sO ks) (Ac (-1) (sO ks)) n a l:=by
   intro n;induction n with
   |zero=>intro a l;rfl
   |succ n ih=>intro a l;simp only[wG,Z,ih];rw[G]
  have D :wG (cI ks seen) (Ac (-1) (cI ks seen)) (cI ks seen).length (Ac (-1) (cI ks seen)) []=some J:=by rw[hw,u];rw[G];exact hc
  have hN:cI ks seen≠[]:=fun e=>o (by rw[e] at u;exact List.eq_nil_of_length_eq_zero u.symm)
  have hNl:(cI ks seen).length≤1000000:=by rw[u];have:(sO ks).length≤(List.range ks.length).length:=List.length_filterMap_le _ _;rw[List.length_range] at this;omega
  obtain⟨b1,b,X⟩:∃b1 b,ah f181=[b1,b]:=⟨_,_,rfl⟩
  obtain⟨F,hF⟩:=AP (K:=(cI ks seen).length+1) ks (cI ks seen) _ J H I D hN hNl (by omega) X _ rfl;simp[ah,aG,f181] at X;obtain⟨_,X⟩:=X;subst X;show AWP _ _ _ _ _ _ _
  refine Rh ai hT (az _) (lv:=fun _=>[13,14]) (K:=(cI ks seen).length+1) (s:=⟨_,_,false⟩) rfl ?_;show∃e A,aS (aV prog) (fun _=>[13,14]) cu ((cI ks seen).length+1) 93 3 true _ _=some (e,A)∧_
  simp[-aek.refs,-aek.ren,O,V,hF];have ZI:0<J.length:=by have:=yS D;have:0<(cI ks seen).length:=List.length_pos_iff.2 hN;omega
  refine⟨_,_,⟨rfl,rfl⟩,.inr rfl,[6],rfl,.inl ⟨rfl,?_⟩⟩;have e2:decide (0<J.length)=true:=by simpa using ZI
  rw[e2];simp[AV.ren,AV.aez,rho,ae1,Cd,List.idxOf?,List.findIdx?,List.findIdx?.go]
 ·rintro seen env j k v ⟨i1,i2⟩ hs hv R hns
  have V:=hv 7 (by simp);have C:=hs 1 (by decide);have O:=hs 6 (by decide);simp[] at C O;simp only[ouV,if_true] at V;rw[List.getElem?_map] at R;simp only[Option.map_eq_some_iff] at R;obtain⟨s,hs1,hs2⟩:=R;have hkv:=Prod.mk.inj hs2;obtain⟨hk,hvv⟩:=hkv;subst hk hvv;have hjl:=gL hs1;have J':(seen++[j]).Nodup∧∀i∈seen++[j],i<ks.length:=by
   constructor
   ·rw[List.nodup_append];exact⟨i1,by simp,fun a ha b X=>by simp at X;subst X;rintro rfl;exact hns ha⟩
   ·intro i hi
    rcases List.mem_append.1 hi with h | h
    ·exact i2 i h
    ·simp at h;subst h;exact hjl
  have U :(seen++[j]).Nodup∧∀i,i∈seen∨i=j→i<ks.length:=⟨J'.1,fun i hi=>J'.2 i (by simpa using hi)⟩
  cases Z:P7 ks (s.1.2,s.1.1) with
  |some t=>
   have X:bAt ks j=none:=by simp[bAt,hs1,Z]
   have S:cI ks (seen++[j])=cI ks seen:=by rw[th,X];simp
   obtain⟨q,B⟩:=(wY (s.1.2,s.1.1) ks 0).2 t Z;rw[show(List.length _+1:Nat)=6 from rfl];simp[-aek.refs,-aek.ren,UN,ouV,C,B,S,kH,jq,lr,Kf,iY,sV,sW,bJ,pP,List.range'];exact⟨_,_,⟨rfl,rfl⟩,.inr rfl,U,by simpa using V,rfl⟩
  |none=>
   have X:bAt ks j=some s.1:=by simp[bAt,hs1,Z]
   have S:cI ks (seen++[j])=cI ks seen++[s.1]:=by rw[th,X]
   have G:Ac (-1) (cI ks (seen++[j]))=if Ac (-1) (cI ks seen)<0∨s.1.1<Ac (-1) (cI ks seen) then s.1.1 else Ac (-1) (cI ks seen):=by rw[S,M7];rfl
   have B:=(wY (s.1.2,s.1.1) ks 0).1 Z;have hfr:=Gn M hns X;have N:=(wW s.1.1 (cI ks seen) 0).1 hfr;rw[show(List.length _+1:Nat)=6 from rfl];unfold UN ouV;rw[G,S];obtain⟨m,hm⟩:=xE (Ac (-1) (cI ks seen));rw[←hm] at V ⊢;clear G;by_cases c1:m<0
   ·simp[-aek.refs,-aek.ren,C,O,V,B,N,c1,kH,fl,jq,lr,Kf,iY,sV,sW,bJ,pP,List.range']
    exact⟨_,_,⟨rfl,rfl⟩,.inl rfl,U,rfl,rfl⟩
   ·by_cases c2:s.1.1<m
    ·simp[-aek.refs,-aek.ren,C,O,V,B,N,c1,c2,kH,fl,jq,lr,Kf,iY,sV,sW,bJ,pP,List.range']
     exact⟨_,_,⟨rfl,rfl⟩,.inl rfl,U,rfl,rfl⟩
    ·simp[-aek.refs,-aek.ren,C,O,V,B,N,c1,c2,kH,fl,jq,lr,Kf,iY,sV,sW,bJ,pP,List.range']
     exact⟨_,_,⟨rfl,rfl⟩,.inl rfl,U,V,rfl⟩
def UT:List (AV×AV)→Option (List Sd)
 | []=>some []
 |(.agg [.int .i64 a,.int .i64 b],.int .i64 t)::l=>match UT l with
  |some r=>some (((a,b),t)::r)
  |none=>none
 |_=>none
theorem Eb:∀{es:List (AV×AV)} {ks:List Sd},UT es=some ks→es=ks.map sdE
 | [],ks,h=>by cases h;rfl
 |e::es,ks,h=>by
  unfold UT at h;split at h
  next Z=>cases Z
  ·rename_i a b t l Z
   cases Z;split at h
   ·rename_i r X
    cases h;rw[Eb X];rfl
   ·cases h
  ·cases h
def P9(M:Mem)(b:Nat):Option (List (AV×AV)):=match M[b]? with
 |some (.map es)=>some es
 |some (.aeO es)=>some es
 |_=>none
theorem SH(n:Nat)(s:Sd):(sdE s).1.under n=true∧(sdE s).2.under n=true:=by simp[sdE,AV.under,AV.aen]
theorem Nq(f:Nat→Option Nat)(s:Sd):((sdE s).1.ren f,(sdE s).2.ren f)=sdE s:=by simp[sdE,AV.ren,AV.aez]
theorem yc(M:Mem)(ks:List Sd)(H:List Int)(b b1 J W Y:Nat)(hb1:b1<M.length)(Yv:J<M.length)(I:P9 M b=some (ks.map sdE))(XT:uD ks=true)(hc:Bm (sO ks)=some H):
  kO prog 181 [.agg [.slice b1 0 W none,.slice J 0 Y none],.map b] M (.tuple [.slice M.length 0 H.length none,.bool true]) (M++[.cells true 1 (iZ H)]):=by
 have S:b<M.length:=by
  unfold P9 at I;split at I
  next es h=>exact(gL h)
  next es h=>exact(gL h)
  ·cases I
 have:=kO.frame (M:=M) (new:=[.cells true 1 (iZ H)]) [b,b1,J] (m:=[.aeO (ks.map sdE),.qK,.qK]) rfl (by intro k V;simp at V;rcases V with rfl | rfl | rfl<;>assumption) (by rfl) (fun i s Z=>by
  match i with
  |0=>
   simp at Z;subst Z;refine⟨ks.map sdE,?_,rfl,fun j e X=>?_⟩
   ·unfold P9 at I
    split at I
    next es h=>cases I;exact .inr h
    next es h=>cases I;exact .inl h
    ·cases I
   ·rw[List.getElem?_map] at X
    simp only[Option.map_eq_some_iff] at X;obtain⟨R,U,rfl⟩:=X;refine⟨SH _ _,?_⟩;rw[Nq,List.getElem?_map,U];rfl
  |1=>simp at Z;subst Z;trivial
  |2=>simp at Z;subst Z;trivial
  |i+3=>simp at Z) rfl (GU ks H W Y XT hc)
 simpa [AV.aez,AV.ren,fq,aek.ren,Cd] using this
def Mf(c:Go.Eng.Callee)(args:List AV)(M:Mem):Option aee:=match c,args with
 |.fn 181,[.agg [.slice b1 0 _ none,.slice b2 0 _ none],.map b]=>match P9 M b with
  |some es=>match UT es with
   |some ks=>match Bm (sO ks) with
    |some cyc=>if uD ks&&(decide (b1<M.length)&&decide (b2<M.length)) then some ⟨.tuple [.slice M.length 0 cyc.length none,.bool true],none,[.cells true 1 (iZ cyc)]⟩ else none
    |none=>none
   |none=>none
  |none=>none
 |_,_=>none
theorem Pb:qS prog Mf:=by
 refine cq fun c U M r h=>?_
 unfold Mf at h;split at h
 ·split at h
  ·rename_i es S
   split at h
   ·rename_i R O
    split at h
    ·rename_i X V
     split at h
     ·rename_i Z
      simp only[Bool.and_eq_true,decide_eq_true_eq] at Z;cases h;refine aC (yc M R X _ _ _ _ _ Z.2.1 Z.2.2 ?_ Z.1 V);rw[S,Eb O]
     ·cases h
    ·cases h
   ·cases h
  ·cases h
 ·cases h
noncomputable def NB:y9:=y9.or Mf (ag aE)
theorem Mh:qS prog NB:=qS.or Pb bK
end Go.Proofs
