/- See H38. -/
import Derived.Test.YthpgbelancmpjaaGreatDoorH21
set_option linter.all false
set_option maxRecDepth 100000
set_option maxHeartbeats 40000000
namespace Go.Proofs
open Go.Eng
open Tryz
theorem MG(a b c:P2)(ha:pDg 3000 a)(hb:pDg 3000 b)(hc:pDg 3000 c)(M:Mem):bz prog 179 [pA a,pA b,pA c] M (.str (aJ (uZ a b c))) M:=by
 have hG:bq prog 179=some f179:=by kernel_rfl
 obtain⟨Y,W⟩:=a;obtain⟨b1,b2⟩:=b;obtain⟨c1,c2⟩:=c;obtain⟨Q,O⟩:=ha;obtain⟨N,K⟩:=hb;obtain⟨G,F⟩:=hc;simp only at Q O N K G F;have D:=OG N Q (m:=6000) (by omega) (by omega);have C:=OG F O (m:=6000) (by omega) (by omega);have B:=OG K O (m:=6000) (by omega) (by omega);have y:=OG G Q (m:=6000) (by omega) (by omega);have J:=rO D C;have I:=rO B y;obtain⟨p1,p2⟩:=dC Q (by omega) (by omega) (by omega) (by omega);obtain⟨p3,p4⟩:=dC O (by omega) (by omega) (by omega) (by omega);obtain⟨q1,q2⟩:=dC N (by omega) (by omega) (by omega) (by omega);obtain⟨q3,q4⟩:=dC K (by omega) (by omega) (by omega) (by omega);obtain⟨r1,r2⟩:=dC G (by omega) (by omega) (by omega) (by omega);obtain⟨r3,r4⟩:=dC F (by omega) (by omega) (by omega) (by omega);obtain⟨H,s2⟩:=dC D (by omega) (by omega) (by omega) (by omega);obtain⟨s3,s4⟩:=dC C (by omega) (by omega) (by omega) (by omega);obtain⟨s5,s6⟩:=dC B (by omega) (by omega) (by omega) (by omega);obtain⟨s7,s8⟩:=dC y (by omega) (by omega) (by omega) (by omega);obtain⟨t1,t2⟩:=dC J (by omega) (by omega) (by omega) (by omega);obtain⟨t3,t4⟩:=dC I (by omega) (by omega) (by omega) (by omega);clear J I D C B y Q O N K G F;unfold uZ;simp only;obtain⟨x1,Z⟩:=xE (b1-Y);obtain⟨x2,X⟩:=xE (c2-W);obtain⟨x3,V⟩:=xE (b2-W);obtain⟨x4,U⟩:=xE (c1-Y);rw[<-Z] at H s2 t1 t2;rw[<-X] at s3 s4 t1 t2;rw[<-V] at s5 s6 t3 t4;rw[<-U] at s7 s8 t3 t4;rw[<-Z,<-X,<-V,<-U];obtain⟨y1,S⟩:=xE (x1*x2);obtain⟨y2,R⟩:=xE (x3*x4);rw[<-S] at t1 t2;rw[<-R] at t3 t4;rw[<-S,<-R];refine az fc ?_ M;obtain⟨o1,o2,u⟩:∃o1 o2,bn f179=[o1,o2]:=⟨_,_,rfl⟩
 obtain⟨o,j⟩:=Lm u (l:=[0,1,0,4,15,0,32,0,128,511,1023,2047]) (l' :=[0,0,2,0,8,30,0,64,0,256,1022,2046,4095,8191]) (by kernel_rfl);have k1:jr [0,1,0,4,15,0,32,0,128,511,1023,2047] 11=true:=by decide
 have k2:jr [0,0,2,0,8,30,0,64,0,256,1022,2046,4095,8191] 13=true:=by decide
 simp[bn,cU,f179] at u;obtain⟨rfl,rfl⟩:=u;simp[ad,hG,f179,-aN,aY o,aY j,cX,cO,cV,k1,k2,pA,aE,ai,cq,cp,p1,p2,p3,p4,q1,q2,q3,q4,r1,r2,r3,r4,H,s2,s3,s4,s5,s6,s7,s8,t1,t2,t3,t4,<-Z,<-X,<-V,<-U,<-S,<-R,Nat.testBit]
noncomputable def BQ(f:FuncId)(args:List AV):Option AV:=
 match f,args with
 |179,[.agg [.str a,.str b],.agg [.str c,.str d],.agg [.str e,.str f]]=>match dZ a,dZ b,dZ c,dZ d,dZ e,dZ f with
  |some a,some b,some c,some d,some e,some f=>if (aj a.num.natAbs).length<=2999/\(aj a.den).length<=2999/\(aj b.num.natAbs).length<=2999/\(aj b.den).length<=2999/\(aj c.num.natAbs).length<=2999/\(aj c.den).length<=2999/\
    (aj d.num.natAbs).length<=2999/\(aj d.den).length<=2999/\(aj e.num.natAbs).length<=2999/\(aj e.den).length<=2999/\(aj f.num.natAbs).length<=2999/\(aj f.den).length<=2999 then some (.str (aJ (uZ (a,b) (c,d) (e,f)))) else none
  |_,_,_,_,_,_=>none
 |f,args=>cq f args
theorem Nq:afs prog (ai BQ):=bT fun f S v h mem=>by
 unfold BQ at h;split at h
 .split at h
  .rename_i a b c d e f R Q O N M K
   split at h
   .rename_i Z
    obtain⟨G,F,D,C,B,y,u,o,m,X,V,U⟩:=Z;cases h;rw[aF R,aF Q,aF O,aF N,aF M,aF K];exact MG (a,b) (c,d) (e,f) ⟨(dH ⟨G,F⟩).mono (by omega) (by omega),(dH ⟨D,C⟩).mono (by omega) (by omega)⟩
     ⟨(dH ⟨B,y⟩).mono (by omega) (by omega),(dH ⟨u,o⟩).mono (by omega) (by omega)⟩ ⟨(dH ⟨m,X⟩).mono (by omega) (by omega),(dH ⟨V,U⟩).mono (by omega) (by omega)⟩ mem
   .cases h
  .cases h
 .have:=fc.fn _ _ mem ⟨v,none,[]⟩ (by unfold ai;simp only;rw[h])
  simpa [afw.mem] using this
theorem gK{n m:Nat}{q:Rat}(h:dg n n q)(h0:0<n)(H:n<=m):(aj q.num.natAbs).length<=m/\(aj q.den).length<=m:=by have:=h.lens h0 h0;exact⟨by omega,by omega⟩
theorem MI(a b c:P2)(H:pDg 2999 a)(I:pDg 2999 b)(hc:pDg 2999 c)(M:Mem):bz prog 99 [pA a,pA b,pA c] M (.int .i64 (kU (uZ a b c))) M:=by
 have F:bq prog 99=some f99:=by kernel_rfl
 obtain⟨D,C⟩:=a;obtain⟨B,u⟩:=b;obtain⟨o,m⟩:=c;obtain⟨Z,X⟩:=gK H.1 (by omega) (Es _);obtain⟨V,U⟩:=gK H.2 (by omega) (Es _);obtain⟨S,R⟩:=gK I.1 (by omega) (Es _);obtain⟨Q,O⟩:=gK I.2 (by omega) (Es _);obtain⟨r1,r2⟩:=gK hc.1 (by omega) (Es _);obtain⟨N,K⟩:=gK hc.2 (by omega) (Es _);refine az Nq ?_ M;simp only at Z X V U S R Q O r1 r2 N K;obtain⟨y,G⟩:=xE (uZ (D,C) (B,u) (o,m));rw[<-G];simp[ad,F,f99,pA,aE,ai,BQ,cq,cp,bX,bO,Z,X,V,U,S,R,Q,O,r1,r2,N,K,<-G]
theorem nT(d:Nat)(x y:List UInt8):kS (aL prog) (d+1) 52 (.str x) (.str y)=some (x==y):=by rw[kS];simp
theorem SE(p q:P2):kS (aL prog) 20 79 (pA p) (pA q)=some (decide (p.1=q.1)&&decide (p.2=q.2)):=by have i:=nT 18;rw[kS];simp[pA,RV,jJ,TyI.isAgg,i,Ho]
theorem E2(p:P2):∀(L:List P2) (i:Nat),p∉L->jU (aL prog) 79 (pA p) (L.map pmE) i=some none
 | [],i,_=>rfl
 |q::L,i,h=>by
  have e:=SE p q;have X:(decide (p.1=q.1)&&decide (p.2=q.2))=false:=by rw[<-Bool.not_eq_true];intro Z;simp only[Ar,Cs] at Z;exact h (by rw[show p=q from Prod.ext Z.1 Z.2];exact List.mem_cons_self ..)
  simp only[List.map_cons,jU,pmE,e,X];exact E2 p L (i+1) (fun Z=>h (List.mem_cons_of_mem _ Z))
theorem SS(p:P2):mG (aL prog) 20 79 (pA p)=true:=by simp[pA,mG,UB,jJ,TyI.isAgg]
noncomputable def gP(f:FuncId)(args:List AV):Option AV:=
 match f,args with
 |99,[.agg [.str a,.str b],.agg [.str c,.str d],.agg [.str e,.str f]]=>match dZ a,dZ b,dZ c,dZ d,dZ e,dZ f with
  |some a,some b,some c,some d,some e,some f=>if (aj a.num.natAbs).length<=2998/\(aj a.den).length<=2998/\(aj b.num.natAbs).length<=2998/\(aj b.den).length<=2998/\(aj c.num.natAbs).length<=2998/\(aj c.den).length<=2998/\
    (aj d.num.natAbs).length<=2998/\(aj d.den).length<=2998/\(aj e.num.natAbs).length<=2998/\(aj e.den).length<=2998/\(aj f.num.natAbs).length<=2998/\(aj f.den).length<=2998 then some (.int .i64 (kU (uZ (a,b) (c,d) (e,f)))) else none
  |_,_,_,_,_,_=>none
 |47,[.agg [.str a,.str b]]=>if a.length<=1000000000/\b.length<=1000000000 then some (.int .i64 (jj [a,b])) else none
 |f,args=>cq f args
theorem BP:afs prog (ai gP):=bT fun f R v h mem=>by
 unfold gP at h;split at h
 .split at h
  .rename_i a b c d e f Q O Z N M K
   split at h
   .rename_i X
    obtain⟨G,F,D,C,B,y,u,o,m,V,U,S⟩:=X;cases h;rw[aF Q,aF O,aF Z,aF N,aF M,aF K];exact MI (a,b) (c,d) (e,f) ⟨(dH ⟨G,F⟩).mono (by omega) (by omega),(dH ⟨D,C⟩).mono (by omega) (by omega)⟩
     ⟨(dH ⟨B,y⟩).mono (by omega) (by omega),(dH ⟨u,o⟩).mono (by omega) (by omega)⟩ ⟨(dH ⟨m,V⟩).mono (by omega) (by omega),(dH ⟨U,S⟩).mono (by omega) (by omega)⟩ mem
   .cases h
  .cases h
 .split at h
  next Z=>cases h;exact nI _ _ Z.1 Z.2 mem
  .cases h
 .have:=fc.fn _ _ mem ⟨v,none,[]⟩ (by unfold ai;simp only;rw[h])
  simpa [afw.mem] using this
theorem Y4{p:P2}(h:pDg 200 p):jj [aJ p.1,aJ p.2]=0:=by simp[jj,jT h.1,jT h.2]
noncomputable def pK(H:List P2)(I:List Tr):afu:=fun c Z M=>match c,Z with
 |.fn 100,[.agg [.slice b 0 n none,.slice c 0 k none]]=>open Classical in if n=H.length/\k=I.length/\(∃o,M[b]? =some (.cells o 2 (pC H)))/\(∃o,M[c]? =some (.cells o 3 (tC I))) then some ⟨.bool true,none,[]⟩ else none
 |c,Z=>ai gP c Z M
def we(c:Code):List Nat:=if (ae c).contains 32 then [32] else if (ae c).contains 48 then [48] else if (ae c).contains 53 then [53] else []
def msB(n k:Nat):afz:=.cells true 0 [.slice 0 0 n none,.slice 1 0 k none]
variable{K:Nat}{b b3 b4 b5:Code}
theorem yc(H:List P2)(I:List Tr)(W:∀p∈H,pDg 200 p)(Y:H.Nodup)(hl:H.length<=1000000000)(hK:H.length<K){b2:Code}(J:ah f46=[b,b2,b3,b4,b5]):
  ∃F:Env->Bool->Env,∀Z d,(aa Z 30=.slice 0 0 H.length none/\aa Z 31=.int .i64 H.length/\aa Z 32=.int .i64 0/\aa Z 3=.map 3/\aa Z 1=.ptr 2 0)->
   aO (aL prog) we (pK H I) K 105 2 true (.loop b) ⟨Z,[.cells false 2 (pC H),.cells false 3 (tC I),msB H.length I.length,.map []],d⟩=some (.exit 1,⟨F Z d,[.cells false 2 (pC H),.cells false 3 (tC I),msB H.length I.length,.map (H.map pmE)],d⟩)/\aa (F Z d) 1=.ptr 2 0:=by
 refine bG (L:=[32]) (by simp[ah,aw,f46] at J;rw[<-J.1];rfl) (fun Z=>aa Z 30=.slice 0 0 H.length none/\aa Z 31=.int .i64 H.length/\aa Z 32=.int .i64 0/\aa Z 3=.map 3/\aa Z 1=.ptr 2 0) (fun _ u =>aa u 1=.ptr 2 0) ?_;rintro Z d ⟨h30,h31,h32,h3,V⟩;simp[ah,aw,f46] at J;obtain⟨J,-⟩:=J;have U:au [32] (ae b) Z ((32,.int .i64 ((0:Nat):Int))::Z)=au [32] (ae b) Z Z:=by simp[au,h32]
 rw[<-U];refine bZ (α:=Nat) (fun n=>⟨au [32] (ae b) Z ((32,.int .i64 (n:Int))::Z),[.cells false 2 (pC H),.cells false 3 (tC I),msB H.length I.length,.map ((H.take n).map pmE)],d⟩) (fun n=>H.length-n) (fun n=>n<=H.length) (.exit 1) _ d _ (by simp) ?_ K 0 (by omega) (by omega);intro n o;clear U;subst J;by_cases Q:n<H.length
 .left
  obtain⟨p,S⟩:∃q,H[n]? =some q:=⟨H[n],LB Q⟩
  obtain⟨M,k2,k3,k4⟩:=UQ S;have X:=W p (Lo S);have O:p∉H.take n:=by intro N;obtain⟨j,hj,G⟩:=List.mem_iff_getElem.1 N;rw[M0] at hj;rw[List.getElem_take] at G;have V:=Hi.1 S;obtain⟨V,h2⟩:=V;have:=(List.getElem_inj (h₀:=by omega) (h₁:=V) Y).1 (G.trans h2.symm);omega
  have f1:=E2 p (H.take n) 0 O;have f2:=SS p;have R:(H.take (n+1)).map pmE=(H.take n).map pmE++[pmE p]:=by rw[List.take_add_one,S];simp
  have w1:IntKind.i64.wrap ((n:Int)+1)=((n+1:Nat):Int):=by rw[af];omega
  have D:=Y4 X;have C:=Xm X.1 (by omega) (by omega);have B:=Xm X.2 (by omega) (by omega);obtain⟨m,N⟩:=xE (n+1);rw[<-N] at w1 R;have r1:=Ht 4 (H.take n);obtain⟨E,y⟩:=xE ((H.take n).map pmE);rw[<-y] at f1 R r1;rw[<-y];refine⟨m,?_⟩;obtain⟨px,py⟩:=p;simp only[pA,pmE] at f1 f2 R M D C B;simp[h30,h31,h3,Q,pK,ai,gP,M,k4,D,C,B,w1,f1,f2,R,r1,msB,yI,vE,lU,ka,fz];omega
 .right
  have e:H.take n=H:=An (by omega);rw[e];have aao :¬(n:Int)<H.length:=by omega
  simp[h31,V,Q]
def ZJ(H:List P2)(t:Tr):Prop:=∃p q r,H[t.1]? =some p/\H[t.2.1]? =some q/\H[t.2.2]? =some r/\0<kU (uZ p q r)
variable{b1:Code}
theorem yd(I:List P2)(H:List Tr)(E:List (AV×AV))(W:∀p∈I,pDg 200 p)(hT:∀t∈H,ZJ I t)(hl:I.length<=1000000000)(Z':H.length<=1000000000)(hE:E.flatMap (fun e=>e.1.refs 4++e.2.refs 4)=[])(hK:H.length<K+5)(J:ah f46=[b1,b,b3,b4,b5]):
  ∃F:Env->Bool->Env,∀Z d,(aa Z 1=.ptr 2 0/\aa Z 46=.slice 1 0 H.length none/\aa Z 47=.int .i64 H.length/\aa Z 48=.int .i64 0)->
   aO (aL prog) we (pK I H) (K+5) 105 2 true (.loop b) ⟨Z,[.cells false 2 (pC I),.cells false 3 (tC H),msB I.length H.length,.map E],d⟩=some (.exit 3,⟨F Z d,[.cells false 2 (pC I),.cells false 3 (tC H),msB I.length H.length,.map E],d⟩)/\aa (F Z d) 1=.ptr 2 0:=by
 refine bG (L:=[48]) (by simp[ah,aw,f46] at J;rw[<-J.2.1];rfl) (fun Z=>aa Z 1=.ptr 2 0/\aa Z 46=.slice 1 0 H.length none/\aa Z 47=.int .i64 H.length/\aa Z 48=.int .i64 0) (fun _ AC =>aa AC 1=.ptr 2 0) ?_;rintro Z d ⟨h1,h46,h47,h48⟩;obtain⟨X,N⟩:∃X,bn f46=[X]:=⟨_,rfl⟩
 obtain⟨M,G⟩:=gF N (l:=[0,1,0,4,15,31,0,64,0,256,960,1984,0,4096,0,16384,61440,126976,262143,524287]) (j:=19) (by kernel_rfl) (by decide);simp[bn,cU,f46] at N;simp[ah,aw,f46] at J;obtain⟨-,J,-⟩:=J;have V:au [48] (ae b) Z ((48,.int .i64 ((0:Nat):Int))::Z)=au [48] (ae b) Z Z:=by simp[au,h48]
 rw[<-V];refine bZ (α:=Nat) (fun n=>⟨au [48] (ae b) Z ((48,.int .i64 (n:Int))::Z),[.cells false 2 (pC I),.cells false 3 (tC H),msB I.length H.length,.map E],d⟩) (fun n=>H.length-n) (fun n=>n<=H.length) (.exit 3) _ d _ (by simp) ?_ (K+5) 0 (by omega) (by omega);intro n hn1;clear V;subst J;subst N;by_cases D:n<H.length
 .left
  obtain⟨t,ht⟩:∃q,H[n]? =some q:=⟨H[n],LB D⟩
  obtain⟨k1,k2⟩:=Ze ht;obtain⟨p,q,r,R,Q,O,U⟩:=hT t (Lo ht);obtain⟨C,B,y⟩:=t;simp only at R Q O k1;obtain⟨p1,-,-,p4⟩:=UQ R;obtain⟨q1,-,-,q4⟩:=UQ Q;obtain⟨r1,-,-,r4⟩:=UQ O;have a1:=gL R;have a2:=gL Q;have a3:=gL O;have u :¬((C:Int)<0):=by omega
  have o :¬((B:Int)<0):=by omega
  have Y :¬((y:Int)<0):=by omega
  have ae6 :¬((I.length:Int)<=C):=by omega
  have ae7 :¬((I.length:Int)<=B):=by omega
  have ae8 :¬((I.length:Int)<=y):=by omega
  have g1:¬I.length<=C:=by omega
  have g2:¬I.length<=B:=by omega
  have g3:¬I.length<=y:=by omega
  have hp:=W p (Lo R);have hq:=W q (Lo Q);have hr:=W r (Lo O);obtain⟨p5,p6⟩:=gK hp.1 (by omega) (m:=2998) (by omega);obtain⟨p7,p8⟩:=gK hp.2 (by omega) (m:=2998) (by omega);obtain⟨q5,q6⟩:=gK hq.1 (by omega) (m:=2998) (by omega);obtain⟨q7,q8⟩:=gK hq.2 (by omega) (m:=2998) (by omega);obtain⟨r5,r6⟩:=gK hr.1 (by omega) (m:=2998) (by omega);obtain⟨r7,r8⟩:=gK hr.2 (by omega) (m:=2998) (by omega);obtain⟨px,py⟩:=p;obtain⟨qx,qy⟩:=q;obtain⟨rx,ry⟩:=r;simp only at p1 q1 r1 p5 p6 p7 p8 q5 q6 q7 q8 r5 r6 r7 r8;obtain⟨S,hS⟩:=xE (kU (uZ (px,py) (qx,qy) (rx,ry)));rw[<-hS] at U;have aaD:¬S<=0:=by omega
  have w1:IntKind.i64.wrap ((n:Int)+1)=((n+1:Nat):Int):=by rw[af];omega
  obtain⟨m,hm⟩:=xE (n+1);rw[<-hm] at w1;have v1:IntKind.i64.wrap 1=1:=rfl;have v2:IntKind.i64.wrap 2=2:=rfl;have v3:IntKind.i64.wrap 3=3:=rfl;have v2' :IntKind.i64.wrap (1+1)=2:=rfl;have v3' :IntKind.i64.wrap (2+1)=3:=rfl;refine⟨m,?_⟩;clear W hT;simp[h1,h46,h47,D,k1,k2,bw,ga,v1,v2,v3,we,a1,a2,a3,u,o,Y,ae6,ae7,ae8,p1,q1,r1,p4,q4,r4,-aN,aY M,cX,cO,cV,G,
   pK,ai,gP,aE,p5,p6,p7,p8,q5,q6,q7,q8,r5,r6,r7,r8,<-hS,aaD,hE,msB,yI,vE,w1,Nat.testBit]
  omega
 .right
  have aao :¬(n:Int)<H.length:=by omega
  simp[h47,h1,D]
theorem Wi:aL prog 286=some ⟨.func #[3] #[79] false,1,8,.nilFunc,true⟩:=by kernel_rfl
theorem Wh:aL prog 203=some ⟨.func #[3] #[4] false,1,8,.nilFunc,true⟩:=by kernel_rfl
attribute [simp] Wi Wh
def cZ(H:List Nat):List AV:=H.map fun(n:Nat)=>.int .i64 (n:Int)
theorem Zx{H:List Nat}{i c:Nat}(h:H[i]? =some c):(cZ H)[i]? =some (.int .i64 (c:Int)):=by simp[cZ,h]
def Ds(I:List P2)(H:List Nat)(i:Nat):P2:=I.getD (H.getD (i%H.length) 0) (0,0)
theorem Dt{I:List P2}(J:∀p∈I,pDg 200 p)(H:List Nat)(i:Nat):pDg 200 (Ds I H i):=by
 unfold Ds;rw[List.getD_eq_getElem?_getD];cases h:I[H.getD (i%H.length) 0]? with
 |none=>exact⟨⟨by decide,by decide⟩,⟨by decide,by decide⟩⟩
 |some p=>exact J p (Lo h)
def upV(I:List P2)(H:List Nat)(i:Nat):Bool:=
 decide (0<vf (Ds I H (i+1)).2 (Ds I H i).2)||(decide (vf (Ds I H (i+1)).2 (Ds I H i).2=0)&&decide (0<vf (Ds I H (i+1)).1 (Ds I H i).1))
def mr(I:List P2)(H:List Nat):Nat->Nat
 |0=>0
 |n+1=>mr I H n+if !upV I H n&&upV I H (n+1) then 1 else 0
def fp(I:List P2)(k:Nat)(H:List Nat):Mem:=[.cells false 2 (pC I),.y9,.cells false 1 (cZ H),.cells true 0 [.slice 0 0 I.length none,.slice 1 0 k none],.cells true 0 [.slice 2 0 H.length none],.cells true 0 [.int .i64 H.length],.cells true 0 [.func 239 [.ptr 3 0,.ptr 4 0,.ptr 5 0]]]
theorem MK(I:List P2)(k:Nat)(H:List Nat)(hc:∀c∈H,c<I.length)(h0:H≠[])(i:Nat):
  bz prog 239 [.int .i64 i,.ptr 3 0,.ptr 4 0,.ptr 5 0] (fp I k H) (pA (Ds I H i)) (fp I k H):=by
 have B:bq prog 239=some f239:=by kernel_rfl
 have y:0<H.length:=by cases H with | nil=>exact absurd rfl h0 | cons a l=>simp
 have U:i%H.length<H.length:=Nat.mod_lt _ y;obtain⟨c,Z⟩:∃c,H[i%H.length]? =some c:=⟨_,LB U⟩
 have X:=hc c (Lo Z);obtain⟨p,G⟩:∃p,I[c]? =some p:=⟨_,LB X⟩
 have S:Ds I H i=p:=by unfold Ds;rw[List.getD_eq_getElem?_getD,List.getD_eq_getElem?_getD,Z];simp[G]
 rw[S];obtain⟨F,-,-,u⟩:=UQ G;have D:=Zx Z;have C:(i:Int).tmod (H.length:Int)=((i%H.length:Nat):Int):=xu i H.length;have Y:¬((H.length:Int)=0):=by omega
 have R:¬H.length=0:=by omega
 obtain⟨j,Q⟩:=xE (i%H.length);rw[<-Q] at C U D Z;obtain⟨V,O⟩:∃V,bn f239=[V]:=⟨_,rfl⟩
 obtain⟨N,M⟩:=gF O (l:=[0,1,0,0,0,24,60,124,255,511,1023]) (j:=10) (by kernel_rfl) (by decide);simp[bn,cU,f239] at O;subst O;obtain⟨o,m⟩:=p;simp only at F;have h:ad (aL prog) (fun _=>[]) (bq prog) bC 1 239 [.int .i64 i,.ptr 3 0,.ptr 4 0,.ptr 5 0] (fp I k H)=some ⟨pA (o,m),none,[]⟩:=by simp[ad,B,f239,fp,-aN,aY N,cX,cO,cV,M,C,R,U,D,F,u,X,pA]
 have:=(aB ak (aI _) (ar _) (aQ _) h).1;simpa [afw.mem] using this
noncomputable def lq(I:List P2)(k:Nat)(H:List Nat):afu:=fun c Z M=>match c,Z with
 |.fn 239,[.int .i64 i,.ptr 3 0,.ptr 4 0,.ptr 5 0]=>open Classical in if 0<=i/\M=fp I k H then some ⟨pA (Ds I H i.toNat),none,[]⟩ else none
 |c,Z=>ai gP c Z M
theorem BS(I:List P2)(k:Nat)(H:List Nat)(hc:∀c∈H,c<I.length)(h0:H≠[]):afs prog (lq I k H):=by
 refine cG fun c X M r h=>?_
 unfold lq at h;split at h
 .rename_i i
  split at h
  .rename_i Z
   cases h;obtain⟨V,rfl⟩:=Z;refine aA ?_;rw[List.append_nil];have:=MK I k H hc h0 i.toNat
   rw[QQb V] at this;exact this
  .cases h
 .exact ee BP h
theorem ML(I:List P2)(k:Nat)(H:List Nat)(hP:∀p∈I,pDg 200 p)(hc:∀c∈H,c<I.length)(h0:H≠[])(i:Nat)(hi:i<=1000000000):
  bz prog 240 [.int .i64 i,.ptr 6 0] (fp I k H) (.bool (upV I H i)) (fp I k H):=by
 have G:bq prog 240=some f240:=by kernel_rfl
 have j:=Dt hP H i;have Y:=Dt hP H (i+1);unfold upV;obtain⟨p,Z⟩:=xE (Ds I H i);obtain⟨q,X⟩:=xE (Ds I H (i+1));rw[<-Z] at j |-;rw[<-X] at Y |-;have w1:IntKind.i64.wrap ((i:Int)+1)=((i+1:Nat):Int):=by rw[af];omega
 have F:(0:Int)<=(i:Int)+1:=by omega
 have D:((i:Int)+1).toNat=i+1:=by omega
 obtain⟨W,J⟩:=dC j.1 (by omega) (by omega) (by omega) (by omega);obtain⟨Q,O⟩:=dC j.2 (by omega) (by omega) (by omega) (by omega);obtain⟨q1,q2⟩:=dC Y.1 (by omega) (by omega) (by omega) (by omega);obtain⟨N,M⟩:=dC Y.2 (by omega) (by omega) (by omega) (by omega);obtain⟨px,C⟩:=p;obtain⟨qx,B⟩:=q;simp only at W J Q O q1 q2 N M |-;obtain⟨o1,o2,B'⟩:∃o1 o2,bn f240=[o1,o2]:=⟨_,_,rfl⟩
 obtain⟨V,U⟩:=Lm B' (l:=[0,0,2,7,15,0,0,111,239,511,1023]) (l' :=[0,1,3,7,15,31,63,63,191,511,1023,63,63,7167,15359,32767,65535,131071,262143,524287]) (by kernel_rfl);have y:jr [0,0,2,7,15,0,0,111,239,511,1023] 10=true:=by decide
 have u:jr [0,1,3,7,15,31,63,63,191,511,1023,63,63,7167,15359,32767,65535,131071,262143,524287] 19=true:=by decide
 simp[bn,cU,f240] at B';obtain⟨rfl,rfl⟩:=B';have key:∀b:Bool,(decide (0<vf B C)||(decide (vf B C=0)&&decide (0<vf qx px)))=b->ad (aL prog) (fun _=>[]) (bq prog) (lq I k H) 1 240 [.int .i64 i,.ptr 6 0] (fp I k H)=some ⟨.bool b,none,[]⟩:=by
  intro b S;by_cases o:0<vf B C
  .simp only[o,decide_true,Bool.true_or] at S
   subst S;simp[ad,G,f240,fp,lq,-aN,aY V,aY U,cX,cO,cV,y,u,w1,F,D,<-Z,<-X,pA,ai,gP,cq,cp,aE,Q,O,N,M,o,Nat.testBit]
  .by_cases R:vf B C=0
   .by_cases m:0<vf qx px
    .simp[R,m] at S
     subst S;simp[ad,G,f240,fp,lq,-aN,aY V,aY U,cX,cO,cV,y,u,w1,F,D,<-Z,<-X,pA,ai,gP,cq,cp,aE,W,J,Q,O,q1,q2,N,M,R,m,Nat.testBit]
    .simp[R,m] at S
     subst S;simp[ad,G,f240,fp,lq,-aN,aY V,aY U,cX,cO,cV,y,u,w1,F,D,<-Z,<-X,pA,ai,gP,cq,cp,aE,W,J,Q,O,q1,q2,N,M,R,m,Nat.testBit]
   .simp[o,R] at S
    subst S;simp[ad,G,f240,fp,lq,-aN,aY V,aY U,cX,cO,cV,y,u,w1,F,D,<-Z,<-X,pA,ai,gP,cq,cp,aE,Q,O,N,M,o,R,Nat.testBit]
 have:=(aB ak (aI _) (BS I k H hc h0) (aQ _) (key _ rfl)).1;simpa [afw.mem] using this
noncomputable def wj(I:List P2)(k:Nat)(H:List Nat):afu:=fun c Z M=>match c,Z with
 |.fn 240,[.int .i64 i,.ptr 6 0]=>open Classical in if 0<=i/\i<=1000000000/\M=fp I k H then some ⟨.bool (upV I H i.toNat),none,[]⟩ else none
 |c,Z=>lq I k H c Z M
theorem KD(I:List P2)(k:Nat)(H:List Nat)(J:∀p∈I,pDg 200 p)(hc:∀c∈H,c<I.length)(h0:H≠[]):afs prog (wj I k H):=by
 refine cG fun c X M r h=>?_
 unfold wj at h;split at h
 .rename_i i
  split at h
  .rename_i Z
   cases h;obtain⟨V,U,rfl⟩:=Z;refine aA ?_;rw[List.append_nil];have:=ML I k H J hc h0 i.toNat (by omega);rw[QQb V] at this;exact this
  .cases h
 .exact ee (BS I k H hc h0) h
def UP(I:List P2)(H:List Nat):Prop:=
 H≠[]/\(∀c∈H,c<I.length)/\(∀i,i<H.length->0<=kU (uZ (Ds I H i) (Ds I H (i+1)) (Ds I H (i+2))))/\mr I H H.length=1
theorem FH(I:List P2)(H:List Nat):∀n,mr I H n<=n
 |0=>Es _
 |n+1=>by have:=FH I H n;unfold mr;split<;>omega
section
variable (PS:List P2)(k:Nat)(cyc:List Nat)(hP:∀p∈PS,pDg 200 p)(ho:UP PS cyc)(hl:cyc.length<=1000000)
include PS k cyc hP ho hl
theorem Em(hK:cyc.length<K)(hb:ah f182=[b]):
  ∃F:Env->Bool->Env,∀Z d,(aa Z 6=.ptr 6 0/\aa Z 7=.func 240 [.ptr 6 0]/\aa Z 8=.int .i64 0/\aa Z 14=.int .i64 cyc.length/\aa Z 15=.int .i64 0)->
   aO (aL prog) (fun _=>[8,15]) (wj PS k cyc) K 46 3 true (.loop b) ⟨Z,fp PS k cyc,d⟩=some (.exit 0,⟨F Z d,fp PS k cyc,d⟩)/\aa (F Z d) 8=.int .i64 1:=by
 refine bG rfl (fun Z=>aa Z 6=.ptr 6 0/\aa Z 7=.func 240 [.ptr 6 0]/\aa Z 8=.int .i64 0/\aa Z 14=.int .i64 cyc.length/\aa Z 15=.int .i64 0) (fun _ AC =>aa AC 8=.int .i64 1) ?_;rintro Z d ⟨h6,h7,h8,h14,h15⟩;obtain⟨-,-,C,B⟩:=ho;obtain⟨N,y⟩:∃N,bn f182=[N]:=⟨_,rfl⟩
 obtain⟨u,o⟩:=gF y (l:=[0,0,3,0,0,16,63,0,0,256,1023,2047,4095]) (j:=12) (by kernel_rfl) (by decide);simp[bn,cU,f182] at y;simp[ah,aw,f182] at hb;have M:au [8,15] (ae b) Z ((8,.int .i64 ((mr PS cyc 0:Nat):Int))::(15,.int .i64 ((0:Nat):Int))::Z)=au [8,15] (ae b) Z Z:=by simp[au,h8,h15,mr]
 rw[<-M];refine bZ (α:=Nat) (fun n=>⟨au [8,15] (ae b) Z ((8,.int .i64 ((mr PS cyc n:Nat):Int))::(15,.int .i64 (n:Int))::Z),fp PS k cyc,d⟩) (fun n=>cyc.length-n) (fun n=>n<=cyc.length) (.exit 0) _ d _ (by simp) ?_ K 0 (by omega) (by omega);intro n hn1;clear M;subst hb;subst y;by_cases A':n<cyc.length
 .left
  have h3:=C n A';have Y:=Dt hP cyc n;have W:=Dt hP cyc (n+1);have J:=Dt hP cyc (n+2);obtain⟨p,O⟩:=xE (Ds PS cyc n);obtain⟨q,X⟩:=xE (Ds PS cyc (n+1));obtain⟨r,Q⟩:=xE (Ds PS cyc (n+2));rw[<-O,<-X,<-Q] at h3;rw[<-O] at Y;rw[<-X] at W;rw[<-Q] at J;obtain⟨p5,p6⟩:=gK Y.1 (by omega) (m:=2998) (by omega);obtain⟨p7,p8⟩:=gK Y.2 (by omega) (m:=2998) (by omega);obtain⟨q5,q6⟩:=gK W.1 (by omega) (m:=2998) (by omega);obtain⟨q7,q8⟩:=gK W.2 (by omega) (m:=2998) (by omega);obtain⟨r5,r6⟩:=gK J.1 (by omega) (m:=2998) (by omega);obtain⟨r7,r8⟩:=gK J.2 (by omega) (m:=2998) (by omega);obtain⟨px,py⟩:=p;obtain⟨qx,qy⟩:=q;obtain⟨rx,ry⟩:=r;simp only at p5 p6 p7 p8 q5 q6 q7 q8 r5 r6 r7 r8;obtain⟨S,hS⟩:=xE (kU (uZ (px,py) (qx,qy) (rx,ry)));rw[<-hS] at h3;have I:¬S<0:=by omega
  obtain⟨D,H⟩:=xE (n+1);obtain⟨m2,hm2⟩:=xE (n+2);have w1:IntKind.i64.wrap ((n:Int)+1)=(D:Int):=by rw[af];omega
  have w2:IntKind.i64.wrap ((n:Int)+2)=(m2:Int):=by rw[af];omega
  have s5:(n:Int)<=1000000000:=by omega
  have s6:(D:Int)<=1000000000:=by omega
  have s7:n<=1000000000:=by omega
  have s8:D<=1000000000:=by omega
  have hle:=FH PS cyc n;have G:mr PS cyc (n+1)=mr PS cyc n+if !upV PS cyc n&&upV PS cyc (n+1) then 1 else 0:=rfl
  obtain⟨R,hRe⟩:=xE (mr PS cyc n);rw[<-hRe] at G hle |-;have w3:IntKind.i64.wrap ((R:Int)+1)=((R+1:Nat):Int):=by rw[af];omega
  obtain⟨U,hU⟩:=xE (upV PS cyc n);obtain⟨V,hV⟩:=xE (upV PS cyc (n+1));rw[<-hU,<-hV] at G;rw[<-H] at G hV X;rw[<-hm2] at Q;refine⟨D,?_⟩;cases U<;>cases V;all_goals
   simp at G;simp[fp,h6,h7,h14,A',wj,lq,-aN,aY u,cX,cO,cV,o,w1,w2,w3,s5,s6,<-O,<-X,<-Q,<-hU,<-hV,pA,ai,gP,aE,p5,p6,p7,p8,q5,q6,q7,q8,r5,r6,r7,r8,<-hS,I,G,Nat.testBit];omega
 .right
  have e:n=cyc.length:=by omega
  subst e;have aao :¬(cyc.length:Int)<cyc.length:=by omega
  simp[h14,B]
theorem MH:
  bz prog 182 [.agg [.slice 0 0 PS.length none,.slice 1 0 k none],.slice 2 0 cyc.length none] [.cells false 2 (pC PS),.y9,.cells false 1 (cZ cyc)] (.bool true) [.cells false 2 (pC PS),.y9,.cells false 1 (cZ cyc)]:=by
 have S:bq prog 182=some f182:=by kernel_rfl
 obtain⟨b,Z⟩:∃b,ah f182=[b]:=⟨_,rfl⟩
 obtain⟨F,X⟩:=Em (K:=cyc.length+1) PS k cyc hP ho hl (by omega) Z;simp[ah,aw,f182] at Z;subst Z;have U:=fun V d h=>(X V d h).1
 have R:=fun V d h=>(X V d h).2
 clear X;simp only[fp] at U;refine fQ (lv:=(fun _=>[8,15])) (K:=(cyc.length+1)) (KD PS k cyc hP ho.2.1 ho.1) ?_;simp[ad,S,f182,U,R]
end
theorem xT(a:Int):∀(N:List (Int×Int)) (i:Nat),(qJ N a=none->jU (aL prog) 3 (.int .i64 a) (N.map nxE) i=some none)/\∀b,qJ N a=some b->∃q,jU (aL prog) 3 (.int .i64 a) (N.map nxE) i=some (some (q,.int .i64 b))
 | [],i=>⟨fun _=>rfl,fun b h=>by cases h⟩
 |p::N,i=>by
  have e:kS (aL prog) 20 3 (.int .i64 a) (.int .i64 p.1)=some (decide (a=p.1)):=by simp[kS]
  simp only[List.map_cons,jU,nxE,e,qJ];have Z:=xT a N (i+1);by_cases h:a=p.1
  .simp only[h,decide_true,if_true]
   exact⟨fun h=>(by cases h),fun b X=>⟨i,(by cases X;rfl)⟩⟩
  .simp only[h,decide_false,if_false]
   exact Z
theorem Vy(d:Nat)(x y:Int):kS (aL prog) (d+1) 3 (.int .i64 x) (.int .i64 y)=some (decide (x=y)):=by rw[kS];simp
theorem Vz(a b c d:Int):kS (aL prog) 20 115 (.agg [.int .i64 a,.int .i64 b]) (.agg [.int .i64 c,.int .i64 d])=some (decide (a=c)&&decide (b=d)):=by have r:List.range' 0 2=[0,1]:=rfl;have i:=Vy 18;rw[kS];simp only[KJ,GO,r,Xb];simp[jJ,TyI.isAgg,i]
theorem xU(a:Int×Int):∀(N:List Sd) (i:Nat),(Rm N a=none->jU (aL prog) 115 (.agg [.int .i64 a.1,.int .i64 a.2]) (N.map sdE) i=some none)/\∀b,Rm N a=some b->∃q,jU (aL prog) 115 (.agg [.int .i64 a.1,.int .i64 a.2]) (N.map sdE) i=some (some (q,.int .i64 b))
 | [],i=>⟨fun _=>rfl,fun b h=>by cases h⟩
 |p::N,i=>by
  have e:=Vz a.1 a.2 p.1.1 p.1.2;simp only[List.map_cons,jU,sdE,e,Rm];have Z:=xU a N (i+1);by_cases h:a.1=p.1.1/\a.2=p.1.2
  .rw[if_pos h]
   simp only[h.1,h.2,decide_true,Bool.and_true];exact⟨fun h=>(by cases h),fun b X=>⟨i,(by cases X;rfl)⟩⟩
  .rw[if_neg h]
   have V:(decide (a.1=p.1.1)&&decide (a.2=p.1.2))=false:=by rw[<-Bool.not_eq_true];simpa using h
   rw[V];exact Z
def ouO(l:List Int):AV:=match l with
 | []=>.kO
 |_=>.slice 6 0 l.length none
def ouM(H:Mem)(l:List Int):Mem:=match l with
 | []=>H
 |_=>H++[.cells true 1 (iZ l)]
theorem zD(n:Nat):∀N:List (Int×Int),(N.map nxE).flatMap (fun e=>e.1.refs n++e.2.refs n)=[]
 | []=>rfl
 |p::N=>by simp[nxE,AV.refs,zD n N]
theorem sB(n:Nat):∀N:List Sd,(N.map sdE).flatMap (fun e=>e.1.refs n++e.2.refs n)=[]
 | []=>rfl
 |p::N=>by simp[sdE,AV.refs,AV.afN,sB n N]
theorem nn(n:Nat)(N:List (Int×Int)):afz.refs n (.map (N.map nxE))=[]:=zD n N
theorem np(n:Nat)(N:List Sd):afz.refs n (.af6 (N.map sdE))=[]:=sB n N
theorem yK(n:Nat)(o:Bool)(e:Nat)(cs:List AV):afz.refs n (.cells o e cs)=AV.afN n cs:=rfl
theorem Dz(f:Nat->Option Nat)(o:Bool)(e:Nat)(cs:List AV):afz.ren f (.cells o e cs)=.cells o e (AV.afR f cs):=rfl
theorem vw(n:Nat):afz.refs n .y9=[]:=rfl
theorem BU(ks:List Sd)(N:List (Int×Int))(first:Int)(H:List Int)(Y n2:Nat)(hc:xC N first N.length first []=some H)(hN:N≠[])(hl:N.length<=1000000)(hK:N.length<K)(J:ah f181=[b1,b])(I:Mem)(W:I=[.af6 (ks.map sdE),.y9,.y9,.cells true 0 [.slice 1 0 Y none,.slice 2 0 n2 none],.map (N.map nxE),.y9]):
  ∃F:Env->Bool->Env,∀X d,(aa X 6=.map 4/\aa X 7=.int .i64 first/\aa X 13=.kO/\aa X 14=.int .i64 first)->
   aO (aL prog) (fun _=>[13,14]) bC K 93 3 true (.loop b) ⟨X,I,d⟩=some (.exit 2,⟨F X d,I++[.cells true 1 (iZ H)],d⟩)/\aa (F X d) 13=.slice 6 0 H.length none:=by
 refine bG rfl (fun X=>aa X 6=.map 4/\aa X 7=.int .i64 first/\aa X 13=.kO/\aa X 14=.int .i64 first) (fun _ B =>aa B 13=.slice 6 0 H.length none) ?_;rintro X d ⟨h6,h7,h13,h14⟩;simp[ah,aw,f181] at J;obtain⟨_,J⟩:=J;have R:I.length=6:=by rw[W];rfl
 rw[R];have y:au [13,14] (ae b) X ((13,ouO [])::(14,.int .i64 first)::X)=au [13,14] (ae b) X X:=by simp[au,h13,h14,ouO]
 rw[<-y];have V:I=ouM I []:=rfl;conv=>congr;ext B;lhs;lhs;rw[V]
 refine bZ (α:=List Int×Int) (fun x=>⟨au [13,14] (ae b) X ((13,ouO x.1)::(14,.int .i64 x.2)::X),ouM I x.1,d⟩) (fun x=>N.length-x.1.length) (fun x=>∃n,x.1.length+n=N.length/\xC N first n x.2 x.1=some H) (.exit 2) _ d _ (by simp) ?_ K ([],first) ⟨N.length,by simp,hc⟩ (by simpa using hK);rintro ⟨Z,a⟩ ⟨n,hn1,hw⟩;clear y V;simp only at hn1 hw;cases n with
 |zero=>
  right;simp only[xC,Mp] at hw;subst hw;cases Z with
  |nil=>exact absurd (GT (by simpa using hn1.symm)) hN
  |cons x Z=>
   have o:¬((Z.length:Int)+1<N.length):=by simp at hn1;omega
   subst J W;simp[ouO,ouM,h6,o]
 |succ n=>
  left;rw[xC] at hw;cases hlk:qJ N a with
  |none=>rw[hlk] at hw;cases hw
  |some c=>
   rw[hlk] at hw;simp only at hw;split at hw
   .cases hw
   .rename_i Q
    obtain⟨q,O⟩:=(xT a N 0).2 c hlk;refine⟨(Z++[a],c),?_⟩;have U:(Z.length:Int)<N.length:=by omega
    subst J W;have u:0<N.length:=by omega
    have m:n+1<=1000000:=by omega
    have M:xC N first n c (Z++[a])=some H:=hw
    cases Z with
    |nil=>
     by_cases S:a=first
     .subst S
      simp[-afz.refs,-afz.ren,ouO,ouM,h6,h7,u,lU,ka,mG,O,nn,np,pP,gf,cY,Me,DC,qG,jH,iZ,yK,Dz,vw];exact⟨⟨n,by simp at hn1;omega,M⟩,by omega⟩
     .simp[-afz.refs,-afz.ren,ouO,ouM,h6,h7,u,S,lU,ka,mG,O,nn,np,pP,gf,cY,Me,DC,qG,jH,iZ,yK,Dz,vw]
      exact⟨⟨n,by simp at hn1;omega,M⟩,by omega⟩
    |cons x Z=>
     have S:¬a=first:=fun e=>Q ⟨e,by simp⟩
     have j:Z.length+1<N.length:=by simp at hn1;omega
     have U:(Z.length:Int)+1<N.length:=by omega
     have hz:iZ (x::Z)++[.int .i64 a]=iZ (x::(Z++[a])):=by simp[iZ]
     have C':(iZ (x::Z)).length=Z.length+1:=by simp[iZ]
     have G:(iZ (x::Z)).take (Z.length+1)=iZ (x::Z):=An (by omega);have D:(Z.length+1+1)*8<=140737488355328:=by omega
     have C:Z.length<=140737488355326:=by omega
     simp[-afz.refs,-afz.ren,ouO,ouM,h6,h7,S,U,lU,ka,mG,O,nn,np,pP,gf,cY,Me,DC,qG,jH,yK,Dz,vw,Hs,DB,G,D,C,hz,C'];exact⟨⟨n,by simp at hn1;omega,by simpa using M⟩,by omega⟩
theorem TR{P:Program}{T:TypeId->Option TyI}{O:afu}{tp:Bool}{N m0:Nat}{lv:Code->List Nat}{Q:Exit->St->Prop}(H:P.follows .mixedOrders=true)(hT:dS P T)(I:afs P O){c:Code}{s:XS}(hs:dm c=true)(h:∃e Z,aO T lv O K N m0 tp c s=some (e,Z)/\Q e ⟨Z.env,Z.mem⟩):AWP P tp N m0 c ⟨s.env,s.mem⟩ Q:=by obtain⟨e,Z,X,V⟩:=h;exact wO H hT I hs X V
def WN(ks:List Sd)(H I:Nat)(seen:List Nat):Mem:=[.af6 (ks.map sdE),.y9,.y9,.cells true 0 [.slice 1 0 H none,.slice 2 0 I none],.map ((dx ks seen).map nxE),.y9]
def ouV(ks:List Sd)(seen:List Nat)(t:Nat):AV:=if t=7 then .int .i64 (AX (-1) (dx ks seen)) else .undef
theorem tZ(ks:List Sd)(seen:List Nat)(j:Nat):dx ks (seen++[j])=dx ks seen++(match bAt ks j with | some p=>[p] | none=>[]):=by unfold dx;rw[List.filterMap_append];congr 1;simp only[List.filterMap_cons,List.filterMap_nil];cases bAt ks j<;>rfl
theorem H4(ks:List Sd)(J:List Int)(H I:Nat)(W:vv ks=true)(hc:CI (tJ ks)=some J):
  bz prog 181 [.agg [.slice 1 0 H none,.slice 2 0 I none],.map 0] [.af6 (ks.map sdE),.y9,.y9] (.tuple [.slice 3 0 J.length none,.bool true]) [.af6 (ks.map sdE),.y9,.y9,.cells true 1 (iZ J)]:=by
 obtain⟨o,M,Y,ok4⟩:=LO W;have hT:=aI prog;refine af8.intro hT (fn:=f181) (by kernel_rfl) rfl rfl (Nat.le_of_ble_eq_true rfl) ?_;refine yr ?_;refine wO ak hT (ar _) (lv:=fun _=>[]) (K:=1) (s:=⟨dQ 0 [.agg [.slice 1 0 H none,.slice 2 0 I none],.map 0],[.af6 (ks.map sdE),.y9,.y9],false⟩) rfl (s' :=⟨[(5,.bool false),(4,.kO),(2,.ptr 3 0),(0,.agg [.slice 1 0 H none,.slice 2 0 I none]),(1,.map 0)],[.af6 (ks.map sdE),.y9,.y9,.cells true 0 [.slice 1 0 H none,.slice 2 0 I none]],false⟩) (e:=.normal) (by simp) ?_;refine yr ?_;refine wO ak hT (ar _) (lv:=fun _=>[]) (K:=1) (s:=⟨_,_,false⟩) rfl (s' :=⟨[(6,.map 4),(17,.map 4),(5,.bool false),(4,.kO),(2,.ptr 3 0),(0,.agg [.slice 1 0 H none,.slice 2 0 I none]),(1,.map 0)],[.af6 (ks.map sdE),.y9,.y9,.cells true 0 [.slice 1 0 H none,.slice 2 0 I none],.map []],false⟩) (e:=.normal) (by simp) ?_;refine yr ?_;refine wO ak hT (ar _) (lv:=fun _=>[]) (K:=1) (s:=⟨_,_,false⟩) rfl (s' :=⟨[(7,.int .i64 (-1)),(6,.map 4),(17,.map 4),(5,.bool false),(4,.kO),(2,.ptr 3 0),(0,.agg [.slice 1 0 H none,.slice 2 0 I none]),(1,.map 0)],[.af6 (ks.map sdE),.y9,.y9,.cells true 0 [.slice 1 0 H none,.slice 2 0 I none],.map []],false⟩) (e:=.normal) (by simp) ?_;refine yr ?_;show AWP _ _ _ _ _ ⟨[(7,.int .i64 (-1)),(6,.map 4),(17,.map 4),(5,.bool false),(4,.kO),(2,.ptr 3 0),(0,.agg [.slice 1 0 H none,.slice 2 0 I none]),(1,.map 0)],[.af6 (ks.map sdE),.y9,.y9,.cells true 0 [.slice 1 0 H none,.slice 2 0 I none],.map []]⟩ _
 refine NC ak hT (ar _) (lv:=fun _=>[]) (K:=1) (b:=0) (es:=ks.map sdE) (s:=⟨[(7,.int .i64 (-1)),(6,.map 4),(17,.map 4),(5,.bool false),(4,.kO),(2,.ptr 3 0),(0,.agg [.slice 1 0 H none,.slice 2 0 I none]),(1,.map 0)],[.af6 (ks.map sdE),.y9,.y9,.cells true 0 [.slice 1 0 H none,.slice 2 0 I none],.map []],false⟩) (s1:=⟨[(18,.map 0),(7,.int .i64 (-1)),(6,.map 4),(17,.map 4),(5,.bool false),(4,.kO),(2,.ptr 3 0),(0,.agg [.slice 1 0 H none,.slice 2 0 I none]),(1,.map 0)],[.af6 (ks.map sdE),.y9,.y9,.cells true 0 [.slice 1 0 H none,.slice 2 0 I none],.map []],false⟩)
  rfl rfl rfl rfl (KK) rfl rfl rfl rfl rfl rfl rfl rfl rfl rfl rfl rfl ?_ ?_ ?_ ?_ rfl rfl [7] _ (ouV ks) (WN ks H I) (fun seen=>seen.Nodup/\∀j∈seen,j<ks.length) rfl ?_ ?_ ?_ ?_ ?_ ?_ ?_
 .decide
 .decide
 .rfl
 .simp
 .decide
 .rfl
 .rintro seen ⟨_,_⟩
  refine⟨rfl,rfl,rfl,fun x hx=>?_⟩;simp only[WN,lM] at hx;rcases hx with rfl | rfl | rfl | rfl | rfl | rfl
  .exact np _ _
  .rfl
  .rfl
  .rfl
  .exact nn _ _
  .rfl
 .intro seen t _ G
  simp only[List.mem_singleton] at G;subst G;rfl
 .refine⟨⟨List.nodup_nil,fun j Q=>(by cases Q)⟩,rfl,fun t G=>?_⟩
  simp only[List.mem_singleton] at G;subst G;rfl
 .rintro seen env ⟨i1,i2⟩ hs hv I'
  have U:=hv 7 (by simp);have O:=hs 6 (by decide);simp[] at O;simp only[ouV,if_true] at U;have hp:=Ml i1 i2 (fun j Q=>I' j (by simpa using Q));have hge:=RQ Y (seen:=seen);have V:=UH hp hge;have Z:∀a,qJ (dx ks seen) a=qJ (tJ ks) a:=Rl hp (HH M)
  have u:(dx ks seen).length=(tJ ks).length:=hp.length_eq;have hw:∀n a l,xC (dx ks seen) (AX (-1) (dx ks seen)) n a l=xC (tJ ks) (AX (-1) (tJ ks)) n a l:=by
   intro n;induction n with
   |zero=>intro a l;rfl
   |succ n ih=>intro a l;simp only[xC,Z,ih];rw[V]
  have D :xC (dx ks seen) (AX (-1) (dx ks seen)) (dx ks seen).length (AX (-1) (dx ks seen)) []=some J:=by rw[hw,u];rw[V];exact hc
  have hN:dx ks seen≠[]:=fun e=>o (by rw[e] at u;exact GT u.symm)
  have hNl:(dx ks seen).length<=1000000:=by rw[u];have:(tJ ks).length<=(List.range ks.length).length:=List.length_filterMap_le _ _;rw[List.length_range] at this;omega
  obtain⟨b1,b,X⟩:∃b1 b,ah f181=[b1,b]:=⟨_,_,rfl⟩
  obtain⟨F,hF⟩:=BU (K:=(dx ks seen).length+1) ks (dx ks seen) _ J H I D hN hNl (by omega) X _ rfl;simp[ah,aw,f181] at X;obtain⟨_,X⟩:=X;subst X;show AWP _ _ _ _ _ _ _
  refine TR ak hT (ar _) (lv:=fun _=>[13,14]) (K:=(dx ks seen).length+1) (s:=⟨_,_,false⟩) rfl ?_;show∃e y,aO (aL prog) (fun _=>[13,14]) bC ((dx ks seen).length+1) 93 3 true _ _=some (e,y)/\_
  simp[-afz.refs,-afz.ren,O,U,hF];have hcl:0<J.length:=by have:=zL D;have:0<(dx ks seen).length:=List.length_pos_iff.2 hN;omega
  refine⟨_,_,⟨rfl,rfl⟩,.inr rfl,[6],rfl,.inl ⟨rfl,?_⟩⟩;have e2:decide (0<J.length)=true:=by simpa using hcl
  rw[e2];simp[AV.ren,AV.afR,rho,agp,DB,List.idxOf?,List.findIdx?,List.findIdx?.go]
 .rintro seen env j k v ⟨i1,i2⟩ hs hv Q hns
  have U:=hv 7 (by simp);have C:=hs 1 (by decide);have O:=hs 6 (by decide);simp[] at C O;simp only[ouV,if_true] at U;rw[Y1] at Q;simp only[Pi] at Q;obtain⟨s,hs1,hs2⟩:=Q;have hkv:=Prod.mk.inj hs2;obtain⟨hk,hvv⟩:=hkv;subst hk hvv;have hjl:=gL hs1;have H1:(seen++[j]).Nodup/\∀i∈seen++[j],i<ks.length:=by
   constructor
   .rw[List.nodup_append];exact⟨i1,by simp,fun a ha b X=>by simp at X;subst X;rintro rfl;exact hns ha⟩
   .intro i hi
    rcases QXK.1 hi with h | h
    .exact i2 i h
    .simp at h;subst h;exact hjl
  have S :(seen++[j]).Nodup/\∀i,i∈seen\/i=j->i<ks.length:=⟨H1.1,fun i hi=>H1.2 i (by simpa using hi)⟩
  cases Z:Rm ks (s.1.2,s.1.1) with
  |some t=>
   have X:bAt ks j=none:=by simp[bAt,hs1,Z]
   have R:dx ks (seen++[j])=dx ks seen:=by rw[tZ,X];simp
   obtain⟨q,B⟩:=(xU (s.1.2,s.1.1) ks 0).2 t Z;rw[show(List.length _+1:Nat)=6 from rfl];simp[-afz.refs,-afz.ren,WN,ouV,C,B,R,lU,ka,mG,Lz,jJ,tQ,tT,aD,qG,List.range'];exact⟨_,_,⟨rfl,rfl⟩,.inr rfl,S,by simpa using U,rfl⟩
  |none=>
   have X:bAt ks j=some s.1:=by simp[bAt,hs1,Z]
   have R:dx ks (seen++[j])=dx ks seen++[s.1]:=by rw[tZ,X]
   have V:AX (-1) (dx ks (seen++[j]))=if AX (-1) (dx ks seen)<0\/s.1.1<AX (-1) (dx ks seen) then s.1.1 else AX (-1) (dx ks seen):=by rw[R,NZ];rfl
   have B:=(xU (s.1.2,s.1.1) ks 0).1 Z;have hfr:=HG M hns X;have N:=(xT s.1.1 (dx ks seen) 0).1 hfr;rw[show(List.length _+1:Nat)=6 from rfl];unfold WN ouV;rw[V,R];obtain⟨m,hm⟩:=xE (AX (-1) (dx ks seen));rw[<-hm] at U |-;clear V;by_cases c1:m<0
   .simp[-afz.refs,-afz.ren,C,O,U,B,N,c1,lU,fz,ka,mG,Lz,jJ,tQ,tT,aD,qG,List.range']
    exact⟨_,_,⟨rfl,rfl⟩,.inl rfl,S,rfl,rfl⟩
   .by_cases c2:s.1.1<m
    .simp[-afz.refs,-afz.ren,C,O,U,B,N,c1,c2,lU,fz,ka,mG,Lz,jJ,tQ,tT,aD,qG,List.range']
     exact⟨_,_,⟨rfl,rfl⟩,.inl rfl,S,rfl,rfl⟩
    .simp[-afz.refs,-afz.ren,C,O,U,B,N,c1,c2,lU,fz,ka,mG,Lz,jJ,tQ,tT,aD,qG,List.range']
     exact⟨_,_,⟨rfl,rfl⟩,.inl rfl,S,U,rfl⟩
def WT:List (AV×AV)->Option (List Sd)
 | []=>some []
 |(.agg [.int .i64 a,.int .i64 b],.int .i64 t)::l=>match WT l with
  |some r=>some (((a,b),t)::r)
  |none=>none
 |_=>none
theorem FJ:∀{es:List (AV×AV)} {ks:List Sd},WT es=some ks->es=ks.map sdE
 | [],ks,h=>by cases h;rfl
 |e::es,ks,h=>by
  unfold WT at h;split at h
  next Z=>cases Z
  .rename_i a b t l Z
   cases Z;split at h
   .rename_i r X
    cases h;rw[FJ X];rfl
   .cases h
  .cases h
def Rq(M:Mem)(b:Nat):Option (List (AV×AV)):=match M[b]? with
 |some (.map es)=>some es
 |some (.af6 es)=>some es
 |_=>none
theorem U5(n:Nat)(s:Sd):(sdE s).1.under n=true/\(sdE s).2.under n=true:=by simp[sdE,AV.under,AV.afB]
theorem Of(f:Nat->Option Nat)(s:Sd):((sdE s).1.ren f,(sdE s).2.ren f)=sdE s:=by simp[sdE,AV.ren,AV.afR]
theorem yS(M:Mem)(ks:List Sd)(H:List Int)(b b1 J Y n2:Nat)(hb1:b1<M.length)(hb2:J<M.length)(I:Rq M b=some (ks.map sdE))(W:vv ks=true)(hc:CI (tJ ks)=some H):
  bz prog 181 [.agg [.slice b1 0 Y none,.slice J 0 n2 none],.map b] M (.tuple [.slice M.length 0 H.length none,.bool true]) (M++[.cells true 1 (iZ H)]):=by
 have S:b<M.length:=by
  unfold Rq at I;split at I
  next es h=>exact(gL h)
  next es h=>exact(gL h)
  .cases I
 have:=bz.frame (M:=M) (new:=[.cells true 1 (iZ H)]) [b,b1,J] (m:=[.af6 (ks.map sdE),.y9,.y9]) rfl (by intro k V;simp at V;rcases V with rfl | rfl | rfl<;>assumption) (by rfl) (fun i s Z=>by
  match i with
  |0=>
   simp at Z;subst Z;refine⟨ks.map sdE,?_,rfl,fun j e X=>?_⟩
   .unfold Rq at I
    split at I
    next es h=>cases I;exact .inr h
    next es h=>cases I;exact .inl h
    .cases I
   .rw[Y1] at X
    simp only[Pi] at X;obtain⟨R,U,rfl⟩:=X;refine⟨U5 _ _,?_⟩;rw[Of,Y1,U];rfl
  |1=>simp at Z;subst Z;trivial
  |2=>simp at Z;subst Z;trivial
  |i+3=>simp at Z) rfl (H4 ks H Y n2 W hc)
 simpa [AV.afR,AV.ren,back,afz.ren,DB] using this
def Nj(c:Go.Eng.Callee)(args:List AV)(M:Mem):Option afw:=match c,args with
 |.fn 181,[.agg [.slice b1 0 _ none,.slice b2 0 _ none],.map b]=>match Rq M b with
  |some es=>match WT es with
   |some ks=>match CI (tJ ks) with
    |some cyc=>if vv ks&&(decide (b1<M.length)&&decide (b2<M.length)) then some ⟨.tuple [.slice M.length 0 cyc.length none,.bool true],none,[.cells true 1 (iZ cyc)]⟩ else none
    |none=>none
   |none=>none
  |none=>none
 |_,_=>none
theorem QA:afs prog Nj:=by
 refine cG fun c R M r h=>?_
 unfold Nj at h;split at h
 .split at h
  .rename_i es X
   split at h
   .rename_i Q V
    split at h
    .rename_i U S
     split at h
     .rename_i Z
      simp only[Ar,Cs] at Z;cases h;refine aA (yS M Q U _ _ _ _ _ Z.2.1 Z.2.2 ?_ Z.1 S);rw[X,FJ V]
     .cases h
    .cases h
   .cases h
  .cases h
 .cases h
noncomputable def Ow:afu:=afu.or Nj (ai cq)
theorem Nl:afs prog Ow:=afs.or QA fc
end Go.Proofs
