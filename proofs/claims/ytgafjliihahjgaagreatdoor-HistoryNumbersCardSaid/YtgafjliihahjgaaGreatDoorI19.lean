/- See I36. -/
import Derived.Test.YtgafjliihahjgaaGreatDoorI17
set_option linter.all false
set_option maxRecDepth 100000
set_option maxHeartbeats 40000000
namespace Go.Proofs
open Go.Eng
open Tryz
theorem NH(a b c:P2)(ha:pDg 3000 a)(hb:pDg 3000 b)(hc:pDg 3000 c)(M:Mem):kO prog 159 [pA a,pA b,pA c] M (.str (aB (dJ a b c))) M:=by
 have hG:aS prog 159=some f159:=by kernel_rfl
 obtain⟨Q,I⟩:=a;obtain⟨b1,b2⟩:=b;obtain⟨c1,c2⟩:=c;obtain⟨K,J⟩:=ha;obtain⟨G,F⟩:=hb;obtain⟨D,C⟩:=hc;simp only at K J G F D C;have B:=P5 G K (m:=6000) (by omega) (by omega);have A:=P5 C J (m:=6000) (by omega) (by omega);have z:=P5 F J (m:=6000) (by omega) (by omega);have u:=P5 D K (m:=6000) (by omega) (by omega);have H:=Mq B A;have y:=Mq z u;obtain⟨p1,p2⟩:=dX K (by omega) (by omega) (by omega) (by omega);obtain⟨p3,p4⟩:=dX J (by omega) (by omega) (by omega) (by omega);obtain⟨q1,q2⟩:=dX G (by omega) (by omega) (by omega) (by omega);obtain⟨q3,q4⟩:=dX F (by omega) (by omega) (by omega) (by omega);obtain⟨r1,r2⟩:=dX D (by omega) (by omega) (by omega) (by omega);obtain⟨r3,r4⟩:=dX C (by omega) (by omega) (by omega) (by omega);obtain⟨s1,s2⟩:=dX B (by omega) (by omega) (by omega) (by omega);obtain⟨s3,s4⟩:=dX A (by omega) (by omega) (by omega) (by omega);obtain⟨s5,s6⟩:=dX z (by omega) (by omega) (by omega) (by omega);obtain⟨s7,s8⟩:=dX u (by omega) (by omega) (by omega) (by omega);obtain⟨t1,t2⟩:=dX H (by omega) (by omega) (by omega) (by omega);obtain⟨t3,t4⟩:=dX y (by omega) (by omega) (by omega) (by omega);clear H y B A z u K J G F D C;unfold dJ;simp only;obtain⟨x1,Z⟩:=xE (b1-Q);obtain⟨x2,X⟩:=xE (c2-I);obtain⟨x3,W⟩:=xE (b2-I);obtain⟨x4,V⟩:=xE (c1-Q);rw[<-Z] at s1 s2 t1 t2;rw[<-X] at s3 s4 t1 t2;rw[<-W] at s5 s6 t3 t4;rw[<-V] at s7 s8 t3 t4;rw[<-Z,<-X,<-W,<-V];obtain⟨y1,S⟩:=xE (x1*x2);obtain⟨y2,O⟩:=xE (x3*x4);rw[<-S] at t1 t2;rw[<-O] at t3 t4;rw[<-S,<-O];refine aD cw ?_ M;obtain⟨o1,o2,j⟩:∃o1 o2,aN f159=[o1,o2]:=⟨_,_,rfl⟩
 obtain⟨Y,R⟩:=Ms j (l:=[0,1,0,4,15,0,32,0,128,511,1023,2047]) (l' :=[0,0,2,0,8,30,0,64,0,256,1022,2046,4095,8191]) (by kernel_rfl);have k1:be [0,1,0,4,15,0,32,0,128,511,1023,2047] 11=true:=by decide
 have k2:be [0,0,2,0,8,30,0,64,0,256,1022,2046,4095,8191] 13=true:=by decide
 simp[aN,cj,f159] at j;obtain⟨rfl,rfl⟩:=j;simp[aa,hG,f159,-aJ,ak Y,ak R,bt,bj,bp,k1,k2,pA,aw,af,aq,aI,p1,p2,p3,p4,q1,q2,q3,q4,r1,r2,r3,r4,s1,s2,s3,s4,s5,s6,s7,s8,t1,t2,t3,t4,<-Z,<-X,<-W,<-V,<-S,<-O,Nat.testBit]
noncomputable def Cw(f:FuncId)(args:List AV):Option AV:=
 match f,args with
 |159,[.agg [.str a,.str b],.agg [.str c,.str d],.agg [.str e,.str f]]=>match eS a,eS b,eS c,eS d,eS e,eS f with
  |some a,some b,some c,some d,some e,some f=>if (az a.num.natAbs).length<=2999/\(az a.den).length<=2999/\(az b.num.natAbs).length<=2999/\(az b.den).length<=2999/\(az c.num.natAbs).length<=2999/\(az c.den).length<=2999/\
    (az d.num.natAbs).length<=2999/\(az d.den).length<=2999/\(az e.num.natAbs).length<=2999/\(az e.den).length<=2999/\(az f.num.natAbs).length<=2999/\(az f.den).length<=2999 then some (.str (aB (dJ (a,b) (c,d) (e,f)))) else none
  |_,_,_,_,_,_=>none
 |f,args=>aq f args
theorem OE:adM prog (af Cw):=bX fun f V v h mem=>by
 unfold Cw at h;split at h
 .split at h
  .rename_i a b c d e f S O hc M he K
   split at h
   .rename_i J
    obtain⟨G,F,D,C,B,A,z,u,m,Z,X,W⟩:=J;cases h;rw[aA S,aA O,aA hc,aA M,aA he,aA K];exact NH (a,b) (c,d) (e,f) ⟨(dE ⟨G,F⟩).mono (by omega) (by omega),(dE ⟨D,C⟩).mono (by omega) (by omega)⟩
     ⟨(dE ⟨B,A⟩).mono (by omega) (by omega),(dE ⟨z,u⟩).mono (by omega) (by omega)⟩ ⟨(dE ⟨m,Z⟩).mono (by omega) (by omega),(dE ⟨X,W⟩).mono (by omega) (by omega)⟩ mem
   .cases h
  .cases h
 .have:=cw.fn _ _ mem ⟨v,none,[]⟩ (by unfold af;simp only;rw[h])
  simpa [afA.mem] using this
theorem il{n m:Nat}{q:Rat}(h:dg n n q)(h0:0<n)(y:n<=m):(az q.num.natAbs).length<=m/\(az q.den).length<=m:=by have:=h.lens h0 h0;exact⟨by omega,by omega⟩
theorem NJ(a b c:P2)(H:pDg 2999 a)(I:pDg 2999 b)(hc:pDg 2999 c)(M:Mem):kO prog 106 [pA a,pA b,pA c] M (.int .i64 (oB (dJ a b c))) M:=by
 have C:aS prog 106=some f106:=by kernel_rfl
 obtain⟨B,A⟩:=a;obtain⟨z,u⟩:=b;obtain⟨m,j⟩:=c;obtain⟨Z,X⟩:=il H.1 (by omega) (L9 _);obtain⟨W,V⟩:=il H.2 (by omega) (L9 _);obtain⟨S,O⟩:=il I.1 (by omega) (L9 _);obtain⟨K,J⟩:=il I.2 (by omega) (L9 _);obtain⟨r1,r2⟩:=il hc.1 (by omega) (L9 _);obtain⟨G,F⟩:=il hc.2 (by omega) (L9 _);refine aD OE ?_ M;simp only at Z X W V S O K J r1 r2 G F;obtain⟨y,D⟩:=xE (dJ (B,A) (z,u) (m,j));rw[<-D];simp[aa,C,f106,pA,aw,af,Cw,aq,aI,ba,aX,Z,X,W,V,S,O,K,J,r1,r2,G,F,<-D]
theorem mf(d:Nat)(x y:List UInt8):mI (aU prog) (d+1) 29 (.str x) (.str y)=some (x==y):=by rw[mI];simp
theorem TD(p q:P2):mI (aU prog) 20 101 (pA p) (pA q)=some (decide (p.1=q.1)&&decide (p.2=q.2)):=by have i:=mf 18;rw[mI];simp[pA,Tj,kJ,TyI.isAgg,i,H5]
theorem Fi(p:P2):∀(L:List P2) (i:Nat),p∉L->kB (aU prog) 101 (pA p) (L.map pmE) i=some none
 | [],i,_=>rfl
 |q::L,i,h=>by
  have e:=TD p q;have X:(decide (p.1=q.1)&&decide (p.2=q.2))=false:=by rw[<-Bool.not_eq_true];intro Z;simp only[Es,L0] at Z;exact h (by rw[show p=q from Prod.ext Z.1 Z.2];exact List.mem_cons_self ..)
  simp only[List.map_cons,kB,pmE,e,X];exact Fi p L (i+1) (fun Z=>h (List.mem_cons_of_mem _ Z))
theorem TW(p:P2):na (aU prog) 20 101 (pA p)=true:=by simp[pA,na,U4,kJ,TyI.isAgg]
noncomputable def iC(f:FuncId)(args:List AV):Option AV:=
 match f,args with
 |106,[.agg [.str a,.str b],.agg [.str c,.str d],.agg [.str e,.str f]]=>match eS a,eS b,eS c,eS d,eS e,eS f with
  |some a,some b,some c,some d,some e,some f=>if (az a.num.natAbs).length<=2998/\(az a.den).length<=2998/\(az b.num.natAbs).length<=2998/\(az b.den).length<=2998/\(az c.num.natAbs).length<=2998/\(az c.den).length<=2998/\
    (az d.num.natAbs).length<=2998/\(az d.den).length<=2998/\(az e.num.natAbs).length<=2998/\(az e.den).length<=2998/\(az f.num.natAbs).length<=2998/\(az f.den).length<=2998 then some (.int .i64 (oB (dJ (a,b) (c,d) (e,f)))) else none
  |_,_,_,_,_,_=>none
 |105,[.agg [.str a,.str b]]=>if a.length<=1000000000/\b.length<=1000000000 then some (.int .i64 (uz [a,b])) else none
 |f,args=>aq f args
theorem Cv:adM prog (af iC):=bX fun f V v h mem=>by
 unfold iC at h;split at h
 .split at h
  .rename_i a b c d e f S O hc M he K
   split at h
   .rename_i J
    obtain⟨G,F,D,C,B,A,z,u,m,Z,X,W⟩:=J;cases h;rw[aA S,aA O,aA hc,aA M,aA he,aA K];exact NJ (a,b) (c,d) (e,f) ⟨(dE ⟨G,F⟩).mono (by omega) (by omega),(dE ⟨D,C⟩).mono (by omega) (by omega)⟩
     ⟨(dE ⟨B,A⟩).mono (by omega) (by omega),(dE ⟨z,u⟩).mono (by omega) (by omega)⟩ ⟨(dE ⟨m,Z⟩).mono (by omega) (by omega),(dE ⟨X,W⟩).mono (by omega) (by omega)⟩ mem
   .cases h
  .cases h
 .split at h
  next hc=>cases h;exact oG _ _ hc.1 hc.2 mem
  .cases h
 .have:=cw.fn _ _ mem ⟨v,none,[]⟩ (by unfold af;simp only;rw[h])
  simpa [afA.mem] using this
theorem Zs{p:P2}(h:pDg 200 p):uz [aB p.1,aB p.2]=0:=by simp[uz,vR h.1,vR h.2]
noncomputable def pV(y:List P2)(H:List Tr):af3:=fun c Z M=>match c,Z with
 |.fn 107,[.agg [.slice b 0 n none,.slice c 0 k none]]=>open Classical in if n=y.length/\k=H.length/\(∃o,M[b]? =some (.cells o 2 (pC y)))/\(∃o,M[c]? =some (.cells o 3 (tC H))) then some ⟨.bool true,none,[]⟩ else none
 |c,Z=>af iC c Z M
def xk(c:Code):List Nat:=if (ab c).contains 32 then [32] else if (ab c).contains 48 then [48] else if (ab c).contains 53 then [53] else []
def msB(n k:Nat):af6:=.cells true 0 [.slice 0 0 n none,.slice 1 0 k none]
variable{K:Nat}{b b3 b4 b5:Code}
theorem yN(y:List P2)(H:List Tr)(Q:∀p∈y,pDg 200 p)(R:y.Nodup)(hl:y.length<=1000000000)(hK:y.length<K){Y:Code}(I:ag f59=[b,Y,b3,b4,b5]):
  ∃F:Env->Bool->Env,∀Z d,(ad Z 30=.slice 0 0 y.length none/\ad Z 31=.int .i64 y.length/\ad Z 32=.int .i64 0/\ad Z 3=.map 3/\ad Z 1=.ptr 2 0)->
   aT (aU prog) xk (pV y H) K 105 2 true (.loop b) ⟨Z,[.cells false 2 (pC y),.cells false 3 (tC H),msB y.length H.length,.map []],d⟩=some (.exit 1,⟨F Z d,[.cells false 2 (pC y),.cells false 3 (tC H),msB y.length H.length,.map (y.map pmE)],d⟩)/\ad (F Z d) 1=.ptr 2 0:=by
 refine bG (L:=[32]) (by simp[ag,aH,f59] at I;rw[<-I.1];rfl) (fun Z=>ad Z 30=.slice 0 0 y.length none/\ad Z 31=.int .i64 y.length/\ad Z 32=.int .i64 0/\ad Z 3=.map 3/\ad Z 1=.ptr 2 0) (fun _ u =>ad u 1=.ptr 2 0) ?_;rintro Z d ⟨h30,h31,h32,h3,W⟩;simp[ag,aH,f59] at I;obtain⟨I,-⟩:=I;have V:au [32] (ab b) Z ((32,.int .i64 ((0:Nat):Int))::Z)=au [32] (ab b) Z Z:=by simp[au,h32]
 rw[<-V];refine bW (α:=Nat) (fun n=>⟨au [32] (ab b) Z ((32,.int .i64 (n:Int))::Z),[.cells false 2 (pC y),.cells false 3 (tC H),msB y.length H.length,.map ((y.take n).map pmE)],d⟩) (fun n=>y.length-n) (fun n=>n<=y.length) (.exit 1) _ d _ (by simp) ?_ K 0 (by omega) (by omega);intro n hn1;clear V;subst I;by_cases M:n<y.length
 .left
  obtain⟨p,S⟩:∃q,y[n]? =some q:=⟨y[n],GT M⟩
  obtain⟨D,k2,k3,k4⟩:=Pp S;have X:=Q p (Lo S);have J:p∉y.take n:=by intro G;obtain⟨j,hj,he⟩:=List.mem_iff_getElem.1 G;rw[P3] at hj;rw[List.getElem_take] at he;have W:=N4.1 S;obtain⟨W,h2⟩:=W;have:=(List.getElem_inj (h₀:=by omega) (h₁:=W) R).1 (he.trans h2.symm);omega
  have f1:=Fi p (y.take n) 0 J;have f2:=TW p;have O:(y.take (n+1)).map pmE=(y.take n).map pmE++[pmE p]:=by rw[List.take_add_one,S];simp
  have w1:IntKind.i64.wrap ((n:Int)+1)=((n+1:Nat):Int):=by rw[ai];omega
  have C:=Zs X;have B:=U9 X.1 (by omega) (by omega);have A:=U9 X.2 (by omega) (by omega);obtain⟨m,G⟩:=xE (n+1);rw[<-G] at w1 O;have r1:=Ia 4 (y.take n);obtain⟨E,z⟩:=xE ((y.take n).map pmE);rw[<-z] at f1 O r1;rw[<-z];refine⟨m,?_⟩;obtain⟨px,py⟩:=p;simp only[pA,pmE] at f1 f2 O D C B A;simp[h30,h31,h3,M,pV,af,iC,D,k4,C,B,A,w1,f1,f2,O,r1,msB,fB,fQ,mD,kP,fY];omega
 .right
  have e:y.take n=y:=GE (by omega);rw[e];have X' :¬(n:Int)<y.length:=by omega
  simp[h31,W,M]
def Z8(y:List P2)(t:Tr):Prop:=∃p q r,y[t.1]? =some p/\y[t.2.1]? =some q/\y[t.2.2]? =some r/\0<oB (dJ p q r)
variable{b1:Code}
theorem yO(H:List P2)(y:List Tr)(E:List (AV×AV))(Q:∀p∈H,pDg 200 p)(hT:∀t∈y,Z8 H t)(hl:H.length<=1000000000)(hl2:y.length<=1000000000)(hE:E.flatMap (fun e=>e.1.refs 4++e.2.refs 4)=[])(hK:y.length<K+5)(I:ag f59=[b1,b,b3,b4,b5]):
  ∃F:Env->Bool->Env,∀Z d,(ad Z 1=.ptr 2 0/\ad Z 46=.slice 1 0 y.length none/\ad Z 47=.int .i64 y.length/\ad Z 48=.int .i64 0)->
   aT (aU prog) xk (pV H y) (K+5) 105 2 true (.loop b) ⟨Z,[.cells false 2 (pC H),.cells false 3 (tC y),msB H.length y.length,.map E],d⟩=some (.exit 3,⟨F Z d,[.cells false 2 (pC H),.cells false 3 (tC y),msB H.length y.length,.map E],d⟩)/\ad (F Z d) 1=.ptr 2 0:=by
 refine bG (L:=[48]) (by simp[ag,aH,f59] at I;rw[<-I.2.1];rfl) (fun Z=>ad Z 1=.ptr 2 0/\ad Z 46=.slice 1 0 y.length none/\ad Z 47=.int .i64 y.length/\ad Z 48=.int .i64 0) (fun _ AC =>ad AC 1=.ptr 2 0) ?_;rintro Z d ⟨h1,h46,h47,h48⟩;obtain⟨X,G⟩:∃X,aN f59=[X]:=⟨_,rfl⟩
 obtain⟨PP,D⟩:=jO G (l:=[0,1,0,4,15,31,0,64,0,256,960,1984,0,4096,0,16384,61440,126976,262143,524287]) (j:=19) (by kernel_rfl) (by decide);simp[aN,cj,f59] at G;simp[ag,aH,f59] at I;obtain⟨-,I,-⟩:=I;have W:au [48] (ab b) Z ((48,.int .i64 ((0:Nat):Int))::Z)=au [48] (ab b) Z Z:=by simp[au,h48]
 rw[<-W];refine bW (α:=Nat) (fun n=>⟨au [48] (ab b) Z ((48,.int .i64 (n:Int))::Z),[.cells false 2 (pC H),.cells false 3 (tC y),msB H.length y.length,.map E],d⟩) (fun n=>y.length-n) (fun n=>n<=y.length) (.exit 3) _ d _ (by simp) ?_ (K+5) 0 (by omega) (by omega);intro n hn1;clear W;subst I;subst G;by_cases C:n<y.length
 .left
  obtain⟨t,ht⟩:∃q,y[n]? =some q:=⟨y[n],GT C⟩
  obtain⟨k1,k2⟩:=XA ht;obtain⟨p,q,r,O,M,J,V⟩:=hT t (Lo ht);obtain⟨B,A,z⟩:=t;simp only at O M J k1;obtain⟨p1,-,-,p4⟩:=Pp O;obtain⟨q1,-,-,q4⟩:=Pp M;obtain⟨r1,-,-,r4⟩:=Pp J;have a1:=gL O;have a2:=gL M;have a3:=gL J;have u :¬((B:Int)<0):=by omega
  have Y :¬((A:Int)<0):=by omega
  have R :¬((z:Int)<0):=by omega
  have ae' :¬((H.length:Int)<=B):=by omega
  have afa :¬((H.length:Int)<=A):=by omega
  have afb :¬((H.length:Int)<=z):=by omega
  have g1:¬H.length<=B:=by omega
  have g2:¬H.length<=A:=by omega
  have g3:¬H.length<=z:=by omega
  have hp:=Q p (Lo O);have hq:=Q q (Lo M);have hr:=Q r (Lo J);obtain⟨p5,p6⟩:=il hp.1 (by omega) (m:=2998) (by omega);obtain⟨p7,p8⟩:=il hp.2 (by omega) (m:=2998) (by omega);obtain⟨q5,q6⟩:=il hq.1 (by omega) (m:=2998) (by omega);obtain⟨q7,q8⟩:=il hq.2 (by omega) (m:=2998) (by omega);obtain⟨r5,r6⟩:=il hr.1 (by omega) (m:=2998) (by omega);obtain⟨r7,r8⟩:=il hr.2 (by omega) (m:=2998) (by omega);obtain⟨px,py⟩:=p;obtain⟨qx,qy⟩:=q;obtain⟨rx,ry⟩:=r;simp only at p1 q1 r1 p5 p6 p7 p8 q5 q6 q7 q8 r5 r6 r7 r8;obtain⟨S,hS⟩:=xE (oB (dJ (px,py) (qx,qy) (rx,ry)));rw[<-hS] at V;have abL:¬S<=0:=by omega
  have w1:IntKind.i64.wrap ((n:Int)+1)=((n+1:Nat):Int):=by rw[ai];omega
  obtain⟨m,hm⟩:=xE (n+1);rw[<-hm] at w1;have v1:IntKind.i64.wrap 1=1:=rfl;have v2:IntKind.i64.wrap 2=2:=rfl;have v3:IntKind.i64.wrap 3=3:=rfl;have v2' :IntKind.i64.wrap (1+1)=2:=rfl;have v3' :IntKind.i64.wrap (2+1)=3:=rfl;refine⟨m,?_⟩;clear Q hT;simp[h1,h46,h47,C,k1,k2,aR,fW,v1,v2,v3,xk,a1,a2,a3,u,Y,R,ae',afa,afb,p1,q1,r1,p4,q4,r4,-aJ,ak PP,bt,bj,bp,D,
   pV,af,iC,aw,p5,p6,p7,p8,q5,q6,q7,q8,r5,r6,r7,r8,<-hS,abL,hE,msB,fB,fQ,w1,Nat.testBit]
  omega
 .right
  have X' :¬(n:Int)<y.length:=by omega
  simp[h47,h1,C]
theorem WJ:aU prog 303=some ⟨.func #[3] #[101] false,1,8,.nilFunc,true⟩:=by kernel_rfl
theorem WI:aU prog 304=some ⟨.func #[3] #[4] false,1,8,.nilFunc,true⟩:=by kernel_rfl
attribute [simp] WJ WI
def cZ(y:List Nat):List AV:=y.map fun(n:Nat)=>.int .i64 (n:Int)
theorem ZW{y:List Nat}{i c:Nat}(h:y[i]? =some c):(cZ y)[i]? =some (.int .i64 (c:Int)):=by simp[cZ,h]
def DN(H:List P2)(y:List Nat)(i:Nat):P2:=H.getD (y.getD (i%y.length) 0) (0,0)
theorem DO{H:List P2}(I:∀p∈H,pDg 200 p)(y:List Nat)(i:Nat):pDg 200 (DN H y i):=by
 unfold DN;rw[List.getD_eq_getElem?_getD];cases h:H[y.getD (i%y.length) 0]? with
 |none=>exact⟨⟨by decide,by decide⟩,⟨by decide,by decide⟩⟩
 |some p=>exact I p (Lo h)
def upV(H:List P2)(y:List Nat)(i:Nat):Bool:=
 decide (0<nL (DN H y (i+1)).2 (DN H y i).2)||(decide (nL (DN H y (i+1)).2 (DN H y i).2=0)&&decide (0<nL (DN H y (i+1)).1 (DN H y i).1))
def mR(H:List P2)(y:List Nat):Nat->Nat
 |0=>0
 |n+1=>mR H y n+if !upV H y n&&upV H y (n+1) then 1 else 0
def fS(H:List P2)(k:Nat)(y:List Nat):Mem:=[.cells false 2 (pC H),.HS,.cells false 1 (cZ y),.cells true 0 [.slice 0 0 H.length none,.slice 1 0 k none],.cells true 0 [.slice 2 0 y.length none],.cells true 0 [.int .i64 y.length],.cells true 0 [.func 238 [.ptr 3 0,.ptr 4 0,.ptr 5 0]]]
theorem NN(H:List P2)(k:Nat)(y:List Nat)(hc:∀c∈y,c<H.length)(h0:y≠[])(i:Nat):
  kO prog 238 [.int .i64 i,.ptr 3 0,.ptr 4 0,.ptr 5 0] (fS H k y) (pA (DN H y i)) (fS H k y):=by
 have A:aS prog 238=some f238:=by kernel_rfl
 have z:0<y.length:=by cases y with | nil=>exact absurd rfl h0 | cons a l=>simp
 have V:i%y.length<y.length:=Nat.mod_lt _ z;obtain⟨c,Z⟩:∃c,y[i%y.length]? =some c:=⟨_,GT V⟩
 have X:=hc c (Lo Z);obtain⟨p,F⟩:∃p,H[c]? =some p:=⟨_,GT X⟩
 have S:DN H y i=p:=by unfold DN;rw[List.getD_eq_getElem?_getD,List.getD_eq_getElem?_getD,Z];simp[F]
 rw[S];obtain⟨D,-,-,u⟩:=Pp F;have C:=ZW Z;have B:(i:Int).tmod (y.length:Int)=((i%y.length:Nat):Int):=ye i y.length;have Q:¬((y.length:Int)=0):=by omega
 have O:¬y.length=0:=by omega
 obtain⟨j,M⟩:=xE (i%y.length);rw[<-M] at B V C Z;obtain⟨W,J⟩:∃W,aN f238=[W]:=⟨_,rfl⟩
 obtain⟨m,G⟩:=jO J (l:=[0,1,0,0,0,24,60,124,255,511,1023]) (j:=10) (by kernel_rfl) (by decide);simp[aN,cj,f238] at J;subst J;obtain⟨Y,R⟩:=p;simp only at D;have h:aa (aU prog) (fun _=>[]) (aS prog) bD 1 238 [.int .i64 i,.ptr 3 0,.ptr 4 0,.ptr 5 0] (fS H k y)=some ⟨pA (Y,R),none,[]⟩:=by simp[aa,A,f238,fS,-aJ,ak m,bt,bj,bp,G,B,O,V,C,D,u,X,pA]
 have:=(ah ae (al _) (aj _) (ao _) h).1;simpa [afA.mem] using this
noncomputable def lV(H:List P2)(k:Nat)(y:List Nat):af3:=fun c Z M=>match c,Z with
 |.fn 238,[.int .i64 i,.ptr 3 0,.ptr 4 0,.ptr 5 0]=>open Classical in if 0<=i/\M=fS H k y then some ⟨pA (DN H y i.toNat),none,[]⟩ else none
 |c,Z=>af iC c Z M
theorem CA(H:List P2)(k:Nat)(y:List Nat)(hc:∀c∈y,c<H.length)(h0:y≠[]):adM prog (lV H k y):=by
 refine cP fun c Z M r h=>?_
 unfold lV at h;split at h
 .rename_i i
  split at h
  .rename_i X
   cases h;obtain⟨W,rfl⟩:=X;refine aC ?_;rw[List.append_nil];have:=NN H k y hc h0 i.toNat
   rw[QQe W] at this;exact this
  .cases h
 .exact fK Cv h
theorem NO(H:List P2)(k:Nat)(y:List Nat)(hP:∀p∈H,pDg 200 p)(hc:∀c∈y,c<H.length)(h0:y≠[])(i:Nat)(hi:i<=1000000000):
  kO prog 239 [.int .i64 i,.ptr 6 0] (fS H k y) (.bool (upV H y i)) (fS H k y):=by
 have D:aS prog 239=some f239:=by kernel_rfl
 have R:=DO hP y i;have hq:=DO hP y (i+1);unfold upV;obtain⟨p,Z⟩:=xE (DN H y i);obtain⟨q,X⟩:=xE (DN H y (i+1));rw[<-Z] at R |-;rw[<-X] at hq |-;have w1:IntKind.i64.wrap ((i:Int)+1)=((i+1:Nat):Int):=by rw[ai];omega
 have C:(0:Int)<=(i:Int)+1:=by omega
 have B:((i:Int)+1).toNat=i+1:=by omega
 obtain⟨Q,I⟩:=dX R.1 (by omega) (by omega) (by omega) (by omega);obtain⟨M,J⟩:=dX R.2 (by omega) (by omega) (by omega) (by omega);obtain⟨q1,q2⟩:=dX hq.1 (by omega) (by omega) (by omega) (by omega);obtain⟨G,F⟩:=dX hq.2 (by omega) (by omega) (by omega) (by omega);obtain⟨px,A⟩:=p;obtain⟨qx,z⟩:=q;simp only at Q I M J q1 q2 G F |-;obtain⟨o1,o2,A'⟩:∃o1 o2,aN f239=[o1,o2]:=⟨_,_,rfl⟩
 obtain⟨W,V⟩:=Ms A' (l:=[0,0,2,7,15,0,0,111,239,511,1023]) (l' :=[0,1,3,7,15,31,63,63,191,511,1023,63,63,7167,15359,32767,65535,131071,262143,524287]) (by kernel_rfl);have u:be [0,0,2,7,15,0,0,111,239,511,1023] 10=true:=by decide
 have m:be [0,1,3,7,15,31,63,63,191,511,1023,63,63,7167,15359,32767,65535,131071,262143,524287] 19=true:=by decide
 simp[aN,cj,f239] at A';obtain⟨rfl,rfl⟩:=A';have key:∀b:Bool,(decide (0<nL z A)||(decide (nL z A=0)&&decide (0<nL qx px)))=b->aa (aU prog) (fun _=>[]) (aS prog) (lV H k y) 1 239 [.int .i64 i,.ptr 6 0] (fS H k y)=some ⟨.bool b,none,[]⟩:=by
  intro b S;by_cases j:0<nL z A
  .simp only[j,decide_true,Bool.true_or] at S
   subst S;simp[aa,D,f239,fS,lV,-aJ,ak W,ak V,bt,bj,bp,u,m,w1,C,B,<-Z,<-X,pA,af,iC,aq,aI,aw,M,J,G,F,j,Nat.testBit]
  .by_cases O:nL z A=0
   .by_cases Y:0<nL qx px
    .simp[O,Y] at S
     subst S;simp[aa,D,f239,fS,lV,-aJ,ak W,ak V,bt,bj,bp,u,m,w1,C,B,<-Z,<-X,pA,af,iC,aq,aI,aw,Q,I,M,J,q1,q2,G,F,O,Y,Nat.testBit]
    .simp[O,Y] at S
     subst S;simp[aa,D,f239,fS,lV,-aJ,ak W,ak V,bt,bj,bp,u,m,w1,C,B,<-Z,<-X,pA,af,iC,aq,aI,aw,Q,I,M,J,q1,q2,G,F,O,Y,Nat.testBit]
   .simp[j,O] at S
    subst S;simp[aa,D,f239,fS,lV,-aJ,ak W,ak V,bt,bj,bp,u,m,w1,C,B,<-Z,<-X,pA,af,iC,aq,aI,aw,M,J,G,F,j,O,Nat.testBit]
 have:=(ah ae (al _) (CA H k y hc h0) (ao _) (key _ rfl)).1;simpa [afA.mem] using this
noncomputable def xl(H:List P2)(k:Nat)(y:List Nat):af3:=fun c Z M=>match c,Z with
 |.fn 239,[.int .i64 i,.ptr 6 0]=>open Classical in if 0<=i/\i<=1000000000/\M=fS H k y then some ⟨.bool (upV H y i.toNat),none,[]⟩ else none
 |c,Z=>lV H k y c Z M
theorem LL(H:List P2)(k:Nat)(y:List Nat)(I:∀p∈H,pDg 200 p)(hc:∀c∈y,c<H.length)(h0:y≠[]):adM prog (xl H k y):=by
 refine cP fun c Z M r h=>?_
 unfold xl at h;split at h
 .rename_i i
  split at h
  .rename_i X
   cases h;obtain⟨W,V,rfl⟩:=X;refine aC ?_;rw[List.append_nil];have:=NO H k y I hc h0 i.toNat (by omega);rw[QQe W] at this;exact this
  .cases h
 .exact fK (CA H k y hc h0) h
def Vp(H:List P2)(y:List Nat):Prop:=
 y≠[]/\(∀c∈y,c<H.length)/\(∀i,i<y.length->0<=oB (dJ (DN H y i) (DN H y (i+1)) (DN H y (i+2))))/\mR H y y.length=1
theorem Gh(H:List P2)(y:List Nat):∀n,mR H y n<=n
 |0=>L9 _
 |n+1=>by have:=Gh H y n;unfold mR;split<;>omega
section
variable (PS:List P2)(k:Nat)(cyc:List Nat)(hP:∀p∈PS,pDg 200 p)(ho:Vp PS cyc)(hl:cyc.length<=1000000)
include PS k cyc hP ho hl
theorem EP(hK:cyc.length<K)(hb:ag f162=[b]):
  ∃F:Env->Bool->Env,∀Z d,(ad Z 6=.ptr 6 0/\ad Z 7=.func 239 [.ptr 6 0]/\ad Z 8=.int .i64 0/\ad Z 14=.int .i64 cyc.length/\ad Z 15=.int .i64 0)->
   aT (aU prog) (fun _=>[8,15]) (xl PS k cyc) K 46 3 true (.loop b) ⟨Z,fS PS k cyc,d⟩=some (.exit 0,⟨F Z d,fS PS k cyc,d⟩)/\ad (F Z d) 8=.int .i64 1:=by
 refine bG rfl (fun Z=>ad Z 6=.ptr 6 0/\ad Z 7=.func 239 [.ptr 6 0]/\ad Z 8=.int .i64 0/\ad Z 14=.int .i64 cyc.length/\ad Z 15=.int .i64 0) (fun _ AC =>ad AC 8=.int .i64 1) ?_;rintro Z d ⟨h6,h7,h8,h14,h15⟩;obtain⟨-,-,C,B⟩:=ho;obtain⟨M,A⟩:∃M,aN f162=[M]:=⟨_,rfl⟩
 obtain⟨PP,z⟩:=jO A (l:=[0,0,3,0,0,16,63,0,0,256,1023,2047,4095]) (j:=12) (by kernel_rfl) (by decide);simp[aN,cj,f162] at A;simp[ag,aH,f162] at hb;have J:au [8,15] (ab b) Z ((8,.int .i64 ((mR PS cyc 0:Nat):Int))::(15,.int .i64 ((0:Nat):Int))::Z)=au [8,15] (ab b) Z Z:=by simp[au,h8,h15,mR]
 rw[<-J];refine bW (α:=Nat) (fun n=>⟨au [8,15] (ab b) Z ((8,.int .i64 ((mR PS cyc n:Nat):Int))::(15,.int .i64 (n:Int))::Z),fS PS k cyc,d⟩) (fun n=>cyc.length-n) (fun n=>n<=cyc.length) (.exit 0) _ d _ (by simp) ?_ K 0 (by omega) (by omega);intro n hn1;clear J;subst hb;subst A;by_cases B':n<cyc.length
 .left
  have h3:=C n B';have u:=DO hP cyc n;have hq:=DO hP cyc (n+1);have Y:=DO hP cyc (n+2);obtain⟨p,O⟩:=xE (DN PS cyc n);obtain⟨q,X⟩:=xE (DN PS cyc (n+1));obtain⟨r,W⟩:=xE (DN PS cyc (n+2));rw[<-O,<-X,<-W] at h3;rw[<-O] at u;rw[<-X] at hq;rw[<-W] at Y;obtain⟨p5,p6⟩:=il u.1 (by omega) (m:=2998) (by omega);obtain⟨p7,p8⟩:=il u.2 (by omega) (m:=2998) (by omega);obtain⟨q5,q6⟩:=il hq.1 (by omega) (m:=2998) (by omega);obtain⟨q7,q8⟩:=il hq.2 (by omega) (m:=2998) (by omega);obtain⟨r5,r6⟩:=il Y.1 (by omega) (m:=2998) (by omega);obtain⟨r7,r8⟩:=il Y.2 (by omega) (m:=2998) (by omega);obtain⟨px,py⟩:=p;obtain⟨qx,qy⟩:=q;obtain⟨rx,ry⟩:=r;simp only at p5 p6 p7 p8 q5 q6 q7 q8 r5 r6 r7 r8;obtain⟨S,hS⟩:=xE (oB (dJ (px,py) (qx,qy) (rx,ry)));rw[<-hS] at h3;have Q:¬S<0:=by omega
  obtain⟨D,I⟩:=xE (n+1);obtain⟨m2,H⟩:=xE (n+2);have w1:IntKind.i64.wrap ((n:Int)+1)=(D:Int):=by rw[ai];omega
  have w2:IntKind.i64.wrap ((n:Int)+2)=(m2:Int):=by rw[ai];omega
  have s5:(n:Int)<=1000000000:=by omega
  have s6:(D:Int)<=1000000000:=by omega
  have s7:n<=1000000000:=by omega
  have s8:D<=1000000000:=by omega
  have y:=Gh PS cyc n;have G:mR PS cyc (n+1)=mR PS cyc n+if !upV PS cyc n&&upV PS cyc (n+1) then 1 else 0:=rfl
  obtain⟨R,hRe⟩:=xE (mR PS cyc n);rw[<-hRe] at G y |-;have w3:IntKind.i64.wrap ((R:Int)+1)=((R+1:Nat):Int):=by rw[ai];omega
  obtain⟨U,hU⟩:=xE (upV PS cyc n);obtain⟨V,hV⟩:=xE (upV PS cyc (n+1));rw[<-hU,<-hV] at G;rw[<-I] at G hV X;rw[<-H] at W;refine⟨D,?_⟩;cases U<;>cases V;all_goals
   simp at G;simp[fS,h6,h7,h14,B',xl,lV,-aJ,ak PP,bt,bj,bp,z,w1,w2,w3,s5,s6,<-O,<-X,<-W,<-hU,<-hV,pA,af,iC,aw,p5,p6,p7,p8,q5,q6,q7,q8,r5,r6,r7,r8,<-hS,Q,G,Nat.testBit];omega
 .right
  have e:n=cyc.length:=by omega
  subst e;have X' :¬(cyc.length:Int)<cyc.length:=by omega
  simp[h14,B]
theorem NI:
  kO prog 162 [.agg [.slice 0 0 PS.length none,.slice 1 0 k none],.slice 2 0 cyc.length none] [.cells false 2 (pC PS),.HS,.cells false 1 (cZ cyc)] (.bool true) [.cells false 2 (pC PS),.HS,.cells false 1 (cZ cyc)]:=by
 have O:aS prog 162=some f162:=by kernel_rfl
 obtain⟨b,Z⟩:∃b,ag f162=[b]:=⟨_,rfl⟩
 obtain⟨F,X⟩:=EP (K:=cyc.length+1) PS k cyc hP ho hl (by omega) Z;simp[ag,aH,f162] at Z;subst Z;have S:=fun W d h=>(X W d h).1
 have V:=fun W d h=>(X W d h).2
 clear X;simp only[fS] at S;refine dx (lv:=(fun _=>[8,15])) (K:=(cyc.length+1)) (LL PS k cyc hP ho.2.1 ho.1) ?_;simp[aa,O,f162,S,V]
end
theorem yG(a:Int):∀(N:List (Int×Int)) (i:Nat),(qT N a=none->kB (aU prog) 3 (.int .i64 a) (N.map nxE) i=some none)/\∀b,qT N a=some b->∃q,kB (aU prog) 3 (.int .i64 a) (N.map nxE) i=some (some (q,.int .i64 b))
 | [],i=>⟨fun _=>rfl,fun b h=>by cases h⟩
 |p::N,i=>by
  have e:mI (aU prog) 20 3 (.int .i64 a) (.int .i64 p.1)=some (decide (a=p.1)):=by simp[mI]
  simp only[List.map_cons,kB,nxE,e,qT];have Z:=yG a N (i+1);by_cases h:a=p.1
  .simp only[h,decide_true,if_true]
   exact⟨fun h=>(by cases h),fun b X=>⟨i,(by cases X;rfl)⟩⟩
  .simp only[h,decide_false,if_false]
   exact Z
theorem V8(d:Nat)(x y:Int):mI (aU prog) (d+1) 3 (.int .i64 x) (.int .i64 y)=some (decide (x=y)):=by rw[mI];simp
theorem V9(a b c d:Int):mI (aU prog) 20 119 (.agg [.int .i64 a,.int .i64 b]) (.agg [.int .i64 c,.int .i64 d])=some (decide (a=c)&&decide (b=d)):=by have r:List.range' 0 2=[0,1]:=rfl;have i:=V8 18;rw[mI];simp only[LV,ON,r,Yr];simp[kJ,TyI.isAgg,i]
theorem yH(a:Int×Int):∀(N:List Sd) (i:Nat),(SG N a=none->kB (aU prog) 119 (.agg [.int .i64 a.1,.int .i64 a.2]) (N.map sdE) i=some none)/\∀b,SG N a=some b->∃q,kB (aU prog) 119 (.agg [.int .i64 a.1,.int .i64 a.2]) (N.map sdE) i=some (some (q,.int .i64 b))
 | [],i=>⟨fun _=>rfl,fun b h=>by cases h⟩
 |p::N,i=>by
  have e:=V9 a.1 a.2 p.1.1 p.1.2;simp only[List.map_cons,kB,sdE,e,SG];have Z:=yH a N (i+1);by_cases h:a.1=p.1.1/\a.2=p.1.2
  .rw[if_pos h]
   simp only[h.1,h.2,decide_true,Bool.and_true];exact⟨fun h=>(by cases h),fun b X=>⟨i,(by cases X;rfl)⟩⟩
  .rw[if_neg h]
   have W:(decide (a.1=p.1.1)&&decide (a.2=p.1.2))=false:=by rw[<-Bool.not_eq_true];simpa using h
   rw[W];exact Z
def ouO(l:List Int):AV:=match l with
 | []=>.y9
 |_=>.slice 6 0 l.length none
def ouM(y:Mem)(l:List Int):Mem:=match l with
 | []=>y
 |_=>y++[.cells true 1 (iZ l)]
theorem Aa(n:Nat):∀N:List (Int×Int),(N.map nxE).flatMap (fun e=>e.1.refs n++e.2.refs n)=[]
 | []=>rfl
 |p::N=>by simp[nxE,AV.refs,Aa n N]
theorem tx(n:Nat):∀N:List Sd,(N.map sdE).flatMap (fun e=>e.1.refs n++e.2.refs n)=[]
 | []=>rfl
 |p::N=>by simp[sdE,AV.refs,AV.ago,tx n N]
theorem nW(n:Nat)(N:List (Int×Int)):af6.refs n (.map (N.map nxE))=[]:=Aa n N
theorem nX(n:Nat)(N:List Sd):af6.refs n (.agC (N.map sdE))=[]:=tx n N
theorem zl(n:Nat)(o:Bool)(e:Nat)(cs:List AV):af6.refs n (.cells o e cs)=AV.ago n cs:=rfl
theorem DT(f:Nat->Option Nat)(o:Bool)(e:Nat)(cs:List AV):af6.ren f (.cells o e cs)=.cells o e (AV.agd f cs):=rfl
theorem wC(n:Nat):af6.refs n .HS=[]:=rfl
theorem CC(ks:List Sd)(N:List (Int×Int))(first:Int)(y:List Int)(R Y:Nat)(hc:yj N first N.length first []=some y)(hN:N≠[])(hl:N.length<=1000000)(hK:N.length<K)(I:ag f161=[b1,b])(H:Mem)(Q:H=[.agC (ks.map sdE),.HS,.HS,.cells true 0 [.slice 1 0 R none,.slice 2 0 Y none],.map (N.map nxE),.HS]):
  ∃F:Env->Bool->Env,∀X d,(ad X 6=.map 4/\ad X 7=.int .i64 first/\ad X 13=.y9/\ad X 14=.int .i64 first)->
   aT (aU prog) (fun _=>[13,14]) bD K 93 3 true (.loop b) ⟨X,H,d⟩=some (.exit 2,⟨F X d,H++[.cells true 1 (iZ y)],d⟩)/\ad (F X d) 13=.slice 6 0 y.length none:=by
 refine bG rfl (fun X=>ad X 6=.map 4/\ad X 7=.int .i64 first/\ad X 13=.y9/\ad X 14=.int .i64 first) (fun _ B =>ad B 13=.slice 6 0 y.length none) ?_;rintro X d ⟨h6,h7,h13,h14⟩;simp[ag,aH,f161] at I;obtain⟨_,I⟩:=I;have O:H.length=6:=by rw[Q];rfl
 rw[O];have A:au [13,14] (ab b) X ((13,ouO [])::(14,.int .i64 first)::X)=au [13,14] (ab b) X X:=by simp[au,h13,h14,ouO]
 rw[<-A];have W:H=ouM H []:=rfl;conv=>congr;ext B;lhs;lhs;rw[W]
 refine bW (α:=List Int×Int) (fun x=>⟨au [13,14] (ab b) X ((13,ouO x.1)::(14,.int .i64 x.2)::X),ouM H x.1,d⟩) (fun x=>N.length-x.1.length) (fun x=>∃n,x.1.length+n=N.length/\yj N first n x.2 x.1=some y) (.exit 2) _ d _ (by simp) ?_ K ([],first) ⟨N.length,by simp,hc⟩ (by simpa using hK);rintro ⟨Z,a⟩ ⟨n,hn1,hw⟩;clear A W;simp only at hn1 hw;cases n with
 |zero=>
  right;simp only[yj,N3] at hw;subst hw;cases Z with
  |nil=>exact absurd (M0 (by simpa using hn1.symm)) hN
  |cons x Z=>
   have u:¬((Z.length:Int)+1<N.length):=by simp at hn1;omega
   subst I Q;simp[ouO,ouM,h6,u]
 |succ n=>
  left;rw[yj] at hw;cases hlk:qT N a with
  |none=>rw[hlk] at hw;cases hw
  |some c=>
   rw[hlk] at hw;simp only at hw;split at hw
   .cases hw
   .rename_i M
    obtain⟨q,hq⟩:=(yG a N 0).2 c hlk;refine⟨(Z++[a],c),?_⟩;have V:(Z.length:Int)<N.length:=by omega
    subst I Q;have z:0<N.length:=by omega
    have m:n+1<=1000000:=by omega
    have J:yj N first n c (Z++[a])=some y:=hw
    cases Z with
    |nil=>
     by_cases S:a=first
     .subst S
      simp[-af6.refs,-af6.ren,ouO,ouM,h6,h7,z,mD,kP,na,hq,nW,nX,kz,gJ,kh,Ih,Bf,qR,lL,iZ,zl,DT,wC];exact⟨⟨n,by simp at hn1;omega,J⟩,by omega⟩
     .simp[-af6.refs,-af6.ren,ouO,ouM,h6,h7,z,S,mD,kP,na,hq,nW,nX,kz,gJ,kh,Ih,Bf,qR,lL,iZ,zl,DT,wC]
      exact⟨⟨n,by simp at hn1;omega,J⟩,by omega⟩
    |cons x Z=>
     have S:¬a=first:=fun e=>M ⟨e,by simp⟩
     have j:Z.length+1<N.length:=by simp at hn1;omega
     have V:(Z.length:Int)+1<N.length:=by omega
     have hz:iZ (x::Z)++[.int .i64 a]=iZ (x::(Z++[a])):=by simp[iZ]
     have Do:(iZ (x::Z)).length=Z.length+1:=by simp[iZ]
     have G:(iZ (x::Z)).take (Z.length+1)=iZ (x::Z):=GE (by omega);have D:(Z.length+1+1)*8<=140737488355328:=by omega
     have C:Z.length<=140737488355326:=by omega
     simp[-af6.refs,-af6.ren,ouO,ouM,h6,h7,S,V,mD,kP,na,hq,nW,nX,kz,gJ,kh,Ih,Bf,qR,lL,zl,DT,wC,H9,DU,G,D,C,hz,Do];exact⟨⟨n,by simp at hn1;omega,by simpa using J⟩,by omega⟩
theorem Uj{P:Program}{T:TypeId->Option TyI}{O:af3}{tp:Bool}{N m0:Nat}{lv:Code->List Nat}{Q:Exit->St->Prop}(y:P.follows .mixedOrders=true)(hT:dW P T)(H:adM P O){c:Code}{s:XS}(hs:cQ c=true)(h:∃e Z,aT T lv O K N m0 tp c s=some (e,Z)/\Q e ⟨Z.env,Z.mem⟩):AWP P tp N m0 c ⟨s.env,s.mem⟩ Q:=by obtain⟨e,Z,X,W⟩:=h;exact xv y hT H hs X W
def Xk(ks:List Sd)(y H:Nat)(seen:List Nat):Mem:=[.agC (ks.map sdE),.HS,.HS,.cells true 0 [.slice 1 0 y none,.slice 2 0 H none],.map ((dq ks seen).map nxE),.HS]
def ouV(ks:List Sd)(seen:List Nat)(t:Nat):AV:=if t=7 then .int .i64 (Bu (-1) (dq ks seen)) else .undef
theorem uR(ks:List Sd)(seen:List Nat)(j:Nat):dq ks (seen++[j])=dq ks seen++(match bAt ks j with | some p=>[p] | none=>[]):=by unfold dq;rw[List.filterMap_append];congr 1;simp only[List.filterMap_cons,List.filterMap_nil];cases bAt ks j<;>rfl
theorem IY(ks:List Sd)(I:List Int)(y H:Nat)(Q:wB ks=true)(hc:C5 (ur ks)=some I):
  kO prog 161 [.agg [.slice 1 0 y none,.slice 2 0 H none],.map 0] [.agC (ks.map sdE),.HS,.HS] (.tuple [.slice 3 0 I.length none,.bool true]) [.agC (ks.map sdE),.HS,.HS,.cells true 1 (iZ I)]:=by
 obtain⟨Y,D,R,ok4⟩:=MX Q;have hT:=al prog;refine agF.intro hT (fn:=f161) (by kernel_rfl) rfl rfl (Nat.le_of_ble_eq_true rfl) ?_;refine yW ?_;refine xv ae hT (aj _) (lv:=fun _=>[]) (K:=1) (s:=⟨dV 0 [.agg [.slice 1 0 y none,.slice 2 0 H none],.map 0],[.agC (ks.map sdE),.HS,.HS],false⟩) rfl (s' :=⟨[(5,.bool false),(4,.y9),(2,.ptr 3 0),(0,.agg [.slice 1 0 y none,.slice 2 0 H none]),(1,.map 0)],[.agC (ks.map sdE),.HS,.HS,.cells true 0 [.slice 1 0 y none,.slice 2 0 H none]],false⟩) (e:=.normal) (by simp) ?_;refine yW ?_;refine xv ae hT (aj _) (lv:=fun _=>[]) (K:=1) (s:=⟨_,_,false⟩) rfl (s' :=⟨[(6,.map 4),(17,.map 4),(5,.bool false),(4,.y9),(2,.ptr 3 0),(0,.agg [.slice 1 0 y none,.slice 2 0 H none]),(1,.map 0)],[.agC (ks.map sdE),.HS,.HS,.cells true 0 [.slice 1 0 y none,.slice 2 0 H none],.map []],false⟩) (e:=.normal) (by simp) ?_;refine yW ?_;refine xv ae hT (aj _) (lv:=fun _=>[]) (K:=1) (s:=⟨_,_,false⟩) rfl (s' :=⟨[(7,.int .i64 (-1)),(6,.map 4),(17,.map 4),(5,.bool false),(4,.y9),(2,.ptr 3 0),(0,.agg [.slice 1 0 y none,.slice 2 0 H none]),(1,.map 0)],[.agC (ks.map sdE),.HS,.HS,.cells true 0 [.slice 1 0 y none,.slice 2 0 H none],.map []],false⟩) (e:=.normal) (by simp) ?_;refine yW ?_;show AWP _ _ _ _ _ ⟨[(7,.int .i64 (-1)),(6,.map 4),(17,.map 4),(5,.bool false),(4,.y9),(2,.ptr 3 0),(0,.agg [.slice 1 0 y none,.slice 2 0 H none]),(1,.map 0)],[.agC (ks.map sdE),.HS,.HS,.cells true 0 [.slice 1 0 y none,.slice 2 0 H none],.map []]⟩ _
 refine OO ae hT (aj _) (lv:=fun _=>[]) (K:=1) (b:=0) (es:=ks.map sdE) (s:=⟨[(7,.int .i64 (-1)),(6,.map 4),(17,.map 4),(5,.bool false),(4,.y9),(2,.ptr 3 0),(0,.agg [.slice 1 0 y none,.slice 2 0 H none]),(1,.map 0)],[.agC (ks.map sdE),.HS,.HS,.cells true 0 [.slice 1 0 y none,.slice 2 0 H none],.map []],false⟩) (s1:=⟨[(18,.map 0),(7,.int .i64 (-1)),(6,.map 4),(17,.map 4),(5,.bool false),(4,.y9),(2,.ptr 3 0),(0,.agg [.slice 1 0 y none,.slice 2 0 H none]),(1,.map 0)],[.agC (ks.map sdE),.HS,.HS,.cells true 0 [.slice 1 0 y none,.slice 2 0 H none],.map []],false⟩)
  rfl rfl rfl rfl (LW) rfl rfl rfl rfl rfl rfl rfl rfl rfl rfl rfl rfl ?_ ?_ ?_ ?_ rfl rfl [7] _ (ouV ks) (Xk ks y H) (fun seen=>seen.Nodup/\∀j∈seen,j<ks.length) rfl ?_ ?_ ?_ ?_ ?_ ?_ ?_
 .decide
 .decide
 .rfl
 .simp
 .decide
 .rfl
 .rintro seen ⟨_,_⟩
  refine⟨rfl,rfl,rfl,fun x hx=>?_⟩;simp only[Xk,lM] at hx;rcases hx with rfl | rfl | rfl | rfl | rfl | rfl
  .exact nX _ _
  .rfl
  .rfl
  .rfl
  .exact nW _ _
  .rfl
 .intro seen t _ C
  simp only[List.mem_singleton] at C;subst C;rfl
 .refine⟨⟨List.nodup_nil,fun j M=>(by cases M)⟩,rfl,fun t C=>?_⟩
  simp only[List.mem_singleton] at C;subst C;rfl
 .rintro seen env ⟨i1,i2⟩ hs hv I'
  have V:=hv 7 (by simp);have J:=hs 6 (by decide);simp[] at J;simp only[ouV,if_true] at V;have hp:=Nu i1 i2 (fun j M=>I' j (by simpa using M));have hge:=Tg R (seen:=seen);have W:=Ve hp hge;have Z:∀a,qT (dq ks seen) a=qT (ur ks) a:=SF hp (Im D)
  have u:(dq ks seen).length=(ur ks).length:=hp.length_eq;have hw:∀n a l,yj (dq ks seen) (Bu (-1) (dq ks seen)) n a l=yj (ur ks) (Bu (-1) (ur ks)) n a l:=by
   intro n;induction n with
   |zero=>intro a l;rfl
   |succ n ih=>intro a l;simp only[yj,Z,ih];rw[W]
  have B :yj (dq ks seen) (Bu (-1) (dq ks seen)) (dq ks seen).length (Bu (-1) (dq ks seen)) []=some I:=by rw[hw,u];rw[W];exact hc
  have hN:dq ks seen≠[]:=fun e=>Y (by rw[e] at u;exact M0 u.symm)
  have hNl:(dq ks seen).length<=1000000:=by rw[u];have:(ur ks).length<=(List.range ks.length).length:=List.length_filterMap_le _ _;rw[List.length_range] at this;omega
  obtain⟨b1,b,X⟩:∃b1 b,ag f161=[b1,b]:=⟨_,_,rfl⟩
  obtain⟨F,hF⟩:=CC (K:=(dq ks seen).length+1) ks (dq ks seen) _ I y H B hN hNl (by omega) X _ rfl;simp[ag,aH,f161] at X;obtain⟨_,X⟩:=X;subst X;show AWP _ _ _ _ _ _ _
  refine Uj ae hT (aj _) (lv:=fun _=>[13,14]) (K:=(dq ks seen).length+1) (s:=⟨_,_,false⟩) rfl ?_;show∃e z,aT (aU prog) (fun _=>[13,14]) bD ((dq ks seen).length+1) 93 3 true _ _=some (e,z)/\_
  simp[-af6.refs,-af6.ren,J,V,hF];have hcl:0<I.length:=by have:=Af B;have:0<(dq ks seen).length:=List.length_pos_iff.2 hN;omega
  refine⟨_,_,⟨rfl,rfl⟩,.inr rfl,[6],rfl,.inl ⟨rfl,?_⟩⟩;have e2:decide (0<I.length)=true:=by simpa using hcl
  rw[e2];simp[AV.ren,AV.agd,rho,agR,DU,List.idxOf?,List.findIdx?,List.findIdx?.go]
 .rintro seen env j k v ⟨i1,i2⟩ hs hv M hns
  have V:=hv 7 (by simp);have A:=hs 1 (by decide);have J:=hs 6 (by decide);simp[] at A J;simp only[ouV,if_true] at V;rw[QQX] at M;simp only[Pl] at M;obtain⟨s,hs1,hs2⟩:=M;have hkv:=Prod.mk.inj hs2;obtain⟨hk,hvv⟩:=hkv;subst hk hvv;have hjl:=gL hs1;have H':(seen++[j]).Nodup/\∀i∈seen++[j],i<ks.length:=by
   constructor
   .rw[List.nodup_append];exact⟨i1,by simp,fun a ha b X=>by simp at X;subst X;rintro rfl;exact hns ha⟩
   .intro i hi
    rcases List.mem_append.1 hi with h | h
    .exact i2 i h
    .simp at h;subst h;exact hjl
  have S :(seen++[j]).Nodup/\∀i,i∈seen\/i=j->i<ks.length:=⟨H'.1,fun i hi=>H'.2 i (by simpa using hi)⟩
  cases Z:SG ks (s.1.2,s.1.1) with
  |some t=>
   have X:bAt ks j=none:=by simp[bAt,hs1,Z]
   have O:dq ks (seen++[j])=dq ks seen:=by rw[uR,X];simp
   obtain⟨q,hq⟩:=(yH (s.1.2,s.1.1) ks 0).2 t Z;rw[show(List.length _+1:Nat)=6 from rfl];simp[-af6.refs,-af6.ren,Xk,ouV,A,hq,O,mD,kP,na,MG,kJ,uK,uL,bZ,qR,List.range'];exact⟨_,_,⟨rfl,rfl⟩,.inr rfl,S,by simpa using V,rfl⟩
  |none=>
   have X:bAt ks j=some s.1:=by simp[bAt,hs1,Z]
   have O:dq ks (seen++[j])=dq ks seen++[s.1]:=by rw[uR,X]
   have W:Bu (-1) (dq ks (seen++[j]))=if Bu (-1) (dq ks seen)<0\/s.1.1<Bu (-1) (dq ks seen) then s.1.1 else Bu (-1) (dq ks seen):=by rw[O,Pj];rfl
   have hq:=(yH (s.1.2,s.1.1) ks 0).1 Z;have hfr:=Il D hns X;have G:=(yG s.1.1 (dq ks seen) 0).1 hfr;rw[show(List.length _+1:Nat)=6 from rfl];unfold Xk ouV;rw[W,O];obtain⟨m,hm⟩:=xE (Bu (-1) (dq ks seen));rw[<-hm] at V |-;clear W;by_cases c1:m<0
   .simp[-af6.refs,-af6.ren,A,J,V,hq,G,c1,mD,fY,kP,na,MG,kJ,uK,uL,bZ,qR,List.range']
    exact⟨_,_,⟨rfl,rfl⟩,.inl rfl,S,rfl,rfl⟩
   .by_cases c2:s.1.1<m
    .simp[-af6.refs,-af6.ren,A,J,V,hq,G,c1,c2,mD,fY,kP,na,MG,kJ,uK,uL,bZ,qR,List.range']
     exact⟨_,_,⟨rfl,rfl⟩,.inl rfl,S,rfl,rfl⟩
    .simp[-af6.refs,-af6.ren,A,J,V,hq,G,c1,c2,mD,fY,kP,na,MG,kJ,uK,uL,bZ,qR,List.range']
     exact⟨_,_,⟨rfl,rfl⟩,.inl rfl,S,V,rfl⟩
def Xt:List (AV×AV)->Option (List Sd)
 | []=>some []
 |(.agg [.int .i64 a,.int .i64 b],.int .i64 t)::l=>match Xt l with
  |some r=>some (((a,b),t)::r)
  |none=>none
 |_=>none
theorem Gj:∀{es:List (AV×AV)} {ks:List Sd},Xt es=some ks->es=ks.map sdE
 | [],ks,h=>by cases h;rfl
 |e::es,ks,h=>by
  unfold Xt at h;split at h
  next Z=>cases Z
  .rename_i a b t l Z
   cases Z;split at h
   .rename_i r X
    cases h;rw[Gj X];rfl
   .cases h
  .cases h
def SK(M:Mem)(b:Nat):Option (List (AV×AV)):=match M[b]? with
 |some (.map es)=>some es
 |some (.agC es)=>some es
 |_=>none
theorem VI(n:Nat)(s:Sd):(sdE s).1.under n=true/\(sdE s).2.under n=true:=by simp[sdE,AV.under,AV.agn]
theorem PA(f:Nat->Option Nat)(s:Sd):((sdE s).1.ren f,(sdE s).2.ren f)=sdE s:=by simp[sdE,AV.ren,AV.agd]
theorem zt(M:Mem)(ks:List Sd)(y:List Int)(b b1 I R Y:Nat)(hb1:b1<M.length)(hb2:I<M.length)(H:SK M b=some (ks.map sdE))(Q:wB ks=true)(hc:C5 (ur ks)=some y):
  kO prog 161 [.agg [.slice b1 0 R none,.slice I 0 Y none],.map b] M (.tuple [.slice M.length 0 y.length none,.bool true]) (M++[.cells true 1 (iZ y)]):=by
 have V:b<M.length:=by
  unfold SK at H;split at H
  next es h=>exact(gL h)
  next es h=>exact(gL h)
  .cases H
 have:=kO.frame (M:=M) (new:=[.cells true 1 (iZ y)]) [b,b1,I] (m:=[.agC (ks.map sdE),.HS,.HS]) rfl (by intro k X;simp at X;rcases X with rfl | rfl | rfl<;>assumption) (by rfl) (fun i s Z=>by
  match i with
  |0=>
   simp at Z;subst Z;refine⟨ks.map sdE,?_,rfl,fun j e he=>?_⟩
   .unfold SK at H
    split at H
    next es h=>cases H;exact .inr h
    next es h=>cases H;exact .inl h
    .cases H
   .rw[QQX] at he
    simp only[Pl] at he;obtain⟨S,W,rfl⟩:=he;refine⟨VI _ _,?_⟩;rw[PA,QQX,W];rfl
  |1=>simp at Z;subst Z;trivial
  |2=>simp at Z;subst Z;trivial
  |i+3=>simp at Z) rfl (IY ks y R Y Q hc)
 simpa [AV.agd,AV.ren,eg,af6.ren,DU] using this
def Ow(c:Go.Eng.Callee)(args:List AV)(M:Mem):Option afA:=match c,args with
 |.fn 161,[.agg [.slice b1 0 _ none,.slice b2 0 _ none],.map b]=>match SK M b with
  |some es=>match Xt es with
   |some ks=>match C5 (ur ks) with
    |some cyc=>if wB ks&&(decide (b1<M.length)&&decide (b2<M.length)) then some ⟨.tuple [.slice M.length 0 cyc.length none,.bool true],none,[.cells true 1 (iZ cyc)]⟩ else none
    |none=>none
   |none=>none
  |none=>none
 |_,_=>none
theorem RE:adM prog Ow:=by
 refine cP fun c O M r h=>?_
 unfold Ow at h;split at h
 .split at h
  .rename_i es X
   split at h
   .rename_i J W
    split at h
    .rename_i V S
     split at h
     .rename_i Z
      simp only[Es,L0] at Z;cases h;refine aC (zt M J V _ _ _ _ _ Z.2.1 Z.2.2 ?_ Z.1 S);rw[X,Gj W]
     .cases h
    .cases h
   .cases h
  .cases h
 .cases h
noncomputable def PO:af3:=af3.or Ow (af aq)
theorem Oz:adM prog PO:=adM.or RE cw
end Go.Proofs
