/- See D38. -/
import Derived.Test.YthpgbelancmpjaaGreatDoorD22
set_option linter.all false
set_option maxRecDepth 100000
set_option maxHeartbeats 40000000
namespace Go.Proofs
open Go.Eng
open Tryz
theorem MK(a b c:P2)(ha:pDg 3000 a)(hb:pDg 3000 b)(hc:pDg 3000 c)(M:Mem):kO prog 179 [pA a,pA b,pA c] M (.str (ao (cf a b c))) M:=by
 have hG:aX prog 179=some f179:=by kernel_rfl
 obtain⟨Y,W⟩:=a;obtain⟨b1,b2⟩:=b;obtain⟨c1,c2⟩:=c;obtain⟨O,N⟩:=ha;obtain⟨L,K⟩:=hb;obtain⟨G,F⟩:=hc;simp only at O N L K G F;have D:=Li L O (m:=6000) (by omega) (by omega);have C:=Li F N (m:=6000) (by omega) (by omega);have B:=Li K N (m:=6000) (by omega) (by omega);have u:=Li G O (m:=6000) (by omega) (by omega);have J:=dy D C;have I:=dy B u;obtain⟨p1,p2⟩:=dz O (by omega) (by omega) (by omega) (by omega);obtain⟨p3,p4⟩:=dz N (by omega) (by omega) (by omega) (by omega);obtain⟨q1,q2⟩:=dz L (by omega) (by omega) (by omega) (by omega);obtain⟨q3,q4⟩:=dz K (by omega) (by omega) (by omega) (by omega);obtain⟨r1,r2⟩:=dz G (by omega) (by omega) (by omega) (by omega);obtain⟨r3,r4⟩:=dz F (by omega) (by omega) (by omega) (by omega);obtain⟨H,s2⟩:=dz D (by omega) (by omega) (by omega) (by omega);obtain⟨s3,s4⟩:=dz C (by omega) (by omega) (by omega) (by omega);obtain⟨s5,s6⟩:=dz B (by omega) (by omega) (by omega) (by omega);obtain⟨s7,s8⟩:=dz u (by omega) (by omega) (by omega) (by omega);obtain⟨t1,t2⟩:=dz J (by omega) (by omega) (by omega) (by omega);obtain⟨t3,t4⟩:=dz I (by omega) (by omega) (by omega) (by omega);clear J I D C B u O N L K G F;unfold cf;simp only;obtain⟨x1,Z⟩:=xE (b1-Y);obtain⟨x2,X⟩:=xE (c2-W);obtain⟨x3,V⟩:=xE (b2-W);obtain⟨x4,U⟩:=xE (c1-Y);rw[<-Z] at H s2 t1 t2;rw[<-X] at s3 s4 t1 t2;rw[<-V] at s5 s6 t3 t4;rw[<-U] at s7 s8 t3 t4;rw[<-Z,<-X,<-V,<-U];obtain⟨y1,S⟩:=xE (x1*x2);obtain⟨y2,R⟩:=xE (x3*x4);rw[<-S] at t1 t2;rw[<-R] at t3 t4;rw[<-S,<-R];refine aA cQ ?_ M;obtain⟨o1,o2,o⟩:∃o1 o2,aI f179=[o1,o2]:=⟨_,_,rfl⟩
 obtain⟨j,ZF⟩:=Ca o (l:=[0,1,0,4,15,0,32,0,128,511,1023,2047]) (l' :=[0,0,2,0,8,30,0,64,0,256,1022,2046,4095,8191]) (by kernel_rfl);have k1:fv [0,1,0,4,15,0,32,0,128,511,1023,2047] 11=true:=by decide
 have k2:fv [0,0,2,0,8,30,0,64,0,256,1022,2046,4095,8191] 13=true:=by decide
 simp[aI,ca,f179] at o;obtain⟨rfl,rfl⟩:=o;simp[aa,hG,f179,-aG,an j,an ZF,bD,bt,bB,k1,k2,pA,aB,ag,aT,aV,p1,p2,p3,p4,q1,q2,q3,q4,r1,r2,r3,r4,H,s2,s3,s4,s5,s6,s7,s8,t1,t2,t3,t4,<-Z,<-X,<-V,<-U,<-S,<-R,Nat.testBit]
noncomputable def Bm(f:FuncId)(args:List AV):Option AV:=
 match f,args with
 |179,[.agg [.str a,.str b],.agg [.str c,.str d],.agg [.str e,.str f]]=>match dY a,dY b,dY c,dY d,dY e,dY f with
  |some a,some b,some c,some d,some e,some f=>if (ai a.num.natAbs).length<=2999/\(ai a.den).length<=2999/\(ai b.num.natAbs).length<=2999/\(ai b.den).length<=2999/\(ai c.num.natAbs).length<=2999/\(ai c.den).length<=2999/\
    (ai d.num.natAbs).length<=2999/\(ai d.den).length<=2999/\(ai e.num.natAbs).length<=2999/\(ai e.den).length<=2999/\(ai f.num.natAbs).length<=2999/\(ai f.den).length<=2999 then some (.str (ao (cf (a,b) (c,d) (e,f)))) else none
  |_,_,_,_,_,_=>none
 |f,args=>aT f args
theorem NB:qS prog (ag Bm):=bP fun f U v h mem=>by
 unfold Bm at h;split at h
 .split at h
  .rename_i a b c d e f S R O N M L
   split at h
   .rename_i K
    obtain⟨G,F,D,C,B,u,o,m,j,Z,X,V⟩:=K;cases h;rw[au S,au R,au O,au N,au M,au L];exact MK (a,b) (c,d) (e,f) ⟨(dw ⟨G,F⟩).mono (by omega) (by omega),(dw ⟨D,C⟩).mono (by omega) (by omega)⟩
     ⟨(dw ⟨B,u⟩).mono (by omega) (by omega),(dw ⟨o,m⟩).mono (by omega) (by omega)⟩ ⟨(dw ⟨j,Z⟩).mono (by omega) (by omega),(dw ⟨X,V⟩).mono (by omega) (by omega)⟩ mem
   .cases h
  .cases h
 .have:=cQ.fn _ _ mem ⟨v,none,[]⟩ (by unfold ag;simp only;rw[h])
  simpa [afh.mem] using this
theorem gZ{n m:Nat}{q:Rat}(h:dg n n q)(h0:0<n)(H:n<=m):(ai q.num.natAbs).length<=m/\(ai q.den).length<=m:=by have:=h.lens h0 h0;exact⟨by omega,by omega⟩
theorem MM(a b c:P2)(H:pDg 2999 a)(I:pDg 2999 b)(hc:pDg 2999 c)(M:Mem):kO prog 99 [pA a,pA b,pA c] M (.int .i64 (gd (cf a b c))) M:=by
 have F:aX prog 99=some f99:=by kernel_rfl
 obtain⟨D,C⟩:=a;obtain⟨B,u⟩:=b;obtain⟨o,m⟩:=c;obtain⟨Z,X⟩:=gZ H.1 (by omega) (L9 _);obtain⟨V,U⟩:=gZ H.2 (by omega) (L9 _);obtain⟨S,R⟩:=gZ I.1 (by omega) (L9 _);obtain⟨O,N⟩:=gZ I.2 (by omega) (L9 _);obtain⟨r1,r2⟩:=gZ hc.1 (by omega) (L9 _);obtain⟨L,K⟩:=gZ hc.2 (by omega) (L9 _);refine aA NB ?_ M;simp only at Z X V U S R O N r1 r2 L K;obtain⟨y,G⟩:=xE (cf (D,C) (B,u) (o,m));rw[<-G];simp[aa,F,f99,pA,aB,ag,Bm,aT,aV,bE,bz,Z,X,V,U,S,R,O,N,r1,r2,L,K,<-G]
theorem lz(d:Nat)(x y:List UInt8):k9 (bd prog) (d+1) 52 (.str x) (.str y)=some (x==y):=by rw[k9];simp
theorem R3(p q:P2):k9 (bd prog) 20 79 (pA p) (pA q)=some (decide (p.1=q.1)&&decide (p.2=q.2)):=by have i:=lz 18;rw[k9];simp[pA,RT,jV,TyI.isAgg,i,G0]
theorem Ei(p:P2):∀(L:List P2) (i:Nat),p∉L->kc (bd prog) 79 (pA p) (L.map pmE) i=some none
 | [],i,_=>rfl
 |q::L,i,h=>by
  have e:=R3 p q;have X:(decide (p.1=q.1)&&decide (p.2=q.2))=false:=by rw[<-Bool.not_eq_true];intro Z;simp only[C0,Es] at Z;exact h (by rw[show p=q from Prod.ext Z.1 Z.2];exact List.mem_cons_self ..)
  simp only[List.map_cons,kc,pmE,e,X];exact Ei p L (i+1) (fun Z=>h (List.mem_cons_of_mem _ Z))
theorem R4(p:P2):mC (bd prog) 20 79 (pA p)=true:=by simp[pA,mC,Tv,jV,TyI.isAgg]
noncomputable def ij(f:FuncId)(args:List AV):Option AV:=
 match f,args with
 |99,[.agg [.str a,.str b],.agg [.str c,.str d],.agg [.str e,.str f]]=>match dY a,dY b,dY c,dY d,dY e,dY f with
  |some a,some b,some c,some d,some e,some f=>if (ai a.num.natAbs).length<=2998/\(ai a.den).length<=2998/\(ai b.num.natAbs).length<=2998/\(ai b.den).length<=2998/\(ai c.num.natAbs).length<=2998/\(ai c.den).length<=2998/\
    (ai d.num.natAbs).length<=2998/\(ai d.den).length<=2998/\(ai e.num.natAbs).length<=2998/\(ai e.den).length<=2998/\(ai f.num.natAbs).length<=2998/\(ai f.den).length<=2998 then some (.int .i64 (gd (cf (a,b) (c,d) (e,f)))) else none
  |_,_,_,_,_,_=>none
 |47,[.agg [.str a,.str b]]=>if a.length<=1000000000/\b.length<=1000000000 then some (.int .i64 (tG [a,b])) else none
 |f,args=>aT f args
theorem Bl:qS prog (ag ij):=bP fun f S v h mem=>by
 unfold ij at h;split at h
 .split at h
  .rename_i a b c d e f R O Z N M L
   split at h
   .rename_i K
    obtain⟨G,F,D,C,B,u,o,m,j,X,V,U⟩:=K;cases h;rw[au R,au O,au Z,au N,au M,au L];exact MM (a,b) (c,d) (e,f) ⟨(dw ⟨G,F⟩).mono (by omega) (by omega),(dw ⟨D,C⟩).mono (by omega) (by omega)⟩
     ⟨(dw ⟨B,u⟩).mono (by omega) (by omega),(dw ⟨o,m⟩).mono (by omega) (by omega)⟩ ⟨(dw ⟨j,X⟩).mono (by omega) (by omega),(dw ⟨V,U⟩).mono (by omega) (by omega)⟩ mem
   .cases h
  .cases h
 .split at h
  next Z=>cases h;exact iz _ _ Z.1 Z.2 mem
  .cases h
 .have:=cQ.fn _ _ mem ⟨v,none,[]⟩ (by unfold ag;simp only;rw[h])
  simpa [afh.mem] using this
theorem XR{p:P2}(h:pDg 200 p):tG [ao p.1,ao p.2]=0:=by simp[tG,im h.1,im h.2]
noncomputable def pj(H:List P2)(I:List Tr):y9:=fun c Z M=>match c,Z with
 |.fn 100,[.agg [.slice b 0 n none,.slice c 0 k none]]=>open Classical in if n=H.length/\k=I.length/\(∃o,M[b]? =some (.cells o 2 (pC H)))/\(∃o,M[c]? =some (.cells o 3 (tC I))) then some ⟨.bool true,none,[]⟩ else none
 |c,Z=>ag ij c Z M
def vT(c:Code):List Nat:=if (ad c).contains 32 then [32] else if (ad c).contains 48 then [48] else if (ad c).contains 53 then [53] else []
def msB(n k:Nat):afl:=.cells true 0 [.slice 0 0 n none,.slice 1 0 k none]
variable{K:Nat}{b b3 b4 b5:Code}
theorem xA(H:List P2)(I:List Tr)(W:∀p∈H,pDg 200 p)(Y:H.Nodup)(hl:H.length<=1000000000)(hK:H.length<K){b2:Code}(J:ah f46=[b,b2,b3,b4,b5]):
  ∃F:Env->Bool->Env,∀Z d,(ae Z 30=.slice 0 0 H.length none/\ae Z 31=.int .i64 H.length/\ae Z 32=.int .i64 0/\ae Z 3=.map 3/\ae Z 1=.ptr 2 0)->
   aU (bd prog) vT (pj H I) K 105 2 true (.loop b) ⟨Z,[.cells false 2 (pC H),.cells false 3 (tC I),msB H.length I.length,.map []],d⟩=some (.exit 1,⟨F Z d,[.cells false 2 (pC H),.cells false 3 (tC I),msB H.length I.length,.map (H.map pmE)],d⟩)/\ae (F Z d) 1=.ptr 2 0:=by
 refine bl (L:=[32]) (by simp[ah,aE,f46] at J;rw[<-J.1];rfl) (fun Z=>ae Z 30=.slice 0 0 H.length none/\ae Z 31=.int .i64 H.length/\ae Z 32=.int .i64 0/\ae Z 3=.map 3/\ae Z 1=.ptr 2 0) (fun _ AC =>ae AC 1=.ptr 2 0) ?_;rintro Z d ⟨ZV,h31,h32,h3,V⟩;simp[ah,aE,f46] at J;obtain⟨J,-⟩:=J;have M:aw [32] (ad b) Z ((32,.int .i64 ((0:Nat):Int))::Z)=aw [32] (ad b) Z Z:=by simp[aw,h32]
 rw[<-M];refine bG (α:=Nat) (fun n=>⟨aw [32] (ad b) Z ((32,.int .i64 (n:Int))::Z),[.cells false 2 (pC H),.cells false 3 (tC I),msB H.length I.length,.map ((H.take n).map pmE)],d⟩) (fun n=>H.length-n) (fun n=>n<=H.length) (.exit 1) _ d _ (by simp) ?_ K 0 (by omega) (by omega);intro n Z5;clear M;subst J;by_cases R:n<H.length
 .left
  obtain⟨p,U⟩:∃q,H[n]? =some q:=⟨H[n],GT R⟩
  obtain⟨G,k2,k3,k4⟩:=vi U;have X:=W p (J1 U);have O:p∉H.take n:=by intro N;obtain⟨j,hj,D⟩:=List.mem_iff_getElem.1 N;rw[S2] at hj;rw[List.getElem_take] at D;have V:=Ns.1 U;obtain⟨V,h2⟩:=V;have:=(List.getElem_inj (h₀:=by omega) (h₁:=V) Y).1 (D.trans h2.symm);omega
  have f1:=Ei p (H.take n) 0 O;have f2:=R4 p;have S:(H.take (n+1)).map pmE=(H.take n).map pmE++[pmE p]:=by rw[List.take_add_one,U];simp
  have w1:IntKind.i64.wrap ((n:Int)+1)=((n+1:Nat):Int):=by rw[af];omega
  have C:=XR X;have B:=jJ X.1 (by omega) (by omega);have u:=jJ X.2 (by omega) (by omega);obtain⟨m,N⟩:=xE (n+1);rw[<-N] at w1 S;have r1:=G4 4 (H.take n);obtain⟨E,o⟩:=xE ((H.take n).map pmE);rw[<-o] at f1 S r1;rw[<-o];refine⟨m,?_⟩;obtain⟨px,py⟩:=p;simp only[pA,pmE] at f1 f2 S G C B u;simp[ZV,h31,h3,R,pj,ag,ij,G,k4,C,B,u,w1,f1,f2,S,r1,msB,vj,sD,lV,ky,fP];omega
 .right
  have e:H.take n=H:=B5 (by omega);rw[e];have Y5 :¬(n:Int)<H.length:=by omega
  simp[h31,V,R]
def YJ(H:List P2)(t:Tr):Prop:=∃p q r,H[t.1]? =some p/\H[t.2.1]? =some q/\H[t.2.2]? =some r/\0<gd (cf p q r)
variable{b1:Code}
theorem xB(I:List P2)(H:List Tr)(E:List (AV×AV))(W:∀p∈I,pDg 200 p)(hT:∀t∈H,YJ I t)(hl:I.length<=1000000000)(Zc:H.length<=1000000000)(hE:E.flatMap (fun e=>e.1.refs 4++e.2.refs 4)=[])(hK:H.length<K+5)(J:ah f46=[b1,b,b3,b4,b5]):
  ∃F:Env->Bool->Env,∀Z d,(ae Z 1=.ptr 2 0/\ae Z 46=.slice 1 0 H.length none/\ae Z 47=.int .i64 H.length/\ae Z 48=.int .i64 0)->
   aU (bd prog) vT (pj I H) (K+5) 105 2 true (.loop b) ⟨Z,[.cells false 2 (pC I),.cells false 3 (tC H),msB I.length H.length,.map E],d⟩=some (.exit 3,⟨F Z d,[.cells false 2 (pC I),.cells false 3 (tC H),msB I.length H.length,.map E],d⟩)/\ae (F Z d) 1=.ptr 2 0:=by
 refine bl (L:=[48]) (by simp[ah,aE,f46] at J;rw[<-J.2.1];rfl) (fun Z=>ae Z 1=.ptr 2 0/\ae Z 46=.slice 1 0 H.length none/\ae Z 47=.int .i64 H.length/\ae Z 48=.int .i64 0) (fun _ AC =>ae AC 1=.ptr 2 0) ?_;rintro Z d ⟨h1,h46,h47,h48⟩;obtain⟨X,N⟩:∃X,aI f46=[X]:=⟨_,rfl⟩
 obtain⟨UV,ZD⟩:=dx N (l:=[0,1,0,4,15,31,0,64,0,256,960,1984,0,4096,0,16384,61440,126976,262143,524287]) (j:=19) (by kernel_rfl) (by decide);simp[aI,ca,f46] at N;simp[ah,aE,f46] at J;obtain⟨-,J,-⟩:=J;have Zm:aw [48] (ad b) Z ((48,.int .i64 ((0:Nat):Int))::Z)=aw [48] (ad b) Z Z:=by simp[aw,h48]
 rw[<-Zm];refine bG (α:=Nat) (fun n=>⟨aw [48] (ad b) Z ((48,.int .i64 (n:Int))::Z),[.cells false 2 (pC I),.cells false 3 (tC H),msB I.length H.length,.map E],d⟩) (fun n=>H.length-n) (fun n=>n<=H.length) (.exit 3) _ d _ (by simp) ?_ (K+5) 0 (by omega) (by omega);intro n Z5;clear Zm;subst J;subst N;by_cases M:n<H.length
 .left
  obtain⟨t,ht⟩:∃q,H[n]? =some q:=⟨H[n],GT M⟩
  obtain⟨k1,k2⟩:=Mk ht;obtain⟨p,q,r,U,R,O,V⟩:=hT t (J1 ht);obtain⟨G,D,C⟩:=t;simp only at U R O k1;obtain⟨p1,-,-,p4⟩:=vi U;obtain⟨q1,-,-,q4⟩:=vi R;obtain⟨r1,-,-,r4⟩:=vi O;have a1:=gL U;have a2:=gL R;have a3:=gL O;have B :¬((G:Int)<0):=by omega
  have u :¬((D:Int)<0):=by omega
  have o :¬((C:Int)<0):=by omega
  have Y :¬((I.length:Int)<=G):=by omega
  have aeA :¬((I.length:Int)<=D):=by omega
  have aeB :¬((I.length:Int)<=C):=by omega
  have g1:¬I.length<=G:=by omega
  have g2:¬I.length<=D:=by omega
  have g3:¬I.length<=C:=by omega
  have hp:=W p (J1 U);have hq:=W q (J1 R);have hr:=W r (J1 O);obtain⟨p5,p6⟩:=gZ hp.1 (by omega) (m:=2998) (by omega);obtain⟨p7,p8⟩:=gZ hp.2 (by omega) (m:=2998) (by omega);obtain⟨q5,q6⟩:=gZ hq.1 (by omega) (m:=2998) (by omega);obtain⟨q7,q8⟩:=gZ hq.2 (by omega) (m:=2998) (by omega);obtain⟨r5,r6⟩:=gZ hr.1 (by omega) (m:=2998) (by omega);obtain⟨r7,r8⟩:=gZ hr.2 (by omega) (m:=2998) (by omega);obtain⟨px,py⟩:=p;obtain⟨qx,qy⟩:=q;obtain⟨rx,ry⟩:=r;simp only at p1 q1 r1 p5 p6 p7 p8 q5 q6 q7 q8 r5 r6 r7 r8;obtain⟨S,hS⟩:=xE (gd (cf (px,py) (qx,qy) (rx,ry)));rw[<-hS] at V;have ZP:¬S<=0:=by omega
  have w1:IntKind.i64.wrap ((n:Int)+1)=((n+1:Nat):Int):=by rw[af];omega
  obtain⟨m,hm⟩:=xE (n+1);rw[<-hm] at w1;have v1:IntKind.i64.wrap 1=1:=rfl;have v2:IntKind.i64.wrap 2=2:=rfl;have v3:IntKind.i64.wrap 3=3:=rfl;have v2' :IntKind.i64.wrap (1+1)=2:=rfl;have v3' :IntKind.i64.wrap (2+1)=3:=rfl;refine⟨m,?_⟩;clear W hT;simp[h1,h46,h47,M,k1,k2,ba,ga,v1,v2,v3,vT,a1,a2,a3,B,u,o,Y,aeA,aeB,p1,q1,r1,p4,q4,r4,-aG,an UV,bD,bt,bB,ZD,
   pj,ag,ij,aB,p5,p6,p7,p8,q5,q6,q7,q8,r5,r6,r7,r8,<-hS,ZP,hE,msB,vj,sD,w1,Nat.testBit]
  omega
 .right
  have Y5 :¬(n:Int)<H.length:=by omega
  simp[h47,h1,M]
theorem Vj:bd prog 286=some ⟨.func #[3] #[79] false,1,8,.nilFunc,true⟩:=by kernel_rfl
theorem Vi:bd prog 203=some ⟨.func #[3] #[4] false,1,8,.nilFunc,true⟩:=by kernel_rfl
attribute [simp] Vj Vi
def cZ(H:List Nat):List AV:=H.map fun(n:Nat)=>.int .i64 (n:Int)
theorem Yw{H:List Nat}{i c:Nat}(h:H[i]? =some c):(cZ H)[i]? =some (.int .i64 (c:Int)):=by simp[cZ,h]
def CI(I:List P2)(H:List Nat)(i:Nat):P2:=I.getD (H.getD (i%H.length) 0) (0,0)
theorem CJ{I:List P2}(J:∀p∈I,pDg 200 p)(H:List Nat)(i:Nat):pDg 200 (CI I H i):=by
 unfold CI;rw[List.getD_eq_getElem?_getD];cases h:I[H.getD (i%H.length) 0]? with
 |none=>exact⟨⟨by decide,by decide⟩,⟨by decide,by decide⟩⟩
 |some p=>exact J p (J1 h)
def upV(I:List P2)(H:List Nat)(i:Nat):Bool:=
 decide (0<qu (CI I H (i+1)).2 (CI I H i).2)||(decide (qu (CI I H (i+1)).2 (CI I H i).2=0)&&decide (0<qu (CI I H (i+1)).1 (CI I H i).1))
def mr(I:List P2)(H:List Nat):Nat->Nat
 |0=>0
 |n+1=>mr I H n+if !upV I H n&&upV I H (n+1) then 1 else 0
def fK(I:List P2)(k:Nat)(H:List Nat):Mem:=[.cells false 2 (pC I),.qK,.cells false 1 (cZ H),.cells true 0 [.slice 0 0 I.length none,.slice 1 0 k none],.cells true 0 [.slice 2 0 H.length none],.cells true 0 [.int .i64 H.length],.cells true 0 [.func 239 [.ptr 3 0,.ptr 4 0,.ptr 5 0]]]
theorem MO(I:List P2)(k:Nat)(H:List Nat)(hc:∀c∈H,c<I.length)(h0:H≠[])(i:Nat):
  kO prog 239 [.int .i64 i,.ptr 3 0,.ptr 4 0,.ptr 5 0] (fK I k H) (pA (CI I H i)) (fK I k H):=by
 have D:aX prog 239=some f239:=by kernel_rfl
 have C:0<H.length:=by cases H with | nil=>exact absurd rfl h0 | cons a l=>simp
 have U:i%H.length<H.length:=Nat.mod_lt _ C;obtain⟨c,Z⟩:∃c,H[i%H.length]? =some c:=⟨_,GT U⟩
 have X:=hc c (J1 Z);obtain⟨p,M⟩:∃p,I[c]? =some p:=⟨_,GT X⟩
 have S:CI I H i=p:=by unfold CI;rw[List.getD_eq_getElem?_getD,List.getD_eq_getElem?_getD,Z];simp[M]
 rw[S];obtain⟨L,-,-,B⟩:=vi M;have G:=Yw Z;have F:(i:Int).tmod (H.length:Int)=((i%H.length:Nat):Int):=wY i H.length;have W:¬((H.length:Int)=0):=by omega
 have R:¬H.length=0:=by omega
 obtain⟨j,O⟩:=xE (i%H.length);rw[<-O] at F U G Z;obtain⟨V,N⟩:∃V,aI f239=[V]:=⟨_,rfl⟩
 obtain⟨u,o⟩:=dx N (l:=[0,1,0,0,0,24,60,124,255,511,1023]) (j:=10) (by kernel_rfl) (by decide);simp[aI,ca,f239] at N;subst N;obtain⟨m,Y⟩:=p;simp only at L;have h:aa (bd prog) (fun _=>[]) (aX prog) cP 1 239 [.int .i64 i,.ptr 3 0,.ptr 4 0,.ptr 5 0] (fK I k H)=some ⟨pA (m,Y),none,[]⟩:=by simp[aa,D,f239,fK,-aG,an u,bD,bt,bB,o,F,R,U,G,L,B,X,pA]
 have:=(ar aj (aJ _) (az _) (aM _) h).1;simpa [afh.mem] using this
noncomputable def lh(I:List P2)(k:Nat)(H:List Nat):y9:=fun c Z M=>match c,Z with
 |.fn 239,[.int .i64 i,.ptr 3 0,.ptr 4 0,.ptr 5 0]=>open Classical in if 0<=i/\M=fK I k H then some ⟨pA (CI I H i.toNat),none,[]⟩ else none
 |c,Z=>ag ij c Z M
theorem Bo(I:List P2)(k:Nat)(H:List Nat)(hc:∀c∈H,c<I.length)(h0:H≠[]):qS prog (lh I k H):=by
 refine cB fun c Z M r h=>?_
 unfold lh at h;split at h
 .rename_i i
  split at h
  .rename_i X
   cases h;obtain⟨V,rfl⟩:=X;refine aC ?_;rw[List.append_nil];have:=MO I k H hc h0 i.toNat
   rw[QQd V] at this;exact this
  .cases h
 .exact dZ Bl h
theorem MP(I:List P2)(k:Nat)(H:List Nat)(hP:∀p∈I,pDg 200 p)(hc:∀c∈H,c<I.length)(h0:H≠[])(i:Nat)(hi:i<=1000000000):
  kO prog 240 [.int .i64 i,.ptr 6 0] (fK I k H) (.bool (upV I H i)) (fK I k H):=by
 have L:aX prog 240=some f240:=by kernel_rfl
 have Y:=CJ hP H i;have W:=CJ hP H (i+1);unfold upV;obtain⟨p,Z⟩:=xE (CI I H i);obtain⟨q,X⟩:=xE (CI I H (i+1));rw[<-Z] at Y |-;rw[<-X] at W |-;have w1:IntKind.i64.wrap ((i:Int)+1)=((i+1:Nat):Int):=by rw[af];omega
 have G:(0:Int)<=(i:Int)+1:=by omega
 have F:((i:Int)+1).toNat=i+1:=by omega
 obtain⟨J,p2⟩:=dz Y.1 (by omega) (by omega) (by omega) (by omega);obtain⟨R,O⟩:=dz Y.2 (by omega) (by omega) (by omega) (by omega);obtain⟨q1,q2⟩:=dz W.1 (by omega) (by omega) (by omega) (by omega);obtain⟨N,M⟩:=dz W.2 (by omega) (by omega) (by omega) (by omega);obtain⟨px,D⟩:=p;obtain⟨qx,C⟩:=q;simp only at J p2 R O q1 q2 N M |-;obtain⟨o1,o2,D'⟩:∃o1 o2,aI f240=[o1,o2]:=⟨_,_,rfl⟩
 obtain⟨V,B⟩:=Ca D' (l:=[0,0,2,7,15,0,0,111,239,511,1023]) (l' :=[0,1,3,7,15,31,63,63,191,511,1023,63,63,7167,15359,32767,65535,131071,262143,524287]) (by kernel_rfl);have u:fv [0,0,2,7,15,0,0,111,239,511,1023] 10=true:=by decide
 have o:fv [0,1,3,7,15,31,63,63,191,511,1023,63,63,7167,15359,32767,65535,131071,262143,524287] 19=true:=by decide
 simp[aI,ca,f240] at D';obtain⟨rfl,rfl⟩:=D';have key:∀b:Bool,(decide (0<qu C D)||(decide (qu C D=0)&&decide (0<qu qx px)))=b->aa (bd prog) (fun _=>[]) (aX prog) (lh I k H) 1 240 [.int .i64 i,.ptr 6 0] (fK I k H)=some ⟨.bool b,none,[]⟩:=by
  intro b U;by_cases m:0<qu C D
  .simp only[m,decide_true,Bool.true_or] at U
   subst U;simp[aa,L,f240,fK,lh,-aG,an V,an B,bD,bt,bB,u,o,w1,G,F,<-Z,<-X,pA,ag,ij,aT,aV,aB,R,O,N,M,m,Nat.testBit]
  .by_cases S:qu C D=0
   .by_cases j:0<qu qx px
    .simp[S,j] at U
     subst U;simp[aa,L,f240,fK,lh,-aG,an V,an B,bD,bt,bB,u,o,w1,G,F,<-Z,<-X,pA,ag,ij,aT,aV,aB,J,p2,R,O,q1,q2,N,M,S,j,Nat.testBit]
    .simp[S,j] at U
     subst U;simp[aa,L,f240,fK,lh,-aG,an V,an B,bD,bt,bB,u,o,w1,G,F,<-Z,<-X,pA,ag,ij,aT,aV,aB,J,p2,R,O,q1,q2,N,M,S,j,Nat.testBit]
   .simp[m,S] at U
    subst U;simp[aa,L,f240,fK,lh,-aG,an V,an B,bD,bt,bB,u,o,w1,G,F,<-Z,<-X,pA,ag,ij,aT,aV,aB,R,O,N,M,m,S,Nat.testBit]
 have:=(ar aj (aJ _) (Bo I k H hc h0) (aM _) (key _ rfl)).1;simpa [afh.mem] using this
noncomputable def vU(I:List P2)(k:Nat)(H:List Nat):y9:=fun c Z M=>match c,Z with
 |.fn 240,[.int .i64 i,.ptr 6 0]=>open Classical in if 0<=i/\i<=1000000000/\M=fK I k H then some ⟨.bool (upV I H i.toNat),none,[]⟩ else none
 |c,Z=>lh I k H c Z M
theorem Kq(I:List P2)(k:Nat)(H:List Nat)(J:∀p∈I,pDg 200 p)(hc:∀c∈H,c<I.length)(h0:H≠[]):qS prog (vU I k H):=by
 refine cB fun c Z M r h=>?_
 unfold vU at h;split at h
 .rename_i i
  split at h
  .rename_i X
   cases h;obtain⟨V,U,rfl⟩:=X;refine aC ?_;rw[List.append_nil];have:=MP I k H J hc h0 i.toNat (by omega);rw[QQd V] at this;exact this
  .cases h
 .exact dZ (Bo I k H hc h0) h
def TK(I:List P2)(H:List Nat):Prop:=
 H≠[]/\(∀c∈H,c<I.length)/\(∀i,i<H.length->0<=gd (cf (CI I H i) (CI I H (i+1)) (CI I H (i+2))))/\mr I H H.length=1
theorem EY(I:List P2)(H:List Nat):∀n,mr I H n<=n
 |0=>L9 _
 |n+1=>by have:=EY I H n;unfold mr;split<;>omega
section
variable (PS:List P2)(k:Nat)(cyc:List Nat)(hP:∀p∈PS,pDg 200 p)(ho:TK PS cyc)(hl:cyc.length<=1000000)
include PS k cyc hP ho hl
theorem DF(hK:cyc.length<K)(H:ah f182=[b]):
  ∃F:Env->Bool->Env,∀Z d,(ae Z 6=.ptr 6 0/\ae Z 7=.func 240 [.ptr 6 0]/\ae Z 8=.int .i64 0/\ae Z 14=.int .i64 cyc.length/\ae Z 15=.int .i64 0)->
   aU (bd prog) (fun _=>[8,15]) (vU PS k cyc) K 46 3 true (.loop b) ⟨Z,fK PS k cyc,d⟩=some (.exit 0,⟨F Z d,fK PS k cyc,d⟩)/\ae (F Z d) 8=.int .i64 1:=by
 refine bl rfl (fun Z=>ae Z 6=.ptr 6 0/\ae Z 7=.func 240 [.ptr 6 0]/\ae Z 8=.int .i64 0/\ae Z 14=.int .i64 cyc.length/\ae Z 15=.int .i64 0) (fun _ AC =>ae AC 8=.int .i64 1) ?_;rintro Z d ⟨h6,h7,h8,h14,h15⟩;obtain⟨-,-,D,C⟩:=ho;obtain⟨M,B⟩:∃M,aI f182=[M]:=⟨_,rfl⟩
 obtain⟨UV,ZD⟩:=dx B (l:=[0,0,3,0,0,16,63,0,0,256,1023,2047,4095]) (j:=12) (by kernel_rfl) (by decide);simp[aI,ca,f182] at B;simp[ah,aE,f182] at H;have J:aw [8,15] (ad b) Z ((8,.int .i64 ((mr PS cyc 0:Nat):Int))::(15,.int .i64 ((0:Nat):Int))::Z)=aw [8,15] (ad b) Z Z:=by simp[aw,h8,h15,mr]
 rw[<-J];refine bG (α:=Nat) (fun n=>⟨aw [8,15] (ad b) Z ((8,.int .i64 ((mr PS cyc n:Nat):Int))::(15,.int .i64 (n:Int))::Z),fK PS k cyc,d⟩) (fun n=>cyc.length-n) (fun n=>n<=cyc.length) (.exit 0) _ d _ (by simp) ?_ K 0 (by omega) (by omega);intro n Z5;clear J;subst H;subst B;by_cases I:n<cyc.length
 .left
  have h3:=D n I;have u:=CJ hP cyc n;have o:=CJ hP cyc (n+1);have Y:=CJ hP cyc (n+2);obtain⟨p,N⟩:=xE (CI PS cyc n);obtain⟨q,X⟩:=xE (CI PS cyc (n+1));obtain⟨r,O⟩:=xE (CI PS cyc (n+2));rw[<-N,<-X,<-O] at h3;rw[<-N] at u;rw[<-X] at o;rw[<-O] at Y;obtain⟨p5,p6⟩:=gZ u.1 (by omega) (m:=2998) (by omega);obtain⟨p7,p8⟩:=gZ u.2 (by omega) (m:=2998) (by omega);obtain⟨q5,q6⟩:=gZ o.1 (by omega) (m:=2998) (by omega);obtain⟨q7,q8⟩:=gZ o.2 (by omega) (m:=2998) (by omega);obtain⟨r5,r6⟩:=gZ Y.1 (by omega) (m:=2998) (by omega);obtain⟨r7,r8⟩:=gZ Y.2 (by omega) (m:=2998) (by omega);obtain⟨px,py⟩:=p;obtain⟨qx,qy⟩:=q;obtain⟨rx,ry⟩:=r;simp only at p5 p6 p7 p8 q5 q6 q7 q8 r5 r6 r7 r8;obtain⟨S,hS⟩:=xE (gd (cf (px,py) (qx,qy) (rx,ry)));rw[<-hS] at h3;have ZP:¬S<0:=by omega
  obtain⟨G,Zg⟩:=xE (n+1);obtain⟨m2,Z6⟩:=xE (n+2);have w1:IntKind.i64.wrap ((n:Int)+1)=(G:Int):=by rw[af];omega
  have w2:IntKind.i64.wrap ((n:Int)+2)=(m2:Int):=by rw[af];omega
  have s5:(n:Int)<=1000000000:=by omega
  have s6:(G:Int)<=1000000000:=by omega
  have s7:n<=1000000000:=by omega
  have s8:G<=1000000000:=by omega
  have Zl:=EY PS cyc n;have L:mr PS cyc (n+1)=mr PS cyc n+if !upV PS cyc n&&upV PS cyc (n+1) then 1 else 0:=rfl
  obtain⟨R,W⟩:=xE (mr PS cyc n);rw[<-W] at L Zl |-;have w3:IntKind.i64.wrap ((R:Int)+1)=((R+1:Nat):Int):=by rw[af];omega
  obtain⟨U,hU⟩:=xE (upV PS cyc n);obtain⟨V,hV⟩:=xE (upV PS cyc (n+1));rw[<-hU,<-hV] at L;rw[<-Zg] at L hV X;rw[<-Z6] at O;refine⟨G,?_⟩;cases U<;>cases V;all_goals
   simp at L;simp[fK,h6,h7,h14,I,vU,lh,-aG,an UV,bD,bt,bB,ZD,w1,w2,w3,s5,s6,<-N,<-X,<-O,<-hU,<-hV,pA,ag,ij,aB,p5,p6,p7,p8,q5,q6,q7,q8,r5,r6,r7,r8,<-hS,ZP,L,Nat.testBit];omega
 .right
  have e:n=cyc.length:=by omega
  subst e;have Y5 :¬(cyc.length:Int)<cyc.length:=by omega
  simp[h14,C]
theorem ML:
  kO prog 182 [.agg [.slice 0 0 PS.length none,.slice 1 0 k none],.slice 2 0 cyc.length none] [.cells false 2 (pC PS),.qK,.cells false 1 (cZ cyc)] (.bool true) [.cells false 2 (pC PS),.qK,.cells false 1 (cZ cyc)]:=by
 have S:aX prog 182=some f182:=by kernel_rfl
 obtain⟨b,Z⟩:∃b,ah f182=[b]:=⟨_,rfl⟩
 obtain⟨F,X⟩:=DF (K:=cyc.length+1) PS k cyc hP ho hl (by omega) Z;simp[ah,aE,f182] at Z;subst Z;have U:=fun V d h=>(X V d h).1
 have R:=fun V d h=>(X V d h).2
 clear X;simp only[fK] at U;refine dj (lv:=(fun _=>[8,15])) (K:=(cyc.length+1)) (Kq PS k cyc hP ho.2.1 ho.1) ?_;simp[aa,S,f182,U,R]
end
theorem xq(a:Int):∀(N:List (Int×Int)) (i:Nat),(qq N a=none->kc (bd prog) 3 (.int .i64 a) (N.map nxE) i=some none)/\∀b,qq N a=some b->∃q,kc (bd prog) 3 (.int .i64 a) (N.map nxE) i=some (some (q,.int .i64 b))
 | [],i=>⟨fun _=>rfl,fun b h=>by cases h⟩
 |p::N,i=>by
  have e:k9 (bd prog) 20 3 (.int .i64 a) (.int .i64 p.1)=some (decide (a=p.1)):=by simp[k9]
  simp only[List.map_cons,kc,nxE,e,qq];have Z:=xq a N (i+1);by_cases h:a=p.1
  .simp only[h,decide_true,if_true]
   exact⟨fun h=>(by cases h),fun b X=>⟨i,(by cases X;rfl)⟩⟩
  .simp only[h,decide_false,if_false]
   exact Z
theorem Uy(d:Nat)(x y:Int):k9 (bd prog) (d+1) 3 (.int .i64 x) (.int .i64 y)=some (decide (x=y)):=by rw[k9];simp
theorem Uz(a b c d:Int):k9 (bd prog) 20 115 (.agg [.int .i64 a,.int .i64 b]) (.agg [.int .i64 c,.int .i64 d])=some (decide (a=c)&&decide (b=d)):=by have r:List.range' 0 2=[0,1]:=rfl;have i:=Uy 18;rw[k9];simp only[KF,Gm,r,Wi];simp[jV,TyI.isAgg,i]
theorem xr(a:Int×Int):∀(N:List Sd) (i:Nat),(Rm N a=none->kc (bd prog) 115 (.agg [.int .i64 a.1,.int .i64 a.2]) (N.map sdE) i=some none)/\∀b,Rm N a=some b->∃q,kc (bd prog) 115 (.agg [.int .i64 a.1,.int .i64 a.2]) (N.map sdE) i=some (some (q,.int .i64 b))
 | [],i=>⟨fun _=>rfl,fun b h=>by cases h⟩
 |p::N,i=>by
  have e:=Uz a.1 a.2 p.1.1 p.1.2;simp only[List.map_cons,kc,sdE,e,Rm];have Z:=xr a N (i+1);by_cases h:a.1=p.1.1/\a.2=p.1.2
  .rw[if_pos h]
   simp only[h.1,h.2,decide_true,Bool.and_true];exact⟨fun h=>(by cases h),fun b X=>⟨i,(by cases X;rfl)⟩⟩
  .rw[if_neg h]
   have V:(decide (a.1=p.1.1)&&decide (a.2=p.1.2))=false:=by rw[<-Bool.not_eq_true];simpa using h
   rw[V];exact Z
def ouO(l:List Int):AV:=match l with
 | []=>.qF
 |_=>.slice 6 0 l.length none
def ouM(M0:Mem)(l:List Int):Mem:=match l with
 | []=>M0
 |_=>M0++[.cells true 1 (iZ l)]
theorem zg(n:Nat):∀N:List (Int×Int),(N.map nxE).flatMap (fun e=>e.1.refs n++e.2.refs n)=[]
 | []=>rfl
 |p::N=>by simp[nxE,AV.refs,zg n N]
theorem so(n:Nat):∀N:List Sd,(N.map sdE).flatMap (fun e=>e.1.refs n++e.2.refs n)=[]
 | []=>rfl
 |p::N=>by simp[sdE,AV.refs,AV.afy,so n N]
theorem mZ(n:Nat)(N:List (Int×Int)):afl.refs n (.map (N.map nxE))=[]:=zg n N
theorem nd(n:Nat)(N:List Sd):afl.refs n (.afS (N.map sdE))=[]:=so n N
theorem ye(n:Nat)(o:Bool)(e:Nat)(cs:List AV):afl.refs n (.cells o e cs)=AV.afy n cs:=rfl
theorem CQ(f:Nat->Option Nat)(o:Bool)(e:Nat)(cs:List AV):afl.ren f (.cells o e cs)=.cells o e (AV.afz f cs):=rfl
theorem vl(n:Nat):afl.refs n .qK=[]:=rfl
theorem Bq(ks:List Sd)(N:List (Int×Int))(first:Int)(H:List Int)(W Y:Nat)(hc:xb N first N.length first []=some H)(hN:N≠[])(hl:N.length<=1000000)(hK:N.length<K)(I:ah f181=[b1,b])(M0:Mem)(J:M0=[.afS (ks.map sdE),.qK,.qK,.cells true 0 [.slice 1 0 W none,.slice 2 0 Y none],.map (N.map nxE),.qK]):
  ∃F:Env->Bool->Env,∀X d,(ae X 6=.map 4/\ae X 7=.int .i64 first/\ae X 13=.qF/\ae X 14=.int .i64 first)->
   aU (bd prog) (fun _=>[13,14]) cP K 93 3 true (.loop b) ⟨X,M0,d⟩=some (.exit 2,⟨F X d,M0++[.cells true 1 (iZ H)],d⟩)/\ae (F X d) 13=.slice 6 0 H.length none:=by
 refine bl rfl (fun X=>ae X 6=.map 4/\ae X 7=.int .i64 first/\ae X 13=.qF/\ae X 14=.int .i64 first) (fun _ B =>ae B 13=.slice 6 0 H.length none) ?_;rintro X d ⟨h6,h7,h13,h14⟩;simp[ah,aE,f181] at I;obtain⟨_,I⟩:=I;have R:M0.length=6:=by rw[J];rfl
 rw[R];have u:aw [13,14] (ad b) X ((13,ouO [])::(14,.int .i64 first)::X)=aw [13,14] (ad b) X X:=by simp[aw,h13,h14,ouO]
 rw[<-u];have V:M0=ouM M0 []:=rfl;conv=>congr;ext B;lhs;lhs;rw[V]
 refine bG (α:=List Int×Int) (fun x=>⟨aw [13,14] (ad b) X ((13,ouO x.1)::(14,.int .i64 x.2)::X),ouM M0 x.1,d⟩) (fun x=>N.length-x.1.length) (fun x=>∃n,x.1.length+n=N.length/\xb N first n x.2 x.1=some H) (.exit 2) _ d _ (by simp) ?_ K ([],first) ⟨N.length,by simp,hc⟩ (by simpa using hK);rintro ⟨Z,a⟩ ⟨n,Z5,hw⟩;clear u V;simp only at Z5 hw;cases n with
 |zero=>
  right;simp only[xb,Pi] at hw;subst hw;cases Z with
  |nil=>exact absurd (Mp (by simpa using Z5.symm)) hN
  |cons x Z=>
   have m:¬((Z.length:Int)+1<N.length):=by simp at Z5;omega
   subst I J;simp[ouO,ouM,h6,m]
 |succ n=>
  left;rw[xb] at hw;cases hlk:qq N a with
  |none=>rw[hlk] at hw;cases hw
  |some c=>
   rw[hlk] at hw;simp only at hw;split at hw
   .cases hw
   .rename_i O
    obtain⟨q,M⟩:=(xq a N 0).2 c hlk;refine⟨(Z++[a],c),?_⟩;have U:(Z.length:Int)<N.length:=by omega
    subst I J;have o:0<N.length:=by omega
    have j:n+1<=1000000:=by omega
    have L:xb N first n c (Z++[a])=some H:=hw
    cases Z with
    |nil=>
     by_cases S:a=first
     .subst S
      simp[-afl.refs,-afl.ren,ouO,ouM,h6,h7,o,lV,ky,mC,M,mZ,nd,pw,gA,pW,Mh,CS,qo,jU,iZ,ye,CQ,vl];exact⟨⟨n,by simp at Z5;omega,L⟩,by omega⟩
     .simp[-afl.refs,-afl.ren,ouO,ouM,h6,h7,o,S,lV,ky,mC,M,mZ,nd,pw,gA,pW,Mh,CS,qo,jU,iZ,ye,CQ,vl]
      exact⟨⟨n,by simp at Z5;omega,L⟩,by omega⟩
    |cons x Z=>
     have S:¬a=first:=fun e=>O ⟨e,by simp⟩
     have hlN:Z.length+1<N.length:=by simp at Z5;omega
     have U:(Z.length:Int)+1<N.length:=by omega
     have hz:iZ (x::Z)++[.int .i64 a]=iZ (x::(Z++[a])):=by simp[iZ]
     have F':(iZ (x::Z)).length=Z.length+1:=by simp[iZ]
     have G:(iZ (x::Z)).take (Z.length+1)=iZ (x::Z):=B5 (by omega);have D:(Z.length+1+1)*8<=140737488355328:=by omega
     have C:Z.length<=140737488355326:=by omega
     simp[-afl.refs,-afl.ren,ouO,ouM,h6,h7,S,U,lV,ky,mC,M,mZ,nd,pw,gA,pW,Mh,CS,qo,jU,ye,CQ,vl,G3,CR,G,D,C,hz,F'];exact⟨⟨n,by simp at Z5;omega,by simpa using L⟩,by omega⟩
theorem Sx{P:Program}{T:TypeId->Option TyI}{O:y9}{tp:Bool}{N m0:Nat}{lv:Code->List Nat}{Q:Exit->St->Prop}(H:P.follows .mixedOrders=true)(hT:dN P T)(I:qS P O){c:Code}{s:XS}(hs:dc c=true)(h:∃e Z,aU T lv O K N m0 tp c s=some (e,Z)/\Q e ⟨Z.env,Z.mem⟩):AWP P tp N m0 c ⟨s.env,s.mem⟩ Q:=by obtain⟨e,Z,X,V⟩:=h;exact wk H hT I hs X V
def VU(ks:List Sd)(H I:Nat)(seen:List Nat):Mem:=[.afS (ks.map sdE),.qK,.qK,.cells true 0 [.slice 1 0 H none,.slice 2 0 I none],.map ((dq ks seen).map nxE),.qK]
def ouV(ks:List Sd)(seen:List Nat)(t:Nat):AV:=if t=7 then .int .i64 (AH (-1) (dq ks seen)) else .undef
theorem tU(ks:List Sd)(seen:List Nat)(j:Nat):dq ks (seen++[j])=dq ks seen++(match bAt ks j with | some p=>[p] | none=>[]):=by unfold dq;rw[List.filterMap_append];congr 1;simp only[List.filterMap_cons,List.filterMap_nil];cases bAt ks j<;>rfl
theorem HH(ks:List Sd)(J:List Int)(H I:Nat)(Zj:vh ks=true)(hc:B4 (tE ks)=some J):
  kO prog 181 [.agg [.slice 1 0 H none,.slice 2 0 I none],.map 0] [.afS (ks.map sdE),.qK,.qK] (.tuple [.slice 3 0 J.length none,.bool true]) [.afS (ks.map sdE),.qK,.qK,.cells true 1 (iZ J)]:=by
 obtain⟨Y,L,W,ok4⟩:=LQ Zj;have hT:=aJ prog;refine afU.intro hT (fn:=f181) (by kernel_rfl) rfl rfl (Nat.le_of_ble_eq_true rfl) ?_;refine xM ?_;refine wk aj hT (az _) (lv:=fun _=>[]) (K:=1) (s:=⟨dL 0 [.agg [.slice 1 0 H none,.slice 2 0 I none],.map 0],[.afS (ks.map sdE),.qK,.qK],false⟩) rfl (s' :=⟨[(5,.bool false),(4,.qF),(2,.ptr 3 0),(0,.agg [.slice 1 0 H none,.slice 2 0 I none]),(1,.map 0)],[.afS (ks.map sdE),.qK,.qK,.cells true 0 [.slice 1 0 H none,.slice 2 0 I none]],false⟩) (e:=.normal) (by simp) ?_;refine xM ?_;refine wk aj hT (az _) (lv:=fun _=>[]) (K:=1) (s:=⟨_,_,false⟩) rfl (s' :=⟨[(6,.map 4),(17,.map 4),(5,.bool false),(4,.qF),(2,.ptr 3 0),(0,.agg [.slice 1 0 H none,.slice 2 0 I none]),(1,.map 0)],[.afS (ks.map sdE),.qK,.qK,.cells true 0 [.slice 1 0 H none,.slice 2 0 I none],.map []],false⟩) (e:=.normal) (by simp) ?_;refine xM ?_;refine wk aj hT (az _) (lv:=fun _=>[]) (K:=1) (s:=⟨_,_,false⟩) rfl (s' :=⟨[(7,.int .i64 (-1)),(6,.map 4),(17,.map 4),(5,.bool false),(4,.qF),(2,.ptr 3 0),(0,.agg [.slice 1 0 H none,.slice 2 0 I none]),(1,.map 0)],[.afS (ks.map sdE),.qK,.qK,.cells true 0 [.slice 1 0 H none,.slice 2 0 I none],.map []],false⟩) (e:=.normal) (by simp) ?_;refine xM ?_;show AWP _ _ _ _ _ ⟨[(7,.int .i64 (-1)),(6,.map 4),(17,.map 4),(5,.bool false),(4,.qF),(2,.ptr 3 0),(0,.agg [.slice 1 0 H none,.slice 2 0 I none]),(1,.map 0)],[.afS (ks.map sdE),.qK,.qK,.cells true 0 [.slice 1 0 H none,.slice 2 0 I none],.map []]⟩ _
 refine NY aj hT (az _) (lv:=fun _=>[]) (K:=1) (b:=0) (es:=ks.map sdE) (s:=⟨[(7,.int .i64 (-1)),(6,.map 4),(17,.map 4),(5,.bool false),(4,.qF),(2,.ptr 3 0),(0,.agg [.slice 1 0 H none,.slice 2 0 I none]),(1,.map 0)],[.afS (ks.map sdE),.qK,.qK,.cells true 0 [.slice 1 0 H none,.slice 2 0 I none],.map []],false⟩) (s1:=⟨[(18,.map 0),(7,.int .i64 (-1)),(6,.map 4),(17,.map 4),(5,.bool false),(4,.qF),(2,.ptr 3 0),(0,.agg [.slice 1 0 H none,.slice 2 0 I none]),(1,.map 0)],[.afS (ks.map sdE),.qK,.qK,.cells true 0 [.slice 1 0 H none,.slice 2 0 I none],.map []],false⟩)
  rfl rfl rfl rfl (KG) rfl rfl rfl rfl rfl rfl rfl rfl rfl rfl rfl rfl ?_ ?_ ?_ ?_ rfl rfl [7] _ (ouV ks) (VU ks H I) (fun seen=>seen.Nodup/\∀j∈seen,j<ks.length) rfl ?_ ?_ ?_ ?_ ?_ ?_ ?_
 .decide
 .decide
 .rfl
 .simp
 .decide
 .rfl
 .rintro seen ⟨_,_⟩
  refine⟨rfl,rfl,rfl,fun x hx=>?_⟩;simp only[VU,lM] at hx;rcases hx with rfl | rfl | rfl | rfl | rfl | rfl
  .exact nd _ _
  .rfl
  .rfl
  .rfl
  .exact mZ _ _
  .rfl
 .intro seen t _ G
  simp only[List.mem_singleton] at G;subst G;rfl
 .refine⟨⟨List.nodup_nil,fun j O=>(by cases O)⟩,rfl,fun t G=>?_⟩
  simp only[List.mem_singleton] at G;subst G;rfl
 .rintro seen env ⟨i1,i2⟩ hs hv PP
  have U:=hv 7 (by simp);have N:=hs 6 (by decide);simp[] at N;simp only[ouV,if_true] at U;have hp:=Ms i1 i2 (fun j O=>PP j (by simpa using O));have hge:=RP W (seen:=seen);have V:=TB hp hge;have Z:∀a,qq (dq ks seen) a=qq (tE ks) a:=Rl hp (Hg L)
  have o:(dq ks seen).length=(tE ks).length:=hp.length_eq;have hw:∀n a l,xb (dq ks seen) (AH (-1) (dq ks seen)) n a l=xb (tE ks) (AH (-1) (tE ks)) n a l:=by
   intro n;induction n with
   |zero=>intro a l;rfl
   |succ n ih=>intro a l;simp only[xb,Z,ih];rw[V]
  have D :xb (dq ks seen) (AH (-1) (dq ks seen)) (dq ks seen).length (AH (-1) (dq ks seen)) []=some J:=by rw[hw,o];rw[V];exact hc
  have hN:dq ks seen≠[]:=fun e=>Y (by rw[e] at o;exact Mp o.symm)
  have hNl:(dq ks seen).length<=1000000:=by rw[o];have:(tE ks).length<=(List.range ks.length).length:=List.length_filterMap_le _ _;rw[List.length_range] at this;omega
  obtain⟨b1,b,X⟩:∃b1 b,ah f181=[b1,b]:=⟨_,_,rfl⟩
  obtain⟨F,hF⟩:=Bq (K:=(dq ks seen).length+1) ks (dq ks seen) _ J H I D hN hNl (by omega) X _ rfl;simp[ah,aE,f181] at X;obtain⟨_,X⟩:=X;subst X;show AWP _ _ _ _ _ _ _
  refine Sx aj hT (az _) (lv:=fun _=>[13,14]) (K:=(dq ks seen).length+1) (s:=⟨_,_,false⟩) rfl ?_;show∃e u,aU (bd prog) (fun _=>[13,14]) cP ((dq ks seen).length+1) 93 3 true _ _=some (e,u)/\_
  simp[-afl.refs,-afl.ren,N,U,hF];have hcl:0<J.length:=by have:=zm D;have:0<(dq ks seen).length:=List.length_pos_iff.2 hN;omega
  refine⟨_,_,⟨rfl,rfl⟩,.inr rfl,[6],rfl,.inl ⟨rfl,?_⟩⟩;have e2:decide (0<J.length)=true:=by simpa using hcl
  rw[e2];simp[AV.ren,AV.afz,rho,af4,CR,List.idxOf?,List.findIdx?,List.findIdx?.go]
 .rintro seen env j k v ⟨i1,i2⟩ hs hv O hns
  have U:=hv 7 (by simp);have C:=hs 1 (by decide);have N:=hs 6 (by decide);simp[] at C N;simp only[ouV,if_true] at U;rw[Zo] at O;simp only[Y2] at O;obtain⟨s,hs1,hs2⟩:=O;have hkv:=Prod.mk.inj hs2;obtain⟨hk,hvv⟩:=hkv;subst hk hvv;have hjl:=gL hs1;have J':(seen++[j]).Nodup/\∀i∈seen++[j],i<ks.length:=by
   constructor
   .rw[List.nodup_append];exact⟨i1,by simp,fun a ha b X=>by simp at X;subst X;rintro rfl;exact hns ha⟩
   .intro i hi
    rcases List.mem_append.1 hi with h | h
    .exact i2 i h
    .simp at h;subst h;exact hjl
  have S :(seen++[j]).Nodup/\∀i,i∈seen\/i=j->i<ks.length:=⟨J'.1,fun i hi=>J'.2 i (by simpa using hi)⟩
  cases Z:Rm ks (s.1.2,s.1.1) with
  |some t=>
   have X:bAt ks j=none:=by simp[bAt,hs1,Z]
   have R:dq ks (seen++[j])=dq ks seen:=by rw[tU,X];simp
   obtain⟨q,B⟩:=(xr (s.1.2,s.1.1) ks 0).2 t Z;rw[show(List.length _+1:Nat)=6 from rfl];simp[-afl.refs,-afl.ren,VU,ouV,C,B,R,lV,ky,mC,Ly,jV,tN,tP,cv,qo,List.range'];exact⟨_,_,⟨rfl,rfl⟩,.inr rfl,S,by simpa using U,rfl⟩
  |none=>
   have X:bAt ks j=some s.1:=by simp[bAt,hs1,Z]
   have R:dq ks (seen++[j])=dq ks seen++[s.1]:=by rw[tU,X]
   have V:AH (-1) (dq ks (seen++[j]))=if AH (-1) (dq ks seen)<0\/s.1.1<AH (-1) (dq ks seen) then s.1.1 else AH (-1) (dq ks seen):=by rw[R,Ol];rfl
   have B:=(xr (s.1.2,s.1.1) ks 0).1 Z;have hfr:=Hf L hns X;have M:=(xq s.1.1 (dq ks seen) 0).1 hfr;rw[show(List.length _+1:Nat)=6 from rfl];unfold VU ouV;rw[V,R];obtain⟨m,hm⟩:=xE (AH (-1) (dq ks seen));rw[<-hm] at U |-;clear V;by_cases c1:m<0
   .simp[-afl.refs,-afl.ren,C,N,U,B,M,c1,lV,fP,ky,mC,Ly,jV,tN,tP,cv,qo,List.range']
    exact⟨_,_,⟨rfl,rfl⟩,.inl rfl,S,rfl,rfl⟩
   .by_cases c2:s.1.1<m
    .simp[-afl.refs,-afl.ren,C,N,U,B,M,c1,c2,lV,fP,ky,mC,Ly,jV,tN,tP,cv,qo,List.range']
     exact⟨_,_,⟨rfl,rfl⟩,.inl rfl,S,rfl,rfl⟩
    .simp[-afl.refs,-afl.ren,C,N,U,B,M,c1,c2,lV,fP,ky,mC,Ly,jV,tN,tP,cv,qo,List.range']
     exact⟨_,_,⟨rfl,rfl⟩,.inl rfl,S,U,rfl⟩
def V0:List (AV×AV)->Option (List Sd)
 | []=>some []
 |(.agg [.int .i64 a,.int .i64 b],.int .i64 t)::l=>match V0 l with
  |some r=>some (((a,b),t)::r)
  |none=>none
 |_=>none
theorem E1:∀{es:List (AV×AV)} {ks:List Sd},V0 es=some ks->es=ks.map sdE
 | [],ks,h=>by cases h;rfl
 |e::es,ks,h=>by
  unfold V0 at h;split at h
  next Z=>cases Z
  .rename_i a b t l Z
   cases Z;split at h
   .rename_i r X
    cases h;rw[E1 X];rfl
   .cases h
  .cases h
def Rq(M:Mem)(b:Nat):Option (List (AV×AV)):=match M[b]? with
 |some (.map es)=>some es
 |some (.afS es)=>some es
 |_=>none
theorem T3(n:Nat)(s:Sd):(sdE s).1.under n=true/\(sdE s).2.under n=true:=by simp[sdE,AV.under,AV.afp]
theorem OD(f:Nat->Option Nat)(s:Sd):((sdE s).1.ren f,(sdE s).2.ren f)=sdE s:=by simp[sdE,AV.ren,AV.afz]
theorem yo(M:Mem)(ks:List Sd)(H:List Int)(b b1 J W Y:Nat)(hb1:b1<M.length)(ZF:J<M.length)(I:Rq M b=some (ks.map sdE))(Zj:vh ks=true)(hc:B4 (tE ks)=some H):
  kO prog 181 [.agg [.slice b1 0 W none,.slice J 0 Y none],.map b] M (.tuple [.slice M.length 0 H.length none,.bool true]) (M++[.cells true 1 (iZ H)]):=by
 have S:b<M.length:=by
  unfold Rq at I;split at I
  next es h=>exact(gL h)
  next es h=>exact(gL h)
  .cases I
 have:=kO.frame (M:=M) (new:=[.cells true 1 (iZ H)]) [b,b1,J] (m:=[.afS (ks.map sdE),.qK,.qK]) rfl (by intro k V;simp at V;rcases V with rfl | rfl | rfl<;>assumption) (by rfl) (fun i s Z=>by
  match i with
  |0=>
   simp at Z;subst Z;refine⟨ks.map sdE,?_,rfl,fun j e X=>?_⟩
   .unfold Rq at I
    split at I
    next es h=>cases I;exact .inr h
    next es h=>cases I;exact .inl h
    .cases I
   .rw[Zo] at X
    simp only[Y2] at X;obtain⟨R,U,rfl⟩:=X;refine⟨T3 _ _,?_⟩;rw[OD,Zo,U];rfl
  |1=>simp at Z;subst Z;trivial
  |2=>simp at Z;subst Z;trivial
  |i+3=>simp at Z) rfl (HH ks H W Y Zj hc)
 simpa [AV.afz,AV.ren,fa,afl.ren,CR] using this
def Nu(c:Go.Eng.Callee)(args:List AV)(M:Mem):Option afh:=match c,args with
 |.fn 181,[.agg [.slice b1 0 _ none,.slice b2 0 _ none],.map b]=>match Rq M b with
  |some es=>match V0 es with
   |some ks=>match B4 (tE ks) with
    |some cyc=>if vh ks&&(decide (b1<M.length)&&decide (b2<M.length)) then some ⟨.tuple [.slice M.length 0 cyc.length none,.bool true],none,[.cells true 1 (iZ cyc)]⟩ else none
    |none=>none
   |none=>none
  |none=>none
 |_,_=>none
theorem Qz:qS prog Nu:=by
 refine cB fun c S M r h=>?_
 unfold Nu at h;split at h
 .split at h
  .rename_i es X
   split at h
   .rename_i R O
    split at h
    .rename_i V U
     split at h
     .rename_i Z
      simp only[C0,Es] at Z;cases h;refine aC (yo M R V _ _ _ _ _ Z.2.1 Z.2.2 ?_ Z.1 U);rw[X,E1 O]
     .cases h
    .cases h
   .cases h
  .cases h
 .cases h
noncomputable def OS:y9:=y9.or Nu (ag aT)
theorem Nw:qS prog OS:=qS.or Qz cQ
end Go.Proofs
