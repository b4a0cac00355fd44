/- See G38. -/
import Derived.Test.YthpgbelancmpjaaGreatDoorG21
set_option linter.all false
set_option maxRecDepth 100000
set_option maxHeartbeats 40000000
namespace Go.Proofs
open Go.Eng
open Tryz
theorem MQ(a b c:P2)(ha:pDg 3000 a)(hb:pDg 3000 b)(hc:pDg 3000 c)(M:Mem):kO prog 179 [pA a,pA b,pA c] M (.str (aq (bD a b c))) M:=by
 have hG:aZ prog 179=some f179:=by kernel_rfl
 obtain⟨J,I⟩:=a;obtain⟨b1,b2⟩:=b;obtain⟨c1,c2⟩:=c;obtain⟨O,N⟩:=ha;obtain⟨L,K⟩:=hb;obtain⟨G,F⟩:=hc;simp only at O N L K G F;have C:=LC L O (m:=6000) (by omega) (by omega);have B:=LC F N (m:=6000) (by omega) (by omega);have u:=LC K N (m:=6000) (by omega) (by omega);have o:=LC G O (m:=6000) (by omega) (by omega);have H:=dp C B;have Y2:=dp u o;obtain⟨p1,p2⟩:=dC O (by omega) (by omega) (by omega) (by omega);obtain⟨p3,p4⟩:=dC N (by omega) (by omega) (by omega) (by omega);obtain⟨q1,q2⟩:=dC L (by omega) (by omega) (by omega) (by omega);obtain⟨q3,q4⟩:=dC K (by omega) (by omega) (by omega) (by omega);obtain⟨r1,r2⟩:=dC G (by omega) (by omega) (by omega) (by omega);obtain⟨r3,r4⟩:=dC F (by omega) (by omega) (by omega) (by omega);obtain⟨s1,s2⟩:=dC C (by omega) (by omega) (by omega) (by omega);obtain⟨s3,s4⟩:=dC B (by omega) (by omega) (by omega) (by omega);obtain⟨s5,s6⟩:=dC u (by omega) (by omega) (by omega) (by omega);obtain⟨s7,s8⟩:=dC o (by omega) (by omega) (by omega) (by omega);obtain⟨t1,t2⟩:=dC H (by omega) (by omega) (by omega) (by omega);obtain⟨t3,t4⟩:=dC Y2 (by omega) (by omega) (by omega) (by omega);clear H Y2 C B u o O N L K G F;unfold bD;simp only;obtain⟨x1,Z⟩:=xE (b1-J);obtain⟨x2,X⟩:=xE (c2-I);obtain⟨x3,V⟩:=xE (b2-I);obtain⟨x4,U⟩:=xE (c1-J);rw[<-Z] at s1 s2 t1 t2;rw[<-X] at s3 s4 t1 t2;rw[<-V] at s5 s6 t3 t4;rw[<-U] at s7 s8 t3 t4;rw[<-Z,<-X,<-V,<-U];obtain⟨y1,S⟩:=xE (x1*x2);obtain⟨y2,R⟩:=xE (x3*x4);rw[<-S] at t1 t2;rw[<-R] at t3 t4;rw[<-S,<-R];refine aA cU ?_ M;obtain⟨o1,o2,j⟩:∃o1 o2,aJ f179=[o1,o2]:=⟨_,_,rfl⟩
 obtain⟨Y,ZV⟩:=Cl j (l:=[0,1,0,4,15,0,32,0,128,511,1023,2047]) (l' :=[0,0,2,0,8,30,0,64,0,256,1022,2046,4095,8191]) (by kernel_rfl);have k1:fu [0,1,0,4,15,0,32,0,128,511,1023,2047] 11=true:=by decide
 have k2:fu [0,0,2,0,8,30,0,64,0,256,1022,2046,4095,8191] 13=true:=by decide
 simp[aJ,cB,f179] at j;obtain⟨rfl,rfl⟩:=j;simp[ae,hG,f179,-aR,aC Y,aC ZV,bV,bK,bQ,k1,k2,pA,aF,ah,bn,bH,p1,p2,p3,p4,q1,q2,q3,q4,r1,r2,r3,r4,s1,s2,s3,s4,s5,s6,s7,s8,t1,t2,t3,t4,<-Z,<-X,<-V,<-U,<-S,<-R,Nat.testBit]
noncomputable def Bx(f:FuncId)(args:List AV):Option AV:=
 match f,args with
 |179,[.agg [.str a,.str b],.agg [.str c,.str d],.agg [.str e,.str f]]=>match eh a,eh b,eh c,eh d,eh e,eh f with
  |some a,some b,some c,some d,some e,some f=>if (ai a.num.natAbs).length<=2999/\(ai a.den).length<=2999/\(ai b.num.natAbs).length<=2999/\(ai b.den).length<=2999/\(ai c.num.natAbs).length<=2999/\(ai c.den).length<=2999/\
    (ai d.num.natAbs).length<=2999/\(ai d.den).length<=2999/\(ai e.num.natAbs).length<=2999/\(ai e.den).length<=2999/\(ai f.num.natAbs).length<=2999/\(ai f.den).length<=2999 then some (.str (aq (bD (a,b) (c,d) (e,f)))) else none
  |_,_,_,_,_,_=>none
 |f,args=>bn f args
theorem NK:qS prog (ah Bx):=bM fun f U v h mem=>by
 unfold Bx at h;split at h
 .split at h
  .rename_i a b c d e f S R O N M L
   split at h
   .rename_i K
    obtain⟨G,F,C,B,u,o,m,j,Y,Z,X,V⟩:=K;cases h;rw[aw S,aw R,aw O,aw N,aw M,aw L];exact MQ (a,b) (c,d) (e,f) ⟨(dz ⟨G,F⟩).mono (by omega) (by omega),(dz ⟨C,B⟩).mono (by omega) (by omega)⟩
     ⟨(dz ⟨u,o⟩).mono (by omega) (by omega),(dz ⟨m,j⟩).mono (by omega) (by omega)⟩ ⟨(dz ⟨Y,Z⟩).mono (by omega) (by omega),(dz ⟨X,V⟩).mono (by omega) (by omega)⟩ mem
   .cases h
  .cases h
 .have:=cU.fn _ _ mem ⟨v,none,[]⟩ (by unfold ah;simp only;rw[h])
  simpa [afl.mem] using this
theorem gV{n m:Nat}{q:Rat}(h:dg n n q)(h0:0<n)(H:n<=m):(ai q.num.natAbs).length<=m/\(ai q.den).length<=m:=by have:=h.lens h0 h0;exact⟨by omega,by omega⟩
theorem MS(a b c:P2)(H:pDg 2999 a)(I:pDg 2999 b)(hc:pDg 2999 c)(M:Mem):kO prog 99 [pA a,pA b,pA c] M (.int .i64 (ga (bD a b c))) M:=by
 have F:aZ prog 99=some f99:=by kernel_rfl
 obtain⟨C,B⟩:=a;obtain⟨u,o⟩:=b;obtain⟨m,j⟩:=c;obtain⟨Z,X⟩:=gV H.1 (by omega) (L9 _);obtain⟨V,U⟩:=gV H.2 (by omega) (L9 _);obtain⟨S,R⟩:=gV I.1 (by omega) (L9 _);obtain⟨O,N⟩:=gV I.2 (by omega) (L9 _);obtain⟨r1,r2⟩:=gV hc.1 (by omega) (L9 _);obtain⟨L,K⟩:=gV hc.2 (by omega) (L9 _);refine aA NK ?_ M;simp only at Z X V U S R O N r1 r2 L K;obtain⟨y,G⟩:=xE (bD (C,B) (u,o) (m,j));rw[<-G];simp[ae,F,f99,pA,aF,ah,Bx,bn,bH,bO,bG,Z,X,V,U,S,R,O,N,r1,r2,L,K,<-G]
theorem ly(d:Nat)(x y:List UInt8):lg (aX prog) (d+1) 52 (.str x) (.str y)=some (x==y):=by rw[lg];simp
theorem Sh(p q:P2):lg (aX prog) 20 79 (pA p) (pA q)=some (decide (p.1=q.1)&&decide (p.2=q.2)):=by have i:=ly 18;rw[lg];simp[pA,R3,jU,TyI.isAgg,i,He]
theorem Ex(p:P2):∀(L:List P2) (i:Nat),p∉L->ke (aX prog) 79 (pA p) (L.map pmE) i=some none
 | [],i,_=>rfl
 |q::L,i,h=>by
  have e:=Sh p q;have X:(decide (p.1=q.1)&&decide (p.2=q.2))=false:=by rw[<-Bool.not_eq_true];intro Z;simp only[Es,GE] at Z;exact h (by rw[show p=q from Prod.ext Z.1 Z.2];exact List.mem_cons_self ..)
  simp only[List.map_cons,ke,pmE,e,X];exact Ex p L (i+1) (fun Z=>h (List.mem_cons_of_mem _ Z))
theorem Si(p:P2):mA (aX prog) 20 79 (pA p)=true:=by simp[pA,mA,TG,jU,TyI.isAgg]
noncomputable def ic(f:FuncId)(args:List AV):Option AV:=
 match f,args with
 |99,[.agg [.str a,.str b],.agg [.str c,.str d],.agg [.str e,.str f]]=>match eh a,eh b,eh c,eh d,eh e,eh f with
  |some a,some b,some c,some d,some e,some f=>if (ai a.num.natAbs).length<=2998/\(ai a.den).length<=2998/\(ai b.num.natAbs).length<=2998/\(ai b.den).length<=2998/\(ai c.num.natAbs).length<=2998/\(ai c.den).length<=2998/\
    (ai d.num.natAbs).length<=2998/\(ai d.den).length<=2998/\(ai e.num.natAbs).length<=2998/\(ai e.den).length<=2998/\(ai f.num.natAbs).length<=2998/\(ai f.den).length<=2998 then some (.int .i64 (ga (bD (a,b) (c,d) (e,f)))) else none
  |_,_,_,_,_,_=>none
 |47,[.agg [.str a,.str b]]=>if a.length<=1000000000/\b.length<=1000000000 then some (.int .i64 (vo [a,b])) else none
 |f,args=>bn f args
theorem Bw:qS prog (ah ic):=bM fun f S v h mem=>by
 unfold ic at h;split at h
 .split at h
  .rename_i a b c d e f R O Z N M L
   split at h
   .rename_i K
    obtain⟨G,F,C,B,u,o,m,j,Y,X,V,U⟩:=K;cases h;rw[aw R,aw O,aw Z,aw N,aw M,aw L];exact MS (a,b) (c,d) (e,f) ⟨(dz ⟨G,F⟩).mono (by omega) (by omega),(dz ⟨C,B⟩).mono (by omega) (by omega)⟩
     ⟨(dz ⟨u,o⟩).mono (by omega) (by omega),(dz ⟨m,j⟩).mono (by omega) (by omega)⟩ ⟨(dz ⟨Y,X⟩).mono (by omega) (by omega),(dz ⟨V,U⟩).mono (by omega) (by omega)⟩ mem
   .cases h
  .cases h
 .split at h
  next Z=>cases h;exact iv _ _ Z.1 Z.2 mem
  .cases h
 .have:=cU.fn _ _ mem ⟨v,none,[]⟩ (by unfold ah;simp only;rw[h])
  simpa [afl.mem] using this
theorem Yn{p:P2}(h:pDg 200 p):vo [aq p.1,aq p.2]=0:=by simp[vo,gB h.1,gB h.2]
noncomputable def pj(H:List P2)(I:List Tr):y9:=fun c Z M=>match c,Z with
 |.fn 100,[.agg [.slice b 0 n none,.slice c 0 k none]]=>open Classical in if n=H.length/\k=I.length/\(∃o,M[b]? =some (.cells o 2 (pC H)))/\(∃o,M[c]? =some (.cells o 3 (tC I))) then some ⟨.bool true,none,[]⟩ else none
 |c,Z=>ah ic c Z M
def v8(c:Code):List Nat:=if (aa c).contains 32 then [32] else if (aa c).contains 48 then [48] else if (aa c).contains 53 then [53] else []
def msB(n k:Nat):afq:=.cells true 0 [.slice 0 0 n none,.slice 1 0 k none]
variable{K:Nat}{b b3 b4 b5:Code}
theorem xM(H:List P2)(I:List Tr)(hP:∀p∈H,pDg 200 p)(hn:H.Nodup)(hl:H.length<=1000000000)(hK:H.length<K){b2:Code}(J:ag f46=[b,b2,b3,b4,b5]):
  ∃F:Env->Bool->Env,∀Z d,(ad Z 30=.slice 0 0 H.length none/\ad Z 31=.int .i64 H.length/\ad Z 32=.int .i64 0/\ad Z 3=.map 3/\ad Z 1=.ptr 2 0)->
   aL (aX prog) v8 (pj H I) K 105 2 true (.loop b) ⟨Z,[.cells false 2 (pC H),.cells false 3 (tC I),msB H.length I.length,.map []],d⟩=some (.exit 1,⟨F Z d,[.cells false 2 (pC H),.cells false 3 (tC I),msB H.length I.length,.map (H.map pmE)],d⟩)/\ad (F Z d) 1=.ptr 2 0:=by
 refine bj (L:=[32]) (by simp[ag,aE,f46] at J;rw[<-J.1];rfl) (fun Z=>ad Z 30=.slice 0 0 H.length none/\ad Z 31=.int .i64 H.length/\ad Z 32=.int .i64 0/\ad Z 3=.map 3/\ad Z 1=.ptr 2 0) (fun _ D' =>ad D' 1=.ptr 2 0) ?_;rintro Z d ⟨h30,h31,h32,h3,V⟩;simp[ag,aE,f46] at J;obtain⟨J,-⟩:=J;have M:an [32] (aa b) Z ((32,.int .i64 ((0:Nat):Int))::Z)=an [32] (aa b) Z Z:=by simp[an,h32]
 rw[<-M];refine bI (α:=Nat) (fun n=>⟨an [32] (aa b) Z ((32,.int .i64 (n:Int))::Z),[.cells false 2 (pC H),.cells false 3 (tC I),msB H.length I.length,.map ((H.take n).map pmE)],d⟩) (fun n=>H.length-n) (fun n=>n<=H.length) (.exit 1) _ d _ (by simp) ?_ K 0 (by omega) (by omega);intro n hn1;clear M;subst J;by_cases R:n<H.length
 .left
  obtain⟨p,U⟩:∃q,H[n]? =some q:=⟨H[n],G2 R⟩
  obtain⟨G,k2,k3,k4⟩:=vu U;have X:=hP p (J1 U);have O:p∉H.take n:=by intro N;obtain⟨j,hj,C⟩:=List.mem_iff_getElem.1 N;rw[SP] at hj;rw[List.getElem_take] at C;have V:=O2.1 U;obtain⟨V,h2⟩:=V;have:=(List.getElem_inj (h₀:=by omega) (h₁:=V) hn).1 (C.trans h2.symm);omega
  have f1:=Ex p (H.take n) 0 O;have f2:=Si p;have S:(H.take (n+1)).map pmE=(H.take n).map pmE++[pmE p]:=by rw[List.take_add_one,U];simp
  have w1:IntKind.i64.wrap ((n:Int)+1)=((n+1:Nat):Int):=by rw[af];omega
  have B:=Yn X;have u:=jW X.1 (by omega) (by omega);have o:=jW X.2 (by omega) (by omega);obtain⟨m,N⟩:=xE (n+1);rw[<-N] at w1 S;have r1:=Hj 4 (H.take n);obtain⟨E,Y⟩:=xE ((H.take n).map pmE);rw[<-Y] at f1 S r1;rw[<-Y];refine⟨m,?_⟩;obtain⟨px,py⟩:=p;simp only[pA,pmE] at f1 f2 S G B u o;simp[h30,h31,h3,R,pj,ah,ic,G,k4,B,u,o,w1,f1,f2,S,r1,msB,vv,sH,lP,ky,fP];omega
 .right
  have e:H.take n=H:=B5 (by omega);rw[e];have Zt :¬(n:Int)<H.length:=by omega
  simp[h31,V,R]
def Y6(H:List P2)(t:Tr):Prop:=∃p q r,H[t.1]? =some p/\H[t.2.1]? =some q/\H[t.2.2]? =some r/\0<ga (bD p q r)
variable{b1:Code}
theorem xN(I:List P2)(H:List Tr)(E:List (AV×AV))(Y:∀p∈I,pDg 200 p)(hT:∀t∈H,Y6 I t)(hl:I.length<=1000000000)(ZB:H.length<=1000000000)(hE:E.flatMap (fun e=>e.1.refs 4++e.2.refs 4)=[])(hK:H.length<K+5)(J:ag f46=[b1,b,b3,b4,b5]):
  ∃F:Env->Bool->Env,∀Z d,(ad Z 1=.ptr 2 0/\ad Z 46=.slice 1 0 H.length none/\ad Z 47=.int .i64 H.length/\ad Z 48=.int .i64 0)->
   aL (aX prog) v8 (pj I H) (K+5) 105 2 true (.loop b) ⟨Z,[.cells false 2 (pC I),.cells false 3 (tC H),msB I.length H.length,.map E],d⟩=some (.exit 3,⟨F Z d,[.cells false 2 (pC I),.cells false 3 (tC H),msB I.length H.length,.map E],d⟩)/\ad (F Z d) 1=.ptr 2 0:=by
 refine bj (L:=[48]) (by simp[ag,aE,f46] at J;rw[<-J.2.1];rfl) (fun Z=>ad Z 1=.ptr 2 0/\ad Z 46=.slice 1 0 H.length none/\ad Z 47=.int .i64 H.length/\ad Z 48=.int .i64 0) (fun _ D' =>ad D' 1=.ptr 2 0) ?_;rintro Z d ⟨h1,h46,h47,h48⟩;obtain⟨X,N⟩:∃X,aJ f46=[X]:=⟨_,rfl⟩
 obtain⟨X',Z2⟩:=eU N (l:=[0,1,0,4,15,31,0,64,0,256,960,1984,0,4096,0,16384,61440,126976,262143,524287]) (j:=19) (by kernel_rfl) (by decide);simp[aJ,cB,f46] at N;simp[ag,aE,f46] at J;obtain⟨-,J,-⟩:=J;have ZI:an [48] (aa b) Z ((48,.int .i64 ((0:Nat):Int))::Z)=an [48] (aa b) Z Z:=by simp[an,h48]
 rw[<-ZI];refine bI (α:=Nat) (fun n=>⟨an [48] (aa b) Z ((48,.int .i64 (n:Int))::Z),[.cells false 2 (pC I),.cells false 3 (tC H),msB I.length H.length,.map E],d⟩) (fun n=>H.length-n) (fun n=>n<=H.length) (.exit 3) _ d _ (by simp) ?_ (K+5) 0 (by omega) (by omega);intro n hn1;clear ZI;subst J;subst N;by_cases M:n<H.length
 .left
  obtain⟨t,ht⟩:∃q,H[n]? =some q:=⟨H[n],G2 M⟩
  obtain⟨k1,k2⟩:=Mx ht;obtain⟨p,q,r,U,R,O,V⟩:=hT t (J1 ht);obtain⟨G,C,B⟩:=t;simp only at U R O k1;obtain⟨p1,-,-,p4⟩:=vu U;obtain⟨q1,-,-,q4⟩:=vu R;obtain⟨r1,-,-,r4⟩:=vu O;have a1:=gL U;have a2:=gL R;have a3:=gL O;have u :¬((G:Int)<0):=by omega
  have o :¬((C:Int)<0):=by omega
  have a3' :¬((B:Int)<0):=by omega
  have aeC :¬((I.length:Int)<=G):=by omega
  have aeD :¬((I.length:Int)<=C):=by omega
  have aeE :¬((I.length:Int)<=B):=by omega
  have g1:¬I.length<=G:=by omega
  have g2:¬I.length<=C:=by omega
  have g3:¬I.length<=B:=by omega
  have hp:=Y p (J1 U);have hq:=Y q (J1 R);have hr:=Y r (J1 O);obtain⟨p5,p6⟩:=gV hp.1 (by omega) (m:=2998) (by omega);obtain⟨p7,p8⟩:=gV hp.2 (by omega) (m:=2998) (by omega);obtain⟨q5,q6⟩:=gV hq.1 (by omega) (m:=2998) (by omega);obtain⟨q7,q8⟩:=gV hq.2 (by omega) (m:=2998) (by omega);obtain⟨r5,r6⟩:=gV hr.1 (by omega) (m:=2998) (by omega);obtain⟨r7,r8⟩:=gV hr.2 (by omega) (m:=2998) (by omega);obtain⟨px,py⟩:=p;obtain⟨qx,qy⟩:=q;obtain⟨rx,ry⟩:=r;simp only at p1 q1 r1 p5 p6 p7 p8 q5 q6 q7 q8 r5 r6 r7 r8;obtain⟨S,hS⟩:=xE (ga (bD (px,py) (qx,qy) (rx,ry)));rw[<-hS] at V;have aaf:¬S<=0:=by omega
  have w1:IntKind.i64.wrap ((n:Int)+1)=((n+1:Nat):Int):=by rw[af];omega
  obtain⟨m,hm⟩:=xE (n+1);rw[<-hm] at w1;have v1:IntKind.i64.wrap 1=1:=rfl;have v2:IntKind.i64.wrap 2=2:=rfl;have v3:IntKind.i64.wrap 3=3:=rfl;have v2' :IntKind.i64.wrap (1+1)=2:=rfl;have v3' :IntKind.i64.wrap (2+1)=3:=rfl;refine⟨m,?_⟩;clear Y hT;simp[h1,h46,h47,M,k1,k2,aM,fj,v1,v2,v3,v8,a1,a2,a3,u,o,a3',aeC,aeD,aeE,p1,q1,r1,p4,q4,r4,-aR,aC X',bV,bK,bQ,Z2,
   pj,ah,ic,aF,p5,p6,p7,p8,q5,q6,q7,q8,r5,r6,r7,r8,<-hS,aaf,hE,msB,vv,sH,w1,Nat.testBit]
  omega
 .right
  have Zt :¬(n:Int)<H.length:=by omega
  simp[h47,h1,M]
theorem Vx:aX prog 286=some ⟨.func #[3] #[79] false,1,8,.nilFunc,true⟩:=by kernel_rfl
theorem Vw:aX prog 203=some ⟨.func #[3] #[4] false,1,8,.nilFunc,true⟩:=by kernel_rfl
attribute [simp] Vx Vw
def cZ(H:List Nat):List AV:=H.map fun(n:Nat)=>.int .i64 (n:Int)
theorem YR{H:List Nat}{i c:Nat}(h:H[i]? =some c):(cZ H)[i]? =some (.int .i64 (c:Int)):=by simp[cZ,h]
def CU(I:List P2)(H:List Nat)(i:Nat):P2:=I.getD (H.getD (i%H.length) 0) (0,0)
theorem CV{I:List P2}(J:∀p∈I,pDg 200 p)(H:List Nat)(i:Nat):pDg 200 (CU I H i):=by
 unfold CU;rw[List.getD_eq_getElem?_getD];cases h:I[H.getD (i%H.length) 0]? with
 |none=>exact⟨⟨by decide,by decide⟩,⟨by decide,by decide⟩⟩
 |some p=>exact J p (J1 h)
def upV(I:List P2)(H:List Nat)(i:Nat):Bool:=
 decide (0<AL (CU I H (i+1)).2 (CU I H i).2)||(decide (AL (CU I H (i+1)).2 (CU I H i).2=0)&&decide (0<AL (CU I H (i+1)).1 (CU I H i).1))
def mj(I:List P2)(H:List Nat):Nat->Nat
 |0=>0
 |n+1=>mj I H n+if !upV I H n&&upV I H (n+1) then 1 else 0
def fK(I:List P2)(k:Nat)(H:List Nat):Mem:=[.cells false 2 (pC I),.qK,.cells false 1 (cZ H),.cells true 0 [.slice 0 0 I.length none,.slice 1 0 k none],.cells true 0 [.slice 2 0 H.length none],.cells true 0 [.int .i64 H.length],.cells true 0 [.func 239 [.ptr 3 0,.ptr 4 0,.ptr 5 0]]]
theorem MU(I:List P2)(k:Nat)(H:List Nat)(hc:∀c∈H,c<I.length)(h0:H≠[])(i:Nat):
  kO prog 239 [.int .i64 i,.ptr 3 0,.ptr 4 0,.ptr 5 0] (fK I k H) (pA (CU I H i)) (fK I k H):=by
 have C:aZ prog 239=some f239:=by kernel_rfl
 have B:0<H.length:=by cases H with | nil=>exact absurd rfl h0 | cons a l=>simp
 have U:i%H.length<H.length:=Nat.mod_lt _ B;obtain⟨c,Z⟩:∃c,H[i%H.length]? =some c:=⟨_,G2 U⟩
 have X:=hc c (J1 Z);obtain⟨p,M⟩:∃p,I[c]? =some p:=⟨_,G2 X⟩
 have S:CU I H i=p:=by unfold CU;rw[List.getD_eq_getElem?_getD,List.getD_eq_getElem?_getD,Z];simp[M]
 rw[S];obtain⟨L,-,-,u⟩:=vu M;have G:=YR Z;have F:(i:Int).tmod (H.length:Int)=((i%H.length:Nat):Int):=xj i H.length;have hz:¬((H.length:Int)=0):=by omega
 have R:¬H.length=0:=by omega
 obtain⟨j,O⟩:=xE (i%H.length);rw[<-O] at F U G Z;obtain⟨V,N⟩:∃V,aJ f239=[V]:=⟨_,rfl⟩
 obtain⟨o,m⟩:=eU N (l:=[0,1,0,0,0,24,60,124,255,511,1023]) (j:=10) (by kernel_rfl) (by decide);simp[aJ,cB,f239] at N;subst N;obtain⟨Y,J⟩:=p;simp only at L;have h:ae (aX prog) (fun _=>[]) (aZ prog) cO 1 239 [.int .i64 i,.ptr 3 0,.ptr 4 0,.ptr 5 0] (fK I k H)=some ⟨pA (Y,J),none,[]⟩:=by simp[ae,C,f239,fK,-aR,aC o,bV,bK,bQ,m,F,R,U,G,L,u,X,pA]
 have:=(aB aj (aI _) (az _) (aQ _) h).1;simpa [afl.mem] using this
noncomputable def lr(I:List P2)(k:Nat)(H:List Nat):y9:=fun c Z M=>match c,Z with
 |.fn 239,[.int .i64 i,.ptr 3 0,.ptr 4 0,.ptr 5 0]=>open Classical in if 0<=i/\M=fK I k H then some ⟨pA (CU I H i.toNat),none,[]⟩ else none
 |c,Z=>ah ic c Z M
theorem Bz(I:List P2)(k:Nat)(H:List Nat)(hc:∀c∈H,c<I.length)(h0:H≠[]):qS prog (lr I k H):=by
 refine cw fun c Z M r h=>?_
 unfold lr at h;split at h
 .rename_i i
  split at h
  .rename_i X
   cases h;obtain⟨V,rfl⟩:=X;refine au ?_;rw[List.append_nil];have:=MU I k H hc h0 i.toNat
   rw[QQi V] at this;exact this
  .cases h
 .exact ee Bw h
theorem MV(I:List P2)(k:Nat)(H:List Nat)(hP:∀p∈I,pDg 200 p)(hc:∀c∈H,c<I.length)(h0:H≠[])(i:Nat)(hi:i<=1000000000):
  kO prog 240 [.int .i64 i,.ptr 6 0] (fK I k H) (.bool (upV I H i)) (fK I k H):=by
 have L:aZ prog 240=some f240:=by kernel_rfl
 have J:=CV hP H i;have hq:=CV hP H (i+1);unfold upV;obtain⟨p,Z⟩:=xE (CU I H i);obtain⟨q,X⟩:=xE (CU I H (i+1));rw[<-Z] at J |-;rw[<-X] at hq |-;have w1:IntKind.i64.wrap ((i:Int)+1)=((i+1:Nat):Int):=by rw[af];omega
 have G:(0:Int)<=(i:Int)+1:=by omega
 have F:((i:Int)+1).toNat=i+1:=by omega
 obtain⟨p1,p2⟩:=dC J.1 (by omega) (by omega) (by omega) (by omega);obtain⟨R,O⟩:=dC J.2 (by omega) (by omega) (by omega) (by omega);obtain⟨q1,q2⟩:=dC hq.1 (by omega) (by omega) (by omega) (by omega);obtain⟨N,M⟩:=dC hq.2 (by omega) (by omega) (by omega) (by omega);obtain⟨px,C⟩:=p;obtain⟨qx,B⟩:=q;simp only at p1 p2 R O q1 q2 N M |-;obtain⟨o1,o2,F'⟩:∃o1 o2,aJ f240=[o1,o2]:=⟨_,_,rfl⟩
 obtain⟨V,u⟩:=Cl F' (l:=[0,0,2,7,15,0,0,111,239,511,1023]) (l' :=[0,1,3,7,15,31,63,63,191,511,1023,63,63,7167,15359,32767,65535,131071,262143,524287]) (by kernel_rfl);have o:fu [0,0,2,7,15,0,0,111,239,511,1023] 10=true:=by decide
 have m:fu [0,1,3,7,15,31,63,63,191,511,1023,63,63,7167,15359,32767,65535,131071,262143,524287] 19=true:=by decide
 simp[aJ,cB,f240] at F';obtain⟨rfl,rfl⟩:=F';have key:∀b:Bool,(decide (0<AL B C)||(decide (AL B C=0)&&decide (0<AL qx px)))=b->ae (aX prog) (fun _=>[]) (aZ prog) (lr I k H) 1 240 [.int .i64 i,.ptr 6 0] (fK I k H)=some ⟨.bool b,none,[]⟩:=by
  intro b U;by_cases j:0<AL B C
  .simp only[j,decide_true,Bool.true_or] at U
   subst U;simp[ae,L,f240,fK,lr,-aR,aC V,aC u,bV,bK,bQ,o,m,w1,G,F,<-Z,<-X,pA,ah,ic,bn,bH,aF,R,O,N,M,j,Nat.testBit]
  .by_cases S:AL B C=0
   .by_cases Y:0<AL qx px
    .simp[S,Y] at U
     subst U;simp[ae,L,f240,fK,lr,-aR,aC V,aC u,bV,bK,bQ,o,m,w1,G,F,<-Z,<-X,pA,ah,ic,bn,bH,aF,p1,p2,R,O,q1,q2,N,M,S,Y,Nat.testBit]
    .simp[S,Y] at U
     subst U;simp[ae,L,f240,fK,lr,-aR,aC V,aC u,bV,bK,bQ,o,m,w1,G,F,<-Z,<-X,pA,ah,ic,bn,bH,aF,p1,p2,R,O,q1,q2,N,M,S,Y,Nat.testBit]
   .simp[j,S] at U
    subst U;simp[ae,L,f240,fK,lr,-aR,aC V,aC u,bV,bK,bQ,o,m,w1,G,F,<-Z,<-X,pA,ah,ic,bn,bH,aF,R,O,N,M,j,S,Nat.testBit]
 have:=(aB aj (aI _) (Bz I k H hc h0) (aQ _) (key _ rfl)).1;simpa [afl.mem] using this
noncomputable def we(I:List P2)(k:Nat)(H:List Nat):y9:=fun c Z M=>match c,Z with
 |.fn 240,[.int .i64 i,.ptr 6 0]=>open Classical in if 0<=i/\i<=1000000000/\M=fK I k H then some ⟨.bool (upV I H i.toNat),none,[]⟩ else none
 |c,Z=>lr I k H c Z M
theorem Ks(I:List P2)(k:Nat)(H:List Nat)(J:∀p∈I,pDg 200 p)(hc:∀c∈H,c<I.length)(h0:H≠[]):qS prog (we I k H):=by
 refine cw fun c Z M r h=>?_
 unfold we at h;split at h
 .rename_i i
  split at h
  .rename_i X
   cases h;obtain⟨V,U,rfl⟩:=X;refine au ?_;rw[List.append_nil];have:=MV I k H J hc h0 i.toNat (by omega);rw[QQi V] at this;exact this
  .cases h
 .exact ee (Bz I k H hc h0) h
def TW(I:List P2)(H:List Nat):Prop:=
 H≠[]/\(∀c∈H,c<I.length)/\(∀i,i<H.length->0<=ga (bD (CU I H i) (CU I H (i+1)) (CU I H (i+2))))/\mj I H H.length=1
theorem Fb(I:List P2)(H:List Nat):∀n,mj I H n<=n
 |0=>L9 _
 |n+1=>by have:=Fb I H n;unfold mj;split<;>omega
section
variable (PS:List P2)(k:Nat)(cyc:List Nat)(hP:∀p∈PS,pDg 200 p)(ho:TW PS cyc)(hl:cyc.length<=1000000)
include PS k cyc hP ho hl
theorem DS(hK:cyc.length<K)(hb:ag f182=[b]):
  ∃F:Env->Bool->Env,∀Z d,(ad Z 6=.ptr 6 0/\ad Z 7=.func 240 [.ptr 6 0]/\ad Z 8=.int .i64 0/\ad Z 14=.int .i64 cyc.length/\ad Z 15=.int .i64 0)->
   aL (aX prog) (fun _=>[8,15]) (we PS k cyc) K 46 3 true (.loop b) ⟨Z,fK PS k cyc,d⟩=some (.exit 0,⟨F Z d,fK PS k cyc,d⟩)/\ad (F Z d) 8=.int .i64 1:=by
 refine bj rfl (fun Z=>ad Z 6=.ptr 6 0/\ad Z 7=.func 240 [.ptr 6 0]/\ad Z 8=.int .i64 0/\ad Z 14=.int .i64 cyc.length/\ad Z 15=.int .i64 0) (fun _ D' =>ad D' 8=.int .i64 1) ?_;rintro Z d ⟨h6,h7,h8,h14,h15⟩;obtain⟨-,-,C,B⟩:=ho;obtain⟨M,u⟩:∃M,aJ f182=[M]:=⟨_,rfl⟩
 obtain⟨X',Z2⟩:=eU u (l:=[0,0,3,0,0,16,63,0,0,256,1023,2047,4095]) (j:=12) (by kernel_rfl) (by decide);simp[aJ,cB,f182] at u;simp[ag,aE,f182] at hb;have ZI:an [8,15] (aa b) Z ((8,.int .i64 ((mj PS cyc 0:Nat):Int))::(15,.int .i64 ((0:Nat):Int))::Z)=an [8,15] (aa b) Z Z:=by simp[an,h8,h15,mj]
 rw[<-ZI];refine bI (α:=Nat) (fun n=>⟨an [8,15] (aa b) Z ((8,.int .i64 ((mj PS cyc n:Nat):Int))::(15,.int .i64 (n:Int))::Z),fK PS k cyc,d⟩) (fun n=>cyc.length-n) (fun n=>n<=cyc.length) (.exit 0) _ d _ (by simp) ?_ K 0 (by omega) (by omega);intro n hn1;clear ZI;subst hb;subst u;by_cases FS:n<cyc.length
 .left
  have h3:=C n FS;have o:=CV hP cyc n;have Y:=CV hP cyc (n+1);have J:=CV hP cyc (n+2);obtain⟨p,N⟩:=xE (CU PS cyc n);obtain⟨q,X⟩:=xE (CU PS cyc (n+1));obtain⟨r,O⟩:=xE (CU PS cyc (n+2));rw[<-N,<-X,<-O] at h3;rw[<-N] at o;rw[<-X] at Y;rw[<-O] at J;obtain⟨p5,p6⟩:=gV o.1 (by omega) (m:=2998) (by omega);obtain⟨p7,p8⟩:=gV o.2 (by omega) (m:=2998) (by omega);obtain⟨q5,q6⟩:=gV Y.1 (by omega) (m:=2998) (by omega);obtain⟨q7,q8⟩:=gV Y.2 (by omega) (m:=2998) (by omega);obtain⟨r5,r6⟩:=gV J.1 (by omega) (m:=2998) (by omega);obtain⟨r7,r8⟩:=gV J.2 (by omega) (m:=2998) (by omega);obtain⟨px,py⟩:=p;obtain⟨qx,qy⟩:=q;obtain⟨rx,ry⟩:=r;simp only at p5 p6 p7 p8 q5 q6 q7 q8 r5 r6 r7 r8;obtain⟨S,hS⟩:=xE (ga (bD (px,py) (qx,qy) (rx,ry)));rw[<-hS] at h3;have I:¬S<0:=by omega
  obtain⟨G,ZA⟩:=xE (n+1);obtain⟨m2,H⟩:=xE (n+2);have w1:IntKind.i64.wrap ((n:Int)+1)=(G:Int):=by rw[af];omega
  have w2:IntKind.i64.wrap ((n:Int)+2)=(m2:Int):=by rw[af];omega
  have s5:(n:Int)<=1000000000:=by omega
  have s6:(G:Int)<=1000000000:=by omega
  have s7:n<=1000000000:=by omega
  have s8:G<=1000000000:=by omega
  have ZJ:=Fb PS cyc n;have L:mj PS cyc (n+1)=mj PS cyc n+if !upV PS cyc n&&upV PS cyc (n+1) then 1 else 0:=rfl
  obtain⟨R,hRe⟩:=xE (mj PS cyc n);rw[<-hRe] at L ZJ |-;have w3:IntKind.i64.wrap ((R:Int)+1)=((R+1:Nat):Int):=by rw[af];omega
  obtain⟨U,hU⟩:=xE (upV PS cyc n);obtain⟨V,hV⟩:=xE (upV PS cyc (n+1));rw[<-hU,<-hV] at L;rw[<-ZA] at L hV X;rw[<-H] at O;refine⟨G,?_⟩;cases U<;>cases V;all_goals
   simp at L;simp[fK,h6,h7,h14,FS,we,lr,-aR,aC X',bV,bK,bQ,Z2,w1,w2,w3,s5,s6,<-N,<-X,<-O,<-hU,<-hV,pA,ah,ic,aF,p5,p6,p7,p8,q5,q6,q7,q8,r5,r6,r7,r8,<-hS,I,L,Nat.testBit];omega
 .right
  have e:n=cyc.length:=by omega
  subst e;have Zt :¬(cyc.length:Int)<cyc.length:=by omega
  simp[h14,B]
theorem MR:
  kO prog 182 [.agg [.slice 0 0 PS.length none,.slice 1 0 k none],.slice 2 0 cyc.length none] [.cells false 2 (pC PS),.qK,.cells false 1 (cZ cyc)] (.bool true) [.cells false 2 (pC PS),.qK,.cells false 1 (cZ cyc)]:=by
 have S:aZ prog 182=some f182:=by kernel_rfl
 obtain⟨b,Z⟩:∃b,ag f182=[b]:=⟨_,rfl⟩
 obtain⟨F,X⟩:=DS (K:=cyc.length+1) PS k cyc hP ho hl (by omega) Z;simp[ag,aE,f182] at Z;subst Z;have U:=fun V d h=>(X V d h).1
 have R:=fun V d h=>(X V d h).2
 clear X;simp only[fK] at U;refine dv (lv:=(fun _=>[8,15])) (K:=(cyc.length+1)) (Ks PS k cyc hP ho.2.1 ho.1) ?_;simp[ae,S,f182,U,R]
end
theorem xD(a:Int):∀(N:List (Int×Int)) (i:Nat),(qu N a=none->ke (aX prog) 3 (.int .i64 a) (N.map nxE) i=some none)/\∀b,qu N a=some b->∃q,ke (aX prog) 3 (.int .i64 a) (N.map nxE) i=some (some (q,.int .i64 b))
 | [],i=>⟨fun _=>rfl,fun b h=>by cases h⟩
 |p::N,i=>by
  have e:lg (aX prog) 20 3 (.int .i64 a) (.int .i64 p.1)=some (decide (a=p.1)):=by simp[lg]
  simp only[List.map_cons,ke,nxE,e,qu];have Z:=xD a N (i+1);by_cases h:a=p.1
  .simp only[h,decide_true,if_true]
   exact⟨fun h=>(by cases h),fun b X=>⟨i,(by cases X;rfl)⟩⟩
  .simp only[h,decide_false,if_false]
   exact Z
theorem UL(d:Nat)(x y:Int):lg (aX prog) (d+1) 3 (.int .i64 x) (.int .i64 y)=some (decide (x=y)):=by rw[lg];simp
theorem UM(a b c d:Int):lg (aX prog) 20 115 (.agg [.int .i64 a,.int .i64 b]) (.agg [.int .i64 c,.int .i64 d])=some (decide (a=c)&&decide (b=d)):=by have r:List.range' 0 2=[0,1]:=rfl;have i:=UL 18;rw[lg];simp only[KT,GC,r,Wq];simp[jU,TyI.isAgg,i]
theorem xF(a:Int×Int):∀(N:List Sd) (i:Nat),(Ry N a=none->ke (aX prog) 115 (.agg [.int .i64 a.1,.int .i64 a.2]) (N.map sdE) i=some none)/\∀b,Ry N a=some b->∃q,ke (aX prog) 115 (.agg [.int .i64 a.1,.int .i64 a.2]) (N.map sdE) i=some (some (q,.int .i64 b))
 | [],i=>⟨fun _=>rfl,fun b h=>by cases h⟩
 |p::N,i=>by
  have e:=UM a.1 a.2 p.1.1 p.1.2;simp only[List.map_cons,ke,sdE,e,Ry];have Z:=xF a N (i+1);by_cases h:a.1=p.1.1/\a.2=p.1.2
  .rw[if_pos h]
   simp only[h.1,h.2,decide_true,Bool.and_true];exact⟨fun h=>(by cases h),fun b X=>⟨i,(by cases X;rfl)⟩⟩
  .rw[if_neg h]
   have V:(decide (a.1=p.1.1)&&decide (a.2=p.1.2))=false:=by rw[<-Bool.not_eq_true];simpa using h
   rw[V];exact Z
def ouO(l:List Int):AV:=match l with
 | []=>.qF
 |_=>.slice 6 0 l.length none
def ouM(M0:Mem)(l:List Int):Mem:=match l with
 | []=>M0
 |_=>M0++[.cells true 1 (iZ l)]
theorem zB(n:Nat):∀N:List (Int×Int),(N.map nxE).flatMap (fun e=>e.1.refs n++e.2.refs n)=[]
 | []=>rfl
 |p::N=>by simp[nxE,AV.refs,zB n N]
theorem sw(n:Nat):∀N:List Sd,(N.map sdE).flatMap (fun e=>e.1.refs n++e.2.refs n)=[]
 | []=>rfl
 |p::N=>by simp[sdE,AV.refs,AV.afE,sw n N]
theorem mV(n:Nat)(N:List (Int×Int)):afq.refs n (.map (N.map nxE))=[]:=zB n N
theorem mW(n:Nat)(N:List Sd):afq.refs n (.afX (N.map sdE))=[]:=sw n N
theorem yx(n:Nat)(o:Bool)(e:Nat)(cs:List AV):afq.refs n (.cells o e cs)=AV.afE n cs:=rfl
theorem Da(f:Nat->Option Nat)(o:Bool)(e:Nat)(cs:List AV):afq.ren f (.cells o e cs)=.cells o e (AV.afI f cs):=rfl
theorem vw(n:Nat):afq.refs n .qK=[]:=rfl
theorem BB(ks:List Sd)(N:List (Int×Int))(first:Int)(H:List Int)(Y n2:Nat)(hc:xo N first N.length first []=some H)(hN:N≠[])(hl:N.length<=1000000)(hK:N.length<K)(I:ag f181=[b1,b])(M0:Mem)(J:M0=[.afX (ks.map sdE),.qK,.qK,.cells true 0 [.slice 1 0 Y none,.slice 2 0 n2 none],.map (N.map nxE),.qK]):
  ∃F:Env->Bool->Env,∀X d,(ad X 6=.map 4/\ad X 7=.int .i64 first/\ad X 13=.qF/\ad X 14=.int .i64 first)->
   aL (aX prog) (fun _=>[13,14]) cO K 93 3 true (.loop b) ⟨X,M0,d⟩=some (.exit 2,⟨F X d,M0++[.cells true 1 (iZ H)],d⟩)/\ad (F X d) 13=.slice 6 0 H.length none:=by
 refine bj rfl (fun X=>ad X 6=.map 4/\ad X 7=.int .i64 first/\ad X 13=.qF/\ad X 14=.int .i64 first) (fun _ u =>ad u 13=.slice 6 0 H.length none) ?_;rintro X d ⟨h6,h7,h13,h14⟩;simp[ag,aE,f181] at I;obtain⟨_,I⟩:=I;have R:M0.length=6:=by rw[J];rfl
 rw[R];have o:an [13,14] (aa b) X ((13,ouO [])::(14,.int .i64 first)::X)=an [13,14] (aa b) X X:=by simp[an,h13,h14,ouO]
 rw[<-o];have V:M0=ouM M0 []:=rfl;conv=>congr;ext u;lhs;lhs;rw[V]
 refine bI (α:=List Int×Int) (fun x=>⟨an [13,14] (aa b) X ((13,ouO x.1)::(14,.int .i64 x.2)::X),ouM M0 x.1,d⟩) (fun x=>N.length-x.1.length) (fun x=>∃n,x.1.length+n=N.length/\xo N first n x.2 x.1=some H) (.exit 2) _ d _ (by simp) ?_ K ([],first) ⟨N.length,by simp,hc⟩ (by simpa using hK);rintro ⟨Z,a⟩ ⟨n,hn1,hw⟩;clear o V;simp only at hn1 hw;cases n with
 |zero=>
  right;simp only[xo,Pi] at hw;subst hw;cases Z with
  |nil=>exact absurd (Mp (by simpa using hn1.symm)) hN
  |cons x Z=>
   have j:¬((Z.length:Int)+1<N.length):=by simp at hn1;omega
   subst I J;simp[ouO,ouM,h6,j]
 |succ n=>
  left;rw[xo] at hw;cases hlk:qu N a with
  |none=>rw[hlk] at hw;cases hw
  |some c=>
   rw[hlk] at hw;simp only at hw;split at hw
   .cases hw
   .rename_i O
    obtain⟨q,M⟩:=(xD a N 0).2 c hlk;refine⟨(Z++[a],c),?_⟩;have U:(Z.length:Int)<N.length:=by omega
    subst I J;have m:0<N.length:=by omega
    have hln:n+1<=1000000:=by omega
    have L:xo N first n c (Z++[a])=some H:=hw
    cases Z with
    |nil=>
     by_cases S:a=first
     .subst S
      simp[-afq.refs,-afq.ren,ouO,ouM,h6,h7,m,lP,ky,mA,M,mV,mW,pr,gA,pZ,Mv,Dc,qs,jT,iZ,yx,Da,vw];exact⟨⟨n,by simp at hn1;omega,L⟩,by omega⟩
     .simp[-afq.refs,-afq.ren,ouO,ouM,h6,h7,m,S,lP,ky,mA,M,mV,mW,pr,gA,pZ,Mv,Dc,qs,jT,iZ,yx,Da,vw]
      exact⟨⟨n,by simp at hn1;omega,L⟩,by omega⟩
    |cons x Z=>
     have S:¬a=first:=fun e=>O ⟨e,by simp⟩
     have hlN:Z.length+1<N.length:=by simp at hn1;omega
     have U:(Z.length:Int)+1<N.length:=by omega
     have hz:iZ (x::Z)++[.int .i64 a]=iZ (x::(Z++[a])):=by simp[iZ]
     have G':(iZ (x::Z)).length=Z.length+1:=by simp[iZ]
     have G:(iZ (x::Z)).take (Z.length+1)=iZ (x::Z):=B5 (by omega);have C:(Z.length+1+1)*8<=140737488355328:=by omega
     have B:Z.length<=140737488355326:=by omega
     simp[-afq.refs,-afq.ren,ouO,ouM,h6,h7,S,U,lP,ky,mA,M,mV,mW,pr,gA,pZ,Mv,Dc,qs,jT,yx,Da,vw,Hh,Db,G,C,B,hz,G'];exact⟨⟨n,by simp at hn1;omega,by simpa using L⟩,by omega⟩
theorem SJ{P:Program}{T:TypeId->Option TyI}{O:y9}{tp:Bool}{N m0:Nat}{lv:Code->List Nat}{Q:Exit->St->Prop}(H:P.follows .mixedOrders=true)(hT:dQ P T)(I:qS P O){c:Code}{s:XS}(hs:cY c=true)(h:∃e Z,aL T lv O K N m0 tp c s=some (e,Z)/\Q e ⟨Z.env,Z.mem⟩):AWP P tp N m0 c ⟨s.env,s.mem⟩ Q:=by obtain⟨e,Z,X,V⟩:=h;exact wI H hT I hs X V
def V5(ks:List Sd)(H I:Nat)(seen:List Nat):Mem:=[.afX (ks.map sdE),.qK,.qK,.cells true 0 [.slice 1 0 H none,.slice 2 0 I none],.map ((dn ks seen).map nxE),.qK]
def ouV(ks:List Sd)(seen:List Nat)(t:Nat):AV:=if t=7 then .int .i64 (AU (-1) (dn ks seen)) else .undef
theorem tW(ks:List Sd)(seen:List Nat)(j:Nat):dn ks (seen++[j])=dn ks seen++(match bAt ks j with | some p=>[p] | none=>[]):=by unfold dn;rw[List.filterMap_append];congr 1;simp only[List.filterMap_cons,List.filterMap_nil];cases bAt ks j<;>rfl
theorem HT(ks:List Sd)(J:List Int)(H I:Nat)(ZF:vt ks=true)(hc:Cf (tG ks)=some J):
  kO prog 181 [.agg [.slice 1 0 H none,.slice 2 0 I none],.map 0] [.afX (ks.map sdE),.qK,.qK] (.tuple [.slice 3 0 J.length none,.bool true]) [.afX (ks.map sdE),.qK,.qK,.cells true 1 (iZ J)]:=by
 obtain⟨ok1,L,ok3,ok4⟩:=Mb ZF;have hT:=aI prog;refine afZ.intro hT (fn:=f181) (by kernel_rfl) rfl rfl (Nat.le_of_ble_eq_true rfl) ?_;refine xY ?_;refine wI aj hT (az _) (lv:=fun _=>[]) (K:=1) (s:=⟨dN 0 [.agg [.slice 1 0 H none,.slice 2 0 I none],.map 0],[.afX (ks.map sdE),.qK,.qK],false⟩) rfl (s' :=⟨[(5,.bool false),(4,.qF),(2,.ptr 3 0),(0,.agg [.slice 1 0 H none,.slice 2 0 I none]),(1,.map 0)],[.afX (ks.map sdE),.qK,.qK,.cells true 0 [.slice 1 0 H none,.slice 2 0 I none]],false⟩) (e:=.normal) (by simp) ?_;refine xY ?_;refine wI aj hT (az _) (lv:=fun _=>[]) (K:=1) (s:=⟨_,_,false⟩) rfl (s' :=⟨[(6,.map 4),(17,.map 4),(5,.bool false),(4,.qF),(2,.ptr 3 0),(0,.agg [.slice 1 0 H none,.slice 2 0 I none]),(1,.map 0)],[.afX (ks.map sdE),.qK,.qK,.cells true 0 [.slice 1 0 H none,.slice 2 0 I none],.map []],false⟩) (e:=.normal) (by simp) ?_;refine xY ?_;refine wI aj hT (az _) (lv:=fun _=>[]) (K:=1) (s:=⟨_,_,false⟩) rfl (s' :=⟨[(7,.int .i64 (-1)),(6,.map 4),(17,.map 4),(5,.bool false),(4,.qF),(2,.ptr 3 0),(0,.agg [.slice 1 0 H none,.slice 2 0 I none]),(1,.map 0)],[.afX (ks.map sdE),.qK,.qK,.cells true 0 [.slice 1 0 H none,.slice 2 0 I none],.map []],false⟩) (e:=.normal) (by simp) ?_;refine xY ?_;show AWP _ _ _ _ _ ⟨[(7,.int .i64 (-1)),(6,.map 4),(17,.map 4),(5,.bool false),(4,.qF),(2,.ptr 3 0),(0,.agg [.slice 1 0 H none,.slice 2 0 I none]),(1,.map 0)],[.afX (ks.map sdE),.qK,.qK,.cells true 0 [.slice 1 0 H none,.slice 2 0 I none],.map []]⟩ _
 refine N7 aj hT (az _) (lv:=fun _=>[]) (K:=1) (b:=0) (es:=ks.map sdE) (s:=⟨[(7,.int .i64 (-1)),(6,.map 4),(17,.map 4),(5,.bool false),(4,.qF),(2,.ptr 3 0),(0,.agg [.slice 1 0 H none,.slice 2 0 I none]),(1,.map 0)],[.afX (ks.map sdE),.qK,.qK,.cells true 0 [.slice 1 0 H none,.slice 2 0 I none],.map []],false⟩) (s1:=⟨[(18,.map 0),(7,.int .i64 (-1)),(6,.map 4),(17,.map 4),(5,.bool false),(4,.qF),(2,.ptr 3 0),(0,.agg [.slice 1 0 H none,.slice 2 0 I none]),(1,.map 0)],[.afX (ks.map sdE),.qK,.qK,.cells true 0 [.slice 1 0 H none,.slice 2 0 I none],.map []],false⟩)
  rfl rfl rfl rfl (KU) rfl rfl rfl rfl rfl rfl rfl rfl rfl rfl rfl rfl ?_ ?_ ?_ ?_ rfl rfl [7] _ (ouV ks) (V5 ks H I) (fun seen=>seen.Nodup/\∀j∈seen,j<ks.length) rfl ?_ ?_ ?_ ?_ ?_ ?_ ?_
 .decide
 .decide
 .rfl
 .simp
 .decide
 .rfl
 .rintro seen ⟨_,_⟩
  refine⟨rfl,rfl,rfl,fun x hx=>?_⟩;simp only[V5,lM] at hx;rcases hx with rfl | rfl | rfl | rfl | rfl | rfl
  .exact mW _ _
  .rfl
  .rfl
  .rfl
  .exact mV _ _
  .rfl
 .intro seen t _ G
  simp only[List.mem_singleton] at G;subst G;rfl
 .refine⟨⟨List.nodup_nil,fun j O=>(by cases O)⟩,rfl,fun t G=>?_⟩
  simp only[List.mem_singleton] at G;subst G;rfl
 .rintro seen env ⟨i1,i2⟩ hs hv P'
  have U:=hv 7 (by simp);have N:=hs 6 (by decide);simp[] at N;simp only[ouV,if_true] at U;have hp:=ME i1 i2 (fun j O=>P' j (by simpa using O));have hge:=RZ ok3 (seen:=seen);have V:=TN hp hge;have Z:∀a,qu (dn ks seen) a=qu (tG ks) a:=Rx hp (Ht L)
  have Y:(dn ks seen).length=(tG ks).length:=hp.length_eq;have hw:∀n a l,xo (dn ks seen) (AU (-1) (dn ks seen)) n a l=xo (tG ks) (AU (-1) (tG ks)) n a l:=by
   intro n;induction n with
   |zero=>intro a l;rfl
   |succ n ih=>intro a l;simp only[xo,Z,ih];rw[V]
  have C :xo (dn ks seen) (AU (-1) (dn ks seen)) (dn ks seen).length (AU (-1) (dn ks seen)) []=some J:=by rw[hw,Y];rw[V];exact hc
  have hN:dn ks seen≠[]:=fun e=>ok1 (by rw[e] at Y;exact Mp Y.symm)
  have hNl:(dn ks seen).length<=1000000:=by rw[Y];have:(tG ks).length<=(List.range ks.length).length:=List.length_filterMap_le _ _;rw[List.length_range] at this;omega
  obtain⟨b1,b,X⟩:∃b1 b,ag f181=[b1,b]:=⟨_,_,rfl⟩
  obtain⟨F,hF⟩:=BB (K:=(dn ks seen).length+1) ks (dn ks seen) _ J H I C hN hNl (by omega) X _ rfl;simp[ag,aE,f181] at X;obtain⟨_,X⟩:=X;subst X;show AWP _ _ _ _ _ _ _
  refine SJ aj hT (az _) (lv:=fun _=>[13,14]) (K:=(dn ks seen).length+1) (s:=⟨_,_,false⟩) rfl ?_;show∃e o,aL (aX prog) (fun _=>[13,14]) cO ((dn ks seen).length+1) 93 3 true _ _=some (e,o)/\_
  simp[-afq.refs,-afq.ren,N,U,hF];have hcl:0<J.length:=by have:=zH C;have:0<(dn ks seen).length:=List.length_pos_iff.2 hN;omega
  refine⟨_,_,⟨rfl,rfl⟩,.inr rfl,[6],rfl,.inl ⟨rfl,?_⟩⟩;have e2:decide (0<J.length)=true:=by simpa using hcl
  rw[e2];simp[AV.ren,AV.afI,rho,aga,Db,List.idxOf?,List.findIdx?,List.findIdx?.go]
 .rintro seen env j k v ⟨i1,i2⟩ hs hv O hns
  have U:=hv 7 (by simp);have B:=hs 1 (by decide);have N:=hs 6 (by decide);simp[] at B N;simp only[ouV,if_true] at U;rw[QQJ] at O;simp only[Y1] at O;obtain⟨s,hs1,hs2⟩:=O;have hkv:=Prod.mk.inj hs2;obtain⟨hk,hvv⟩:=hkv;subst hk hvv;have hjl:=gL hs1;have PP:(seen++[j]).Nodup/\∀i∈seen++[j],i<ks.length:=by
   constructor
   .rw[List.nodup_append];exact⟨i1,by simp,fun a ha b X=>by simp at X;subst X;rintro rfl;exact hns ha⟩
   .intro i hi
    rcases List.mem_append.1 hi with h | h
    .exact i2 i h
    .simp at h;subst h;exact hjl
  have S :(seen++[j]).Nodup/\∀i,i∈seen\/i=j->i<ks.length:=⟨PP.1,fun i hi=>PP.2 i (by simpa using hi)⟩
  cases Z:Ry ks (s.1.2,s.1.1) with
  |some t=>
   have X:bAt ks j=none:=by simp[bAt,hs1,Z]
   have R:dn ks (seen++[j])=dn ks seen:=by rw[tW,X];simp
   obtain⟨q,u⟩:=(xF (s.1.2,s.1.1) ks 0).2 t Z;rw[show(List.length _+1:Nat)=6 from rfl];simp[-afq.refs,-afq.ren,V5,ouV,B,u,R,lP,ky,mA,LU,jU,tN,tQ,cj,qs,List.range'];exact⟨_,_,⟨rfl,rfl⟩,.inr rfl,S,by simpa using U,rfl⟩
  |none=>
   have X:bAt ks j=some s.1:=by simp[bAt,hs1,Z]
   have R:dn ks (seen++[j])=dn ks seen++[s.1]:=by rw[tW,X]
   have V:AU (-1) (dn ks (seen++[j]))=if AU (-1) (dn ks seen)<0\/s.1.1<AU (-1) (dn ks seen) then s.1.1 else AU (-1) (dn ks seen):=by rw[R,Ow];rfl
   have u:=(xF (s.1.2,s.1.1) ks 0).1 Z;have hfr:=Hs L hns X;have M:=(xD s.1.1 (dn ks seen) 0).1 hfr;rw[show(List.length _+1:Nat)=6 from rfl];unfold V5 ouV;rw[V,R];obtain⟨m,hm⟩:=xE (AU (-1) (dn ks seen));rw[<-hm] at U |-;clear V;by_cases c1:m<0
   .simp[-afq.refs,-afq.ren,B,N,U,u,M,c1,lP,fP,ky,mA,LU,jU,tN,tQ,cj,qs,List.range']
    exact⟨_,_,⟨rfl,rfl⟩,.inl rfl,S,rfl,rfl⟩
   .by_cases c2:s.1.1<m
    .simp[-afq.refs,-afq.ren,B,N,U,u,M,c1,c2,lP,fP,ky,mA,LU,jU,tN,tQ,cj,qs,List.range']
     exact⟨_,_,⟨rfl,rfl⟩,.inl rfl,S,rfl,rfl⟩
    .simp[-afq.refs,-afq.ren,B,N,U,u,M,c1,c2,lP,fP,ky,mA,LU,jU,tN,tQ,cj,qs,List.range']
     exact⟨_,_,⟨rfl,rfl⟩,.inl rfl,S,U,rfl⟩
def Wb:List (AV×AV)->Option (List Sd)
 | []=>some []
 |(.agg [.int .i64 a,.int .i64 b],.int .i64 t)::l=>match Wb l with
  |some r=>some (((a,b),t)::r)
  |none=>none
 |_=>none
theorem Fe:∀{es:List (AV×AV)} {ks:List Sd},Wb es=some ks->es=ks.map sdE
 | [],ks,h=>by cases h;rfl
 |e::es,ks,h=>by
  unfold Wb at h;split at h
  next Z=>cases Z
  .rename_i a b t l Z
   cases Z;split at h
   .rename_i r X
    cases h;rw[Fe X];rfl
   .cases h
  .cases h
def RB(M:Mem)(b:Nat):Option (List (AV×AV)):=match M[b]? with
 |some (.map es)=>some es
 |some (.afX es)=>some es
 |_=>none
theorem Ug(n:Nat)(s:Sd):(sdE s).1.under n=true/\(sdE s).2.under n=true:=by simp[sdE,AV.under,AV.afu]
theorem OL(f:Nat->Option Nat)(s:Sd):((sdE s).1.ren f,(sdE s).2.ren f)=sdE s:=by simp[sdE,AV.ren,AV.afI]
theorem yF(M:Mem)(ks:List Sd)(H:List Int)(b b1 J Y n2:Nat)(hb1:b1<M.length)(ZV:J<M.length)(I:RB M b=some (ks.map sdE))(ZF:vt ks=true)(hc:Cf (tG ks)=some H):
  kO prog 181 [.agg [.slice b1 0 Y none,.slice J 0 n2 none],.map b] M (.tuple [.slice M.length 0 H.length none,.bool true]) (M++[.cells true 1 (iZ H)]):=by
 have S:b<M.length:=by
  unfold RB at I;split at I
  next es h=>exact(gL h)
  next es h=>exact(gL h)
  .cases I
 have:=kO.frame (M:=M) (new:=[.cells true 1 (iZ H)]) [b,b1,J] (m:=[.afX (ks.map sdE),.qK,.qK]) rfl (by intro k V;simp at V;rcases V with rfl | rfl | rfl<;>assumption) (by rfl) (fun i s Z=>by
  match i with
  |0=>
   simp at Z;subst Z;refine⟨ks.map sdE,?_,rfl,fun j e X=>?_⟩
   .unfold RB at I
    split at I
    next es h=>cases I;exact .inr h
    next es h=>cases I;exact .inl h
    .cases I
   .rw[QQJ] at X
    simp only[Y1] at X;obtain⟨R,U,rfl⟩:=X;refine⟨Ug _ _,?_⟩;rw[OL,QQJ,U];rfl
  |1=>simp at Z;subst Z;trivial
  |2=>simp at Z;subst Z;trivial
  |i+3=>simp at Z) rfl (HT ks H Y n2 ZF hc)
 simpa [AV.afI,AV.ren,fA,afq.ren,Db] using this
def NB(c:Go.Eng.Callee)(args:List AV)(M:Mem):Option afl:=match c,args with
 |.fn 181,[.agg [.slice b1 0 _ none,.slice b2 0 _ none],.map b]=>match RB M b with
  |some es=>match Wb es with
   |some ks=>match Cf (tG ks) with
    |some cyc=>if vt ks&&(decide (b1<M.length)&&decide (b2<M.length)) then some ⟨.tuple [.slice M.length 0 cyc.length none,.bool true],none,[.cells true 1 (iZ cyc)]⟩ else none
    |none=>none
   |none=>none
  |none=>none
 |_,_=>none
theorem QN:qS prog NB:=by
 refine cw fun c R M r h=>?_
 unfold NB at h;split at h
 .split at h
  .rename_i es X
   split at h
   .rename_i O V
    split at h
    .rename_i U S
     split at h
     .rename_i Z
      simp only[Es,GE] at Z;cases h;refine au (yF M O U _ _ _ _ _ Z.2.1 Z.2.2 ?_ Z.1 S);rw[X,Fe V]
     .cases h
    .cases h
   .cases h
  .cases h
 .cases h
noncomputable def OZ:y9:=y9.or NB (ah bn)
theorem ND:qS prog OZ:=qS.or QN cU
end Go.Proofs
