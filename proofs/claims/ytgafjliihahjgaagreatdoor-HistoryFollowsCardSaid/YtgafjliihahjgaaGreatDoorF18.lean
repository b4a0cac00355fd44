/- See F54. -/
import Derived.Test.YtgafjliihahjgaaGreatDoorF14
set_option linter.all false
set_option maxRecDepth 100000
set_option maxHeartbeats 40000000
namespace Go.Proofs
open Go.Eng
open Tryz
theorem Nc(a b c:P2)(ha:pDg 2 a)(hb:pDg 2 b)(hc:pDg 2 c)(M:Mem):kO prog 159 [pA a,pA b,pA c] M (.str (ak (bU a b c))) M:=by
 have hG:aK prog 159=some f159:=by kernel_rfl
 obtain⟨G,A⟩:=a;obtain⟨b1,b2⟩:=b;obtain⟨c1,c2⟩:=c;obtain⟨K,J⟩:=ha;obtain⟨F,D⟩:=hb;obtain⟨C,B⟩:=hc;simp only at K J F D C B;have z:=PC F K (m:=3) (by omega) (by omega);have u:=PC B J (m:=3) (by omega) (by omega);have j:=PC D J (m:=3) (by omega) (by omega);have Y:=PC C K (m:=3) (by omega) (by omega);have Y1:=LG z u;have Y2:=LG j Y;obtain⟨p1,p2⟩:=dI K (by omega) (by omega) (by omega) (by omega);obtain⟨p3,p4⟩:=dI J (by omega) (by omega) (by omega) (by omega);obtain⟨q1,q2⟩:=dI F (by omega) (by omega) (by omega) (by omega);obtain⟨q3,q4⟩:=dI D (by omega) (by omega) (by omega) (by omega);obtain⟨r1,r2⟩:=dI C (by omega) (by omega) (by omega) (by omega);obtain⟨r3,r4⟩:=dI B (by omega) (by omega) (by omega) (by omega);obtain⟨s1,s2⟩:=dI z (by omega) (by omega) (by omega) (by omega);obtain⟨s3,s4⟩:=dI u (by omega) (by omega) (by omega) (by omega);obtain⟨s5,s6⟩:=dI j (by omega) (by omega) (by omega) (by omega);obtain⟨s7,s8⟩:=dI Y (by omega) (by omega) (by omega) (by omega);obtain⟨t1,t2⟩:=dI Y1 (by omega) (by omega) (by omega) (by omega);obtain⟨t3,t4⟩:=dI Y2 (by omega) (by omega) (by omega) (by omega);clear Y1 Y2 z u j Y K J F D C B;unfold bU;simp only;obtain⟨x1,Z⟩:=xE (b1-G);obtain⟨x2,X⟩:=xE (c2-A);obtain⟨x3,W⟩:=xE (b2-A);obtain⟨x4,V⟩:=xE (c1-G);rw[←Z] at s1 s2 t1 t2;rw[←X] at s3 s4 t1 t2;rw[←W] at s5 s6 t3 t4;rw[←V] at s7 s8 t3 t4;rw[←Z,←X,←W,←V];obtain⟨y1,S⟩:=xE (x1*x2);obtain⟨y2,O⟩:=xE (x3*x4);rw[←S] at t1 t2;rw[←O] at t3 t4;rw[←S,←O];refine aA bj ?_ M;obtain⟨o1,o2,R⟩:∃o1 o2,aC f159=[o1,o2]:=⟨_,_,rfl⟩
 obtain⟨I,H⟩:=BW R (l:=[0,1,0,4,15,0,32,0,128,511,1023,2047]) (l' :=[0,0,2,0,8,30,0,64,0,256,1022,2046,4095,8191]) (by kernel_rfl);have k1:ba [0,1,0,4,15,0,32,0,128,511,1023,2047] 11=true:=by decide
 have k2:ba [0,0,2,0,8,30,0,64,0,256,1022,2046,4095,8191] 13=true:=by decide
 simp[aC,bn,f159] at R;obtain⟨rfl,rfl⟩:=R;simp[aa,hG,f159,-aB,ag I,ag H,aS,aO,aP,k1,k2,pA,ao,af,aj,az,p1,p2,p3,p4,q1,q2,q3,q4,r1,r2,r3,r4,s1,s2,s3,s4,s5,s6,s7,s8,t1,t2,t3,t4,←Z,←X,←W,←V,←S,←O,Nat.testBit]
noncomputable def Bo(f:FuncId)(args:List AV):Option AV:=
 match f,args with
 |159,[.agg [.str a,.str b],.agg [.str c,.str d],.agg [.str e,.str f]]=>match dC a,dC b,dC c,dC d,dC e,dC f with
  |some a,some b,some c,some d,some e,some f=>if (aR a.num.natAbs).length≤2∧(aR a.den).length≤1∧(aR b.num.natAbs).length≤2∧(aR b.den).length≤1∧(aR c.num.natAbs).length≤2∧(aR c.den).length≤1∧
    (aR d.num.natAbs).length≤2∧(aR d.den).length≤1∧(aR e.num.natAbs).length≤2∧(aR e.den).length≤1∧(aR f.num.natAbs).length≤2∧(aR f.den).length≤1 then some (.str (ak (bU (a,b) (c,d) (e,f)))) else none
  |_,_,_,_,_,_=>none
 |f,args=>aj f args
theorem Oa:HS prog (af Bo):=bH fun f V v h mem=>by
 unfold Bo at h;split at h
 ·split at h
  ·rename_i a b c d e f S O hc M he K
   split at h
   ·rename_i J
    obtain⟨F,D,C,B,z,u,m,j,Y,Z,X,W⟩:=J;cases h;rw[aw S,aw O,aw hc,aw M,aw he,aw K];exact Nc (a,b) (c,d) (e,f) ⟨(di ⟨F,D⟩).mono (by omega) (by omega),(di ⟨C,B⟩).mono (by omega) (by omega)⟩
     ⟨(di ⟨z,u⟩).mono (by omega) (by omega),(di ⟨m,j⟩).mono (by omega) (by omega)⟩ ⟨(di ⟨Y,Z⟩).mono (by omega) (by omega),(di ⟨X,W⟩).mono (by omega) (by omega)⟩ mem
   ·cases h
  ·cases h
 ·have:=bj.fn _ _ mem ⟨v,none,[]⟩ (by unfold af;simp only;rw[h])
  simpa [aeQ.mem] using this
theorem gn{n d m k:Nat}{q:Rat}(h:dg n d q)(h0:0<n)(A:0<d)(G:n≤m)(H:d≤k):(aR q.num.natAbs).length≤m∧(aR q.den).length≤k:=by have:=h.lens h0 A;exact⟨by omega,by omega⟩
theorem Nf(a b c:P2)(A:pDg 2 a)(G:pDg 2 b)(hc:pDg 2 c)(M:Mem):kO prog 106 [pA a,pA b,pA c] M (.int .i64 (jV (bU a b c))) M:=by
 have B:aK prog 106=some f106:=by kernel_rfl
 obtain⟨z,u⟩:=a;obtain⟨m,j⟩:=b;obtain⟨Y,R⟩:=c;obtain⟨Z,X⟩:=gn A.1 (by omega) (by omega) (Nat.le_refl _) (Nat.le_refl _);obtain⟨W,V⟩:=gn A.2 (by omega) (by omega) (Nat.le_refl _) (Nat.le_refl _);obtain⟨S,O⟩:=gn G.1 (by omega) (by omega) (Nat.le_refl _) (Nat.le_refl _);obtain⟨K,J⟩:=gn G.2 (by omega) (by omega) (Nat.le_refl _) (Nat.le_refl _);obtain⟨r1,r2⟩:=gn hc.1 (by omega) (by omega) (Nat.le_refl _) (Nat.le_refl _);obtain⟨F,D⟩:=gn hc.2 (by omega) (by omega) (Nat.le_refl _) (Nat.le_refl _);refine aA Oa ?_ M;simp only at Z X W V S O K J r1 r2 F D;obtain⟨y,C⟩:=xE (bU (z,u) (m,j) (Y,R));rw[←C];simp[aa,B,f106,pA,ao,af,Bo,aj,az,bB,aX,Z,X,W,V,S,O,K,J,r1,r2,F,D,←C]
theorem kA(d:Nat)(x y:List UInt8):lz (aN prog) (d+1) 29 (.str x) (.str y)=some (x==y):=by rw[lz];simp
theorem Tf(p q:P2):lz (aN prog) 20 101 (pA p) (pA q)=some (decide (p.1=q.1)&&decide (p.2=q.2)):=by have i:=kA 18;rw[lz];simp[pA,Sp,jt,TyI.isAgg,i,G9]
theorem DU(p:P2):∀(L:List P2)(i:Nat),p∉L→jn (aN prog) 101 (pA p) (L.map pmE) i=some none
 | [],i,_=>rfl
 |q::L,i,h=>by
  have e:=Tf p q;have X:(decide (p.1=q.1)&&decide (p.2=q.2))=false:=by rw[←Bool.not_eq_true];intro Z;simp only[Bool.and_eq_true,decide_eq_true_eq] at Z;exact h (by rw[show p=q from Prod.ext Z.1 Z.2];exact List.mem_cons_self ..)
  simp only[List.map_cons,jn,pmE,e,X];exact DU p L (i+1) (fun Z=>h (List.mem_cons_of_mem _ Z))
theorem TB(p:P2):lG (aN prog) 20 101 (pA p)=true:=by simp[pA,lG,UC,jt,TyI.isAgg]
noncomputable def gD(f:FuncId)(args:List AV):Option AV:=
 match f,args with
 |106,[.agg [.str a,.str b],.agg [.str c,.str d],.agg [.str e,.str f]]=>match dC a,dC b,dC c,dC d,dC e,dC f with
  |some a,some b,some c,some d,some e,some f=>if (aR a.num.natAbs).length≤2∧(aR a.den).length≤1∧(aR b.num.natAbs).length≤2∧(aR b.den).length≤1∧(aR c.num.natAbs).length≤2∧(aR c.den).length≤1∧
    (aR d.num.natAbs).length≤2∧(aR d.den).length≤1∧(aR e.num.natAbs).length≤2∧(aR e.den).length≤1∧(aR f.num.natAbs).length≤2∧(aR f.den).length≤1 then some (.int .i64 (jV (bU (a,b) (c,d) (e,f)))) else none
  |_,_,_,_,_,_=>none
 |105,[.agg [.str a,.str b]]=>if a.length≤18∧b.length≤18 then some (.int .i64 (sw [a,b])) else none
 |f,args=>aj f args
theorem Bn:HS prog (af gD):=bH fun f V v h mem=>by
 unfold gD at h;split at h
 ·split at h
  ·rename_i a b c d e f S O hc M he K
   split at h
   ·rename_i J
    obtain⟨F,D,C,B,z,u,m,j,Y,Z,X,W⟩:=J;cases h;rw[aw S,aw O,aw hc,aw M,aw he,aw K];exact Nf (a,b) (c,d) (e,f) ⟨(di ⟨F,D⟩).mono (by omega) (by omega),(di ⟨C,B⟩).mono (by omega) (by omega)⟩
     ⟨(di ⟨z,u⟩).mono (by omega) (by omega),(di ⟨m,j⟩).mono (by omega) (by omega)⟩ ⟨(di ⟨Y,Z⟩).mono (by omega) (by omega),(di ⟨X,W⟩).mono (by omega) (by omega)⟩ mem
   ·cases h
  ·cases h
 ·split at h
  next hc=>cases h;exact gM _ _ hc.1 hc.2 mem
  ·cases h
 ·have:=bj.fn _ _ mem ⟨v,none,[]⟩ (by unfold af;simp only;rw[h])
  simpa [aeQ.mem] using this
theorem Zb{p:P2}(h:pDg 2 p):sw [ak p.1,ak p.2]=0:=by simp[sw,qT (h.1.mono (by decide) (by decide)),qT (h.2.mono (by decide) (by decide))]
noncomputable def oA(H:Bool)(G:List P2)(A:List Tr):aeT:=fun c Z M=>match c,Z with
 |.fn 107,[.agg [.slice b 0 n none,.slice c 0 k none]]=>open Classical in if n=G.length∧k=A.length∧(∃o,M[b]? =some (.cells o 2 (pC G)))∧(∃o,M[c]? =some (.cells o 3 (tC A))) then some ⟨.bool H,none,[]⟩ else none
 |.fn 108,[.agg [.slice b 0 n none,.slice c 0 k none],.int .i64 i,.int .i64 j]=>open Classical in if H=false∧n=G.length∧k=A.length∧(∃o,M[b]? =some (.cells o 2 (pC G)))∧(∃o,M[c]? =some (.cells o 3 (tC A)))∧0≤j∧j<i∧i<A.length then some ⟨.bool false,none,[]⟩ else none
 |c,Z=>af gD c Z M
def vv(c:Code):List Nat:=if (ab c).contains 32 then [32] else if (ab c).contains 48 then [48] else if (ab c).contains 53 then [53] else if (ab c).contains 92 then [92] else if (ab c).contains 96 then [96] else []
def msB(n k:Nat):aeY:=.cells true 0 [.slice 0 0 n none,.slice 1 0 k none]
variable{K:Nat}{b b3 b4 b5:Code}
theorem xi(I:Bool)(A:List P2)(G:List Tr)(R:∀p∈A,pDg 2 p)(hn:A.Nodup)(hl:A.length≤1000000000)(hK:A.length<K){b2:Code}(H:ai f59=[b,b2,b3,b4,b5]):
  ∃F:Env→Bool→Env,∀Z d,(ad Z 30=.slice 0 0 A.length none∧ad Z 31=.int .i64 A.length∧ad Z 32=.int .i64 0∧ad Z 3=.map 3∧ad Z 1=.ptr 2 0)→
   aM (aN prog) vv (oA I A G) K 105 2 true (.loop b) ⟨Z,[.cells false 2 (pC A),.cells false 3 (tC G),msB A.length G.length,.map []],d⟩=some (.exit 1,⟨F Z d,[.cells false 2 (pC A),.cells false 3 (tC G),msB A.length G.length,.map (A.map pmE)],d⟩)∧ad (F Z d) 1=.ptr 2 0:=by
 refine cD (L:=[32]) (by simp[ai,aG,f59] at H;rw[←H.1];rfl) (fun Z=>ad Z 30=.slice 0 0 A.length none∧ad Z 31=.int .i64 A.length∧ad Z 32=.int .i64 0∧ad Z 3=.map 3∧ad Z 1=.ptr 2 0) (fun _ AC =>ad AC 1=.ptr 2 0) ?_;rintro Z d ⟨h30,h31,h32,h3,W⟩;simp[ai,aG,f59] at H;obtain⟨H,-⟩:=H;have V:aD [32] (ab b) Z ((32,.int .i64 ((0:Nat):Int))::Z)=aD [32] (ab b) Z Z:=by simp[aD,h32]
 rw[←V];refine dh (α:=Nat) (fun n=>⟨aD [32] (ab b) Z ((32,.int .i64 (n:Int))::Z),[.cells false 2 (pC A),.cells false 3 (tC G),msB A.length G.length,.map ((A.take n).map pmE)],d⟩) (fun n=>A.length-n) (fun n=>n≤A.length) (.exit 1) _ d _ (by simp) ?_ K 0 (by omega) (by omega);intro n hn1;clear V;subst H;by_cases M:n<A.length
 ·left
  obtain⟨p,S⟩:∃q,A[n]? =some q:=⟨A[n],List.getElem?_eq_getElem M⟩
  obtain⟨C,k2,k3,k4⟩:=wm S;have X:=R p (List.mem_of_getElem? S);have J:p∉A.take n:=by intro D;obtain⟨j,hj,he⟩:=List.mem_iff_getElem.1 D;rw[List.length_take] at hj;rw[List.getElem_take] at he;have W:=List.getElem?_eq_some_iff.1 S;obtain⟨W,h2⟩:=W;have:=(List.getElem_inj (h₀:=by omega) (h₁:=W) hn).1 (he.trans h2.symm);omega
  have f1:=DU p (A.take n) 0 J;have f2:=TB p;have O:(A.take (n+1)).map pmE=(A.take n).map pmE++[pmE p]:=by rw[List.take_add_one,S];simp
  have w1:IntKind.i64.wrap ((n:Int)+1)=((n+1:Nat):Int):=by rw[aq];omega
  have B:=Zb X;have z:=PN X.1 (by omega) (by omega);have u:=PN X.2 (by omega) (by omega);obtain⟨m,D⟩:=xE (n+1);rw[←D] at w1 O;have r1:=He 4 (A.take n);obtain⟨E,Y⟩:=xE ((A.take n).map pmE);rw[←Y] at f1 O r1;rw[←Y];refine⟨m,?_⟩;obtain⟨px,py⟩:=p;simp only[pA,pmE] at f1 f2 O C B z u;simp[h30,h31,h3,M,oA,af,gD,C,k4,B,z,u,w1,f1,f2,O,r1,msB,ef,eW,kR,jz,fA];omega
 ·right
  have e:A.take n=A:=List.take_of_length_le (by omega);rw[e];have aae :¬(n:Int)<A.length:=by omega
  simp[h31,W,M]
def ZP(A:List P2)(t:Tr):Prop:=∃p q r,A[t.1]? =some p∧A[t.2.1]? =some q∧A[t.2.2]? =some r∧0<jV (bU p q r)
theorem xj(wb:Bool)(G:List P2)(A:List Tr)(E:List (AV×AV))(I:∀p∈G,pDg 2 p)(hT:∀t∈A,ZP G t)(hl:G.length≤1000000000)(hl2:A.length≤1000000000)(hE:E.flatMap (fun e=>e.1.refs 4++e.2.refs 4)=[])(hK:A.length<K+5){b1:Code}(H:ai f59=[b1,b,b3,b4,b5]):
  ∃F:Env→Bool→Env,∀Z d,(ad Z 1=.ptr 2 0∧ad Z 46=.slice 1 0 A.length none∧ad Z 47=.int .i64 A.length∧ad Z 48=.int .i64 0)→
   aM (aN prog) vv (oA wb G A) (K+5) 105 2 true (.loop b) ⟨Z,[.cells false 2 (pC G),.cells false 3 (tC A),msB G.length A.length,.map E],d⟩=some (.exit 3,⟨F Z d,[.cells false 2 (pC G),.cells false 3 (tC A),msB G.length A.length,.map E],d⟩)∧ad (F Z d) 1=.ptr 2 0:=by
 refine cD (L:=[48]) (by simp[ai,aG,f59] at H;rw[←H.2.1];rfl) (fun Z=>ad Z 1=.ptr 2 0∧ad Z 46=.slice 1 0 A.length none∧ad Z 47=.int .i64 A.length∧ad Z 48=.int .i64 0) (fun _ AC =>ad AC 1=.ptr 2 0) ?_;rintro Z d ⟨h1,h46,h47,h48⟩;obtain⟨X,J⟩:∃X,aC f59=[X]:=⟨_,rfl⟩
 obtain⟨I',D⟩:=dj J (l:=[0,1,0,4,15,31,0,64,0,256,960,1984,0,4096,0,16384,61440,126976,262143,524287]) (j:=19) (by kernel_rfl) (by decide);simp[aC,bn,f59] at J;simp[ai,aG,f59] at H;obtain⟨-,H,-⟩:=H;have W:aD [48] (ab b) Z ((48,.int .i64 ((0:Nat):Int))::Z)=aD [48] (ab b) Z Z:=by simp[aD,h48]
 rw[←W];refine dh (α:=Nat) (fun n=>⟨aD [48] (ab b) Z ((48,.int .i64 (n:Int))::Z),[.cells false 2 (pC G),.cells false 3 (tC A),msB G.length A.length,.map E],d⟩) (fun n=>A.length-n) (fun n=>n≤A.length) (.exit 3) _ d _ (by simp) ?_ (K+5) 0 (by omega) (by omega);intro n hn1;clear W;subst H;subst J;by_cases C:n<A.length
 ·left
  obtain⟨t,ht⟩:∃q,A[n]? =some q:=⟨A[n],List.getElem?_eq_getElem C⟩
  obtain⟨k1,k2⟩:=Ph ht;obtain⟨p,q,r,V,O,M,Z6⟩:=hT t (List.mem_of_getElem? ht);obtain⟨B,z,u⟩:=t;simp only at V O M k1;obtain⟨p1,-,-,p4⟩:=wm V;obtain⟨q1,-,-,q4⟩:=wm O;obtain⟨r1,-,-,r4⟩:=wm M;have a1:=gL V;have a2:=gL O;have a3:=gL M;have Y :¬((B:Int)<0):=by omega
  have R :¬((z:Int)<0):=by omega
  have a3' :¬((u:Int)<0):=by omega
  have ad3 :¬((G.length:Int)≤B):=by omega
  have ad4 :¬((G.length:Int)≤z):=by omega
  have ad5 :¬((G.length:Int)≤u):=by omega
  have g1:¬G.length≤B:=by omega
  have g2:¬G.length≤z:=by omega
  have g3:¬G.length≤u:=by omega
  have hp:=I p (List.mem_of_getElem? V);have hq:=I q (List.mem_of_getElem? O);have hr:=I r (List.mem_of_getElem? M);obtain⟨p5,p6⟩:=gn hp.1 (by omega) (by omega) (m:=2) (k:=1) (by omega) (by omega);obtain⟨p7,p8⟩:=gn hp.2 (by omega) (by omega) (m:=2) (k:=1) (by omega) (by omega);obtain⟨q5,q6⟩:=gn hq.1 (by omega) (by omega) (m:=2) (k:=1) (by omega) (by omega);obtain⟨q7,q8⟩:=gn hq.2 (by omega) (by omega) (m:=2) (k:=1) (by omega) (by omega);obtain⟨r5,r6⟩:=gn hr.1 (by omega) (by omega) (m:=2) (k:=1) (by omega) (by omega);obtain⟨r7,r8⟩:=gn hr.2 (by omega) (by omega) (m:=2) (k:=1) (by omega) (by omega);obtain⟨px,py⟩:=p;obtain⟨qx,qy⟩:=q;obtain⟨rx,ry⟩:=r;simp only at p1 q1 r1 p5 p6 p7 p8 q5 q6 q7 q8 r5 r6 r7 r8;obtain⟨S,hS⟩:=xE (jV (bU (px,py) (qx,qy) (rx,ry)));rw[←hS] at Z6;have abc:¬S≤0:=by omega
  have w1:IntKind.i64.wrap ((n:Int)+1)=((n+1:Nat):Int):=by rw[aq];omega
  obtain⟨m,hm⟩:=xE (n+1);rw[←hm] at w1;have v1:IntKind.i64.wrap 1=1:=rfl;have v2:IntKind.i64.wrap 2=2:=rfl;have v3:IntKind.i64.wrap 3=3:=rfl;have v2' :IntKind.i64.wrap (1+1)=2:=rfl;have v3' :IntKind.i64.wrap (2+1)=3:=rfl;refine⟨m,?_⟩;clear I hT;simp[h1,h46,h47,C,k1,k2,aQ,er,v1,v2,v3,vv,a1,a2,a3,Y,R,a3',ad3,ad4,ad5,p1,q1,r1,p4,q4,r4,-aB,ag I',aS,aO,aP,D,
   oA,af,gD,ao,p5,p6,p7,p8,q5,q6,q7,q8,r5,r6,r7,r8,←hS,abc,hE,msB,ef,eW,w1,Nat.testBit]
  omega
 ·right
  have aae :¬(n:Int)<A.length:=by omega
  simp[h47,h1,C]
theorem Wo:aN prog 303=some ⟨.func #[3] #[101] false,1,8,.nilFunc,true⟩:=by kernel_rfl
theorem Wn:aN prog 304=some ⟨.func #[3] #[4] false,1,8,.nilFunc,true⟩:=by kernel_rfl
attribute [simp] Wo Wn
def cZ(A:List Nat):List AV:=A.map fun(n:Nat)=>.int .i64 (n:Int)
theorem ZD{A:List Nat}{i c:Nat}(h:A[i]? =some c):(cZ A)[i]? =some (.int .i64 (c:Int)):=by simp[cZ,h]
def Cx(G:List P2)(A:List Nat)(i:Nat):P2:=G.getD (A.getD (i%A.length) 0) (0,0)
theorem Cy{G:List P2}(H:∀p∈G,pDg 2 p)(A:List Nat)(i:Nat):pDg 2 (Cx G A i):=by
 unfold Cx;rw[List.getD_eq_getElem?_getD];cases h:G[A.getD (i%A.length) 0]? with
 |none=>exact⟨⟨by decide,by decide⟩,⟨by decide,by decide⟩⟩
 |some p=>exact H p (List.mem_of_getElem? h)
def upV(G:List P2)(A:List Nat)(i:Nat):Bool:=
 decide (0<jQ (Cx G A (i+1)).2 (Cx G A i).2)||(decide (jQ (Cx G A (i+1)).2 (Cx G A i).2=0)&&decide (0<jQ (Cx G A (i+1)).1 (Cx G A i).1))
def lf(G:List P2)(A:List Nat):Nat→Nat
 |0=>0
 |n+1=>lf G A n+if !upV G A n&&upV G A (n+1) then 1 else 0
def ft(G:List P2)(k:Nat)(A:List Nat):Mem:=[.cells false 2 (pC G),.aeP,.cells false 1 (cZ A),.cells true 0 [.slice 0 0 G.length none,.slice 1 0 k none],.cells true 0 [.slice 2 0 A.length none],.cells true 0 [.int .i64 A.length],.cells true 0 [.func 238 [.ptr 3 0,.ptr 4 0,.ptr 5 0]]]
theorem Nj(G:List P2)(k:Nat)(A:List Nat)(hc:∀c∈A,c<G.length)(h0:A≠[])(i:Nat):
  kO prog 238 [.int .i64 i,.ptr 3 0,.ptr 4 0,.ptr 5 0] (ft G k A) (pA (Cx G A i)) (ft G k A):=by
 have u:aK prog 238=some f238:=by kernel_rfl
 have m:0<A.length:=by cases A with | nil=>exact absurd rfl h0 | cons a l=>simp
 have V:i%A.length<A.length:=Nat.mod_lt _ m;obtain⟨c,Z⟩:∃c,A[i%A.length]? =some c:=⟨_,List.getElem?_eq_getElem V⟩
 have X:=hc c (List.mem_of_getElem? Z);obtain⟨p,D⟩:∃p,G[c]? =some p:=⟨_,List.getElem?_eq_getElem X⟩
 have S:Cx G A i=p:=by unfold Cx;rw[List.getD_eq_getElem?_getD,List.getD_eq_getElem?_getD,Z];simp[D]
 rw[S];obtain⟨C,-,-,Y⟩:=wm D;have B:=ZD Z;have z:(i:Int).tmod (A.length:Int)=((i%A.length:Nat):Int):=Ar i A.length;have hz:¬((A.length:Int)=0):=by omega
 have O:¬A.length=0:=by omega
 obtain⟨j,M⟩:=xE (i%A.length);rw[←M] at z V B Z;obtain⟨W,J⟩:∃W,aC f238=[W]:=⟨_,rfl⟩
 obtain⟨R,F⟩:=dj J (l:=[0,1,0,0,0,24,60,124,255,511,1023]) (j:=10) (by kernel_rfl) (by decide);simp[aC,bn,f238] at J;subst J;obtain⟨I,H⟩:=p;simp only at C;have h:aa (aN prog) (fun _=>[]) (aK prog) bM 1 238 [.int .i64 i,.ptr 3 0,.ptr 4 0,.ptr 5 0] (ft G k A)=some ⟨pA (I,H),none,[]⟩:=by simp[aa,u,f238,ft,-aB,ag R,aS,aO,aP,F,z,O,V,B,C,Y,X,pA]
 have:=(ah ae (ar _) (al _) (au _) h).1;simpa [aeQ.mem] using this
noncomputable def kh(G:List P2)(k:Nat)(A:List Nat):aeT:=fun c Z M=>match c,Z with
 |.fn 238,[.int .i64 i,.ptr 3 0,.ptr 4 0,.ptr 5 0]=>open Classical in if 0≤i∧M=ft G k A then some ⟨pA (Cx G A i.toNat),none,[]⟩ else none
 |c,Z=>af gD c Z M
theorem Bu(G:List P2)(k:Nat)(A:List Nat)(hc:∀c∈A,c<G.length)(h0:A≠[]):HS prog (kh G k A):=by
 refine dE fun c Z M r h=>?_
 unfold kh at h;split at h
 ·rename_i i
  split at h
  ·rename_i X
   cases h;obtain⟨W,rfl⟩:=X;refine aI ?_;rw[List.append_nil];have:=Nj G k A hc h0 i.toNat
   rw[Int.toNat_of_nonneg W] at this;exact this
  ·cases h
 ·exact jx Bn h
theorem Nk(G:List P2)(k:Nat)(A:List Nat)(hP:∀p∈G,pDg 2 p)(hc:∀c∈A,c<G.length)(h0:A≠[])(i:Nat)(hi:i≤1000000000):
  kO prog 239 [.int .i64 i,.ptr 6 0] (ft G k A) (.bool (upV G A i)) (ft G k A):=by
 have C:aK prog 239=some f239:=by kernel_rfl
 have H:=Cy hP A i;have hq:=Cy hP A (i+1);unfold upV;obtain⟨p,Z⟩:=xE (Cx G A i);obtain⟨q,X⟩:=xE (Cx G A (i+1));rw[←Z] at H ⊢;rw[←X] at hq ⊢;have w1:IntKind.i64.wrap ((i:Int)+1)=((i+1:Nat):Int):=by rw[aq];omega
 have B:(0:Int)≤(i:Int)+1:=by omega
 have z:((i:Int)+1).toNat=i+1:=by omega
 obtain⟨p1,p2⟩:=dI H.1 (by omega) (by omega) (by omega) (by omega);obtain⟨M,J⟩:=dI H.2 (by omega) (by omega) (by omega) (by omega);obtain⟨q1,q2⟩:=dI hq.1 (by omega) (by omega) (by omega) (by omega);obtain⟨F,D⟩:=dI hq.2 (by omega) (by omega) (by omega) (by omega);obtain⟨px,u⟩:=p;obtain⟨qx,m⟩:=q;simp only at p1 p2 M J q1 q2 F D ⊢;obtain⟨o1,o2,Do⟩:∃o1 o2,aC f239=[o1,o2]:=⟨_,_,rfl⟩
 obtain⟨W,V⟩:=BW Do (l:=[0,0,2,7,15,0,0,111,239,511,1023]) (l' :=[0,1,3,7,15,31,63,63,191,511,1023,63,63,7167,15359,32767,65535,131071,262143,524287]) (by kernel_rfl);have j:ba [0,0,2,7,15,0,0,111,239,511,1023] 10=true:=by decide
 have Y:ba [0,1,3,7,15,31,63,63,191,511,1023,63,63,7167,15359,32767,65535,131071,262143,524287] 19=true:=by decide
 simp[aC,bn,f239] at Do;obtain⟨rfl,rfl⟩:=Do;have key:∀b:Bool,(decide (0<jQ m u)||(decide (jQ m u=0)&&decide (0<jQ qx px)))=b→aa (aN prog) (fun _=>[]) (aK prog) (kh G k A) 1 239 [.int .i64 i,.ptr 6 0] (ft G k A)=some ⟨.bool b,none,[]⟩:=by
  intro b S;by_cases R:0<jQ m u
  ·simp only[R,decide_true,Bool.true_or] at S
   subst S;simp[aa,C,f239,ft,kh,-aB,ag W,ag V,aS,aO,aP,j,Y,w1,B,z,←Z,←X,pA,af,gD,aj,az,ao,M,J,F,D,R,Nat.testBit]
  ·by_cases O:jQ m u=0
   ·by_cases I:0<jQ qx px
    ·simp[O,I] at S
     subst S;simp[aa,C,f239,ft,kh,-aB,ag W,ag V,aS,aO,aP,j,Y,w1,B,z,←Z,←X,pA,af,gD,aj,az,ao,p1,p2,M,J,q1,q2,F,D,O,I,Nat.testBit]
    ·simp[O,I] at S
     subst S;simp[aa,C,f239,ft,kh,-aB,ag W,ag V,aS,aO,aP,j,Y,w1,B,z,←Z,←X,pA,af,gD,aj,az,ao,p1,p2,M,J,q1,q2,F,D,O,I,Nat.testBit]
   ·simp[R,O] at S
    subst S;simp[aa,C,f239,ft,kh,-aB,ag W,ag V,aS,aO,aP,j,Y,w1,B,z,←Z,←X,pA,af,gD,aj,az,ao,M,J,F,D,R,O,Nat.testBit]
 have:=(ah ae (ar _) (Bu G k A hc h0) (au _) (key _ rfl)).1;simpa [aeQ.mem] using this
noncomputable def vw(G:List P2)(k:Nat)(A:List Nat):aeT:=fun c Z M=>match c,Z with
 |.fn 239,[.int .i64 i,.ptr 6 0]=>open Classical in if 0≤i∧i≤1000000000∧M=ft G k A then some ⟨.bool (upV G A i.toNat),none,[]⟩ else none
 |c,Z=>kh G k A c Z M
theorem KX(G:List P2)(k:Nat)(A:List Nat)(H:∀p∈G,pDg 2 p)(hc:∀c∈A,c<G.length)(h0:A≠[]):HS prog (vw G k A):=by
 refine dE fun c Z M r h=>?_
 unfold vw at h;split at h
 ·rename_i i
  split at h
  ·rename_i X
   cases h;obtain⟨W,V,rfl⟩:=X;refine aI ?_;rw[List.append_nil];have:=Nk G k A H hc h0 i.toNat (by omega);rw[Int.toNat_of_nonneg W] at this;exact this
  ·cases h
 ·exact jx (Bu G k A hc h0) h
def UX(G:List P2)(A:List Nat):Prop:=
 A≠[]∧(∀c∈A,c<G.length)∧(∀i,i<A.length→0≤jV (bU (Cx G A i) (Cx G A (i+1)) (Cx G A (i+2))))∧lf G A A.length=1
theorem EM(G:List P2)(A:List Nat):∀n,lf G A n≤n
 |0=>Nat.le_refl _
 |n+1=>by have:=EM G A n;unfold lf;split<;>omega
section
variable (PS:List P2)(k:Nat)(cyc:List Nat)(hP:∀p∈PS,pDg 2 p)(ho:UX PS cyc)(hl:cyc.length≤1000000)
include PS k cyc hP ho hl
theorem Du(hK:cyc.length<K)(hb:ai f162=[b]):
  ∃F:Env→Bool→Env,∀Z d,(ad Z 6=.ptr 6 0∧ad Z 7=.func 239 [.ptr 6 0]∧ad Z 8=.int .i64 0∧ad Z 14=.int .i64 cyc.length∧ad Z 15=.int .i64 0)→
   aM (aN prog) (fun _=>[8,15]) (vw PS k cyc) K 46 3 true (.loop b) ⟨Z,ft PS k cyc,d⟩=some (.exit 0,⟨F Z d,ft PS k cyc,d⟩)∧ad (F Z d) 8=.int .i64 1:=by
 refine cD rfl (fun Z=>ad Z 6=.ptr 6 0∧ad Z 7=.func 239 [.ptr 6 0]∧ad Z 8=.int .i64 0∧ad Z 14=.int .i64 cyc.length∧ad Z 15=.int .i64 0) (fun _ AC =>ad AC 8=.int .i64 1) ?_;rintro Z d ⟨h6,h7,h8,h14,h15⟩;obtain⟨-,-,B,z⟩:=ho;obtain⟨M,u⟩:∃M,aC f162=[M]:=⟨_,rfl⟩
 obtain⟨I',Y⟩:=dj u (l:=[0,0,3,0,0,16,63,0,0,256,1023,2047,4095]) (j:=12) (by kernel_rfl) (by decide);simp[aC,bn,f162] at u;simp[ai,aG,f162] at hb;have J:aD [8,15] (ab b) Z ((8,.int .i64 ((lf PS cyc 0:Nat):Int))::(15,.int .i64 ((0:Nat):Int))::Z)=aD [8,15] (ab b) Z Z:=by simp[aD,h8,h15,lf]
 rw[←J];refine dh (α:=Nat) (fun n=>⟨aD [8,15] (ab b) Z ((8,.int .i64 ((lf PS cyc n:Nat):Int))::(15,.int .i64 (n:Int))::Z),ft PS k cyc,d⟩) (fun n=>cyc.length-n) (fun n=>n≤cyc.length) (.exit 0) _ d _ (by simp) ?_ K 0 (by omega) (by omega);intro n hn1;clear J;subst hb;subst u;by_cases FS:n<cyc.length
 ·left
  have h3:=B n FS;have I:=Cy hP cyc n;have hq:=Cy hP cyc (n+1);have H:=Cy hP cyc (n+2);obtain⟨p,O⟩:=xE (Cx PS cyc n);obtain⟨q,X⟩:=xE (Cx PS cyc (n+1));obtain⟨r,W⟩:=xE (Cx PS cyc (n+2));rw[←O,←X,←W] at h3;rw[←O] at I;rw[←X] at hq;rw[←W] at H;obtain⟨p5,p6⟩:=gn I.1 (by omega) (by omega) (m:=2) (k:=1) (by omega) (by omega);obtain⟨p7,p8⟩:=gn I.2 (by omega) (by omega) (m:=2) (k:=1) (by omega) (by omega);obtain⟨q5,q6⟩:=gn hq.1 (by omega) (by omega) (m:=2) (k:=1) (by omega) (by omega);obtain⟨q7,q8⟩:=gn hq.2 (by omega) (by omega) (m:=2) (k:=1) (by omega) (by omega);obtain⟨r5,r6⟩:=gn H.1 (by omega) (by omega) (m:=2) (k:=1) (by omega) (by omega);obtain⟨r7,r8⟩:=gn H.2 (by omega) (by omega) (m:=2) (k:=1) (by omega) (by omega);obtain⟨px,py⟩:=p;obtain⟨qx,qy⟩:=q;obtain⟨rx,ry⟩:=r;simp only at p5 p6 p7 p8 q5 q6 q7 q8 r5 r6 r7 r8;obtain⟨S,hS⟩:=xE (jV (bU (px,py) (qx,qy) (rx,ry)));rw[←hS] at h3;have G:¬S<0:=by omega
  obtain⟨C,A⟩:=xE (n+1);obtain⟨m2,hm2⟩:=xE (n+2);have w1:IntKind.i64.wrap ((n:Int)+1)=(C:Int):=by rw[aq];omega
  have w2:IntKind.i64.wrap ((n:Int)+2)=(m2:Int):=by rw[aq];omega
  have s5:(n:Int)≤1000000000:=by omega
  have s6:(C:Int)≤1000000000:=by omega
  have s7:n≤1000000000:=by omega
  have s8:C≤1000000000:=by omega
  have hle:=EM PS cyc n;have D:lf PS cyc (n+1)=lf PS cyc n+if !upV PS cyc n&&upV PS cyc (n+1) then 1 else 0:=rfl
  obtain⟨R,hRe⟩:=xE (lf PS cyc n);rw[←hRe] at D hle ⊢;have w3:IntKind.i64.wrap ((R:Int)+1)=((R+1:Nat):Int):=by rw[aq];omega
  obtain⟨U,hU⟩:=xE (upV PS cyc n);obtain⟨V,hV⟩:=xE (upV PS cyc (n+1));rw[←hU,←hV] at D;rw[←A] at D hV X;rw[←hm2] at W;refine⟨C,?_⟩;cases U<;>cases V;all_goals
   simp at D;simp[ft,h6,h7,h14,FS,vw,kh,-aB,ag I',aS,aO,aP,Y,w1,w2,w3,s5,s6,←O,←X,←W,←hU,←hV,pA,af,gD,ao,p5,p6,p7,p8,q5,q6,q7,q8,r5,r6,r7,r8,←hS,G,D,Nat.testBit];omega
 ·right
  have e:n=cyc.length:=by omega
  subst e;have aae :¬(cyc.length:Int)<cyc.length:=by omega
  simp[h14,z]
theorem Nd:
  kO prog 162 [.agg [.slice 0 0 PS.length none,.slice 1 0 k none],.slice 2 0 cyc.length none] [.cells false 2 (pC PS),.aeP,.cells false 1 (cZ cyc)] (.bool true) [.cells false 2 (pC PS),.aeP,.cells false 1 (cZ cyc)]:=by
 have S:aK prog 162=some f162:=by kernel_rfl
 obtain⟨b,Z⟩:∃b,ai f162=[b]:=⟨_,rfl⟩
 obtain⟨F,X⟩:=Du (K:=cyc.length+1) PS k cyc hP ho hl (by omega) Z;simp[ai,aG,f162] at Z;subst Z;have V:=fun W d h=>(X W d h).1
 have O:=fun W d h=>(X W d h).2
 clear X;simp only[ft] at V;refine cR (lv:=(fun _=>[8,15])) (K:=(cyc.length+1)) (KX PS k cyc hP ho.2.1 ho.1) ?_;simp[aa,S,f162,V,O]
end
end Go.Proofs
