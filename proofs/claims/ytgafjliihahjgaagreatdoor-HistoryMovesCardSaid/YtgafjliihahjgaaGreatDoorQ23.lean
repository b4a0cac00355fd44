/- See Q54. -/
import Derived.Test.YtgafjliihahjgaaGreatDoorQ19
set_option linter.all false
namespace Go.Proofs
open Go.Eng
set_option maxHeartbeats 1600000 in
theorem IJ(a b c:P2) (ha:pDg 2 a) (hb:pDg 2 b) (hc:pDg 2 c) (M:Mem):ACallsTo Tryz.prog 159 [pA a,pA b,pA c] M (.str (ah (wR a b c))) M:=by
 have hG:aL Tryz.prog 159=some Tryz.f159:=by kernel_rfl
 obtain⟨a1,a2⟩:=a;obtain⟨b1,b2⟩:=b;obtain⟨c1,c2⟩:=c;obtain⟨A1,A2⟩:=ha;obtain⟨B1,B2⟩:=hb;obtain⟨C1,C2⟩:=hc;simp only at A1 A2 B1 B2 C1 C2;have X1:=KJ B1 A1 (m:=3) (by omega) (by omega);have X2:=KJ C2 A2 (m:=3) (by omega) (by omega);have X3:=KJ B2 A2 (m:=3) (by omega) (by omega);have X4:=KJ C1 A1 (m:=3) (by omega) (by omega);have Y1:=Ht X1 X2;have Y2:=Ht X3 X4;obtain⟨p1,p2⟩:=cQ A1 (by omega) (by omega) (by omega) (by omega);obtain⟨p3,p4⟩:=cQ A2 (by omega) (by omega) (by omega) (by omega);obtain⟨q1,q2⟩:=cQ B1 (by omega) (by omega) (by omega) (by omega);obtain⟨q3,q4⟩:=cQ B2 (by omega) (by omega) (by omega) (by omega);obtain⟨r1,r2⟩:=cQ C1 (by omega) (by omega) (by omega) (by omega);obtain⟨r3,r4⟩:=cQ C2 (by omega) (by omega) (by omega) (by omega);obtain⟨s1,s2⟩:=cQ X1 (by omega) (by omega) (by omega) (by omega);obtain⟨s3,s4⟩:=cQ X2 (by omega) (by omega) (by omega) (by omega);obtain⟨s5,s6⟩:=cQ X3 (by omega) (by omega) (by omega) (by omega);obtain⟨s7,s8⟩:=cQ X4 (by omega) (by omega) (by omega) (by omega);obtain⟨t1,t2⟩:=cQ Y1 (by omega) (by omega) (by omega) (by omega);obtain⟨t3,t4⟩:=cQ Y2 (by omega) (by omega) (by omega) (by omega);clear Y1 Y2 X1 X2 X3 X4 A1 A2 B1 B2 C1 C2;unfold wR;simp only;obtain⟨x1,hx1⟩:∃p,p=b1-a1:=⟨_,rfl⟩
 obtain⟨x2,hx2⟩:∃p,p=c2-a2:=⟨_,rfl⟩
 obtain⟨x3,hx3⟩:∃p,p=b2-a2:=⟨_,rfl⟩
 obtain⟨x4,hx4⟩:∃p,p=c1-a1:=⟨_,rfl⟩
 rw[←hx1] at s1 s2 t1 t2;rw[←hx2] at s3 s4 t1 t2;rw[←hx3] at s5 s6 t3 t4;rw[←hx4] at s7 s8 t3 t4;rw[←hx1,←hx2,←hx3,←hx4];obtain⟨y1,hy1⟩:∃p,p=x1*x2:=⟨_,rfl⟩
 obtain⟨y2,hy2⟩:∃p,p=x3*x4:=⟨_,rfl⟩
 rw[←hy1] at t1 t2;rw[←hy2] at t3 t4;rw[←hy1,←hy2];refine aq bK (lv:=fun _=>[]) (K:=1) rfl rfl ?_ M;obtain⟨o1,o2,hops⟩:∃o1 o2,aE Tryz.f159=[o1,o2]:=⟨_,_,rfl⟩
 obtain⟨hb1,hb2⟩:=Hv hops (l:=[0,1,0,4,15,0,32,0,128,511,1023,2047]) (l' :=[0,0,2,0,8,30,0,64,0,256,1022,2046,4095,8191]) (by kernel_rfl);have k1:aN [0,1,0,4,15,0,32,0,128,511,1023,2047] 11=true:=by decide
 have k2:aN [0,0,2,0,8,30,0,64,0,256,1022,2046,4095,8191] 13=true:=by decide
 simp[aE,bC,Tryz.f159] at hops;obtain⟨rfl,rfl⟩:=hops;simp[aa,hG,Tryz.f159,-aD,ai hb1,ai hb2,bc,aW,a8,k1,k2,pA,ay,af,aA,aC,p1,p2,p3,p4,q1,q2,q3,q4,r1,r2,r3,r4,s1,s2,s3,s4,s5,s6,s7,s8,t1,t2,t3,t4,←hx1,←hx2,←hx3,←hx4,←hy1,←hy2,Nat.testBit]
noncomputable def yk(f:FuncId) (args:List AV):Option AV:=
 match f,args with
 |159,[.agg [.str a,.str b],.agg [.str c,.str d],.agg [.str e,.str f]]=>match cV a,cV b,cV c,cV d,cV e,cV f with
  |some a,some b,some c,some d,some e,some f=>if (aJ a.num.natAbs).length≤2∧(aJ a.den).length≤1∧(aJ b.num.natAbs).length≤2∧(aJ b.den).length≤1∧(aJ c.num.natAbs).length≤2∧(aJ c.den).length≤1∧
    (aJ d.num.natAbs).length≤2∧(aJ d.den).length≤1∧(aJ e.num.natAbs).length≤2∧(aJ e.den).length≤1∧(aJ f.num.natAbs).length≤2∧(aJ f.den).length≤1 then some (.str (ah (wR (a,b) (c,d) (e,f)))) else none
  |_,_,_,_,_,_=>none
 |f,args=>aA f args
theorem Jw:OracleOk Tryz.prog (af yk):=bq fun f args v h mem=>by
 unfold yk at h;split at h
 ·split at h
  ·rename_i a b c d e f ha hb hc hd he hf
   split at h
   ·rename_i hcond
    obtain⟨c1,c2,c3,c4,c5,c6,c7,c8,c9,c10,c11,c12⟩:=hcond;cases h;rw[au ha,au hb,au hc,au hd,au he,au hf];exact IJ (a,b) (c,d) (e,f) ⟨(cB ⟨c1,c2⟩).mono (by omega) (by omega),(cB ⟨c3,c4⟩).mono (by omega) (by omega)⟩
     ⟨(cB ⟨c5,c6⟩).mono (by omega) (by omega),(cB ⟨c7,c8⟩).mono (by omega) (by omega)⟩ ⟨(cB ⟨c9,c10⟩).mono (by omega) (by omega),(cB ⟨c11,c12⟩).mono (by omega) (by omega)⟩ mem
   ·cases h
  ·cases h
 ·have:=bK.fn _ _ mem ⟨v,none,[]⟩ (by unfold af;simp only;rw[h])
  simpa [CallRes.mem] using this
theorem fj{n d m k:Nat}{q:Rat}(h:dg n d q) (h0:0<n) (h1:0<d) (hm:n≤m) (hk:d≤k):(aJ q.num.natAbs).length≤m∧(aJ q.den).length≤k:=by have:=h.lens h0 h1;exact⟨by omega,by omega⟩
set_option maxHeartbeats 1600000 in
theorem IL(a b c:P2) (ha:pDg 2 a) (hb:pDg 2 b) (hc:pDg 2 c) (M:Mem):ACallsTo Tryz.prog 106 [pA a,pA b,pA c] M (.int .i64 (Ko (wR a b c))) M:=by
 have hG:aL Tryz.prog 106=some Tryz.f106:=by kernel_rfl
 obtain⟨a1,a2⟩:=a;obtain⟨b1,b2⟩:=b;obtain⟨c1,c2⟩:=c;obtain⟨p1,p2⟩:=fj ha.1 (by omega) (by omega) (Nat.le_refl _) (Nat.le_refl _);obtain⟨p3,p4⟩:=fj ha.2 (by omega) (by omega) (Nat.le_refl _) (Nat.le_refl _);obtain⟨q1,q2⟩:=fj hb.1 (by omega) (by omega) (Nat.le_refl _) (Nat.le_refl _);obtain⟨q3,q4⟩:=fj hb.2 (by omega) (by omega) (Nat.le_refl _) (Nat.le_refl _);obtain⟨r1,r2⟩:=fj hc.1 (by omega) (by omega) (Nat.le_refl _) (Nat.le_refl _);obtain⟨r3,r4⟩:=fj hc.2 (by omega) (by omega) (Nat.le_refl _) (Nat.le_refl _);refine aq Jw (lv:=fun _=>[]) (K:=1) rfl rfl ?_ M;simp only at p1 p2 p3 p4 q1 q2 q3 q4 r1 r2 r3 r4;obtain⟨y,hy⟩:∃y,y=wR (a1,a2) (b1,b2) (c1,c2):=⟨_,rfl⟩
 rw[←hy];simp[aa,hG,Tryz.f106,pA,ay,af,yk,aA,aC,bQ,be,p1,p2,p3,p4,q1,q2,q3,q4,r1,r2,r3,r4,←hy]
theorem ji(d:Nat) (x y:List UInt8):gT (aM Tryz.prog) (d+1) 29 (.str x) (.str y)=some (x==y):=by rw[gT];simp
theorem Oi(p q:P2):gT (aM Tryz.prog) 20 101 (pA p) (pA q)=some (decide (p.1=q.1)&&decide (p.2=q.2)):=by have i:=ji 18;rw[gT];simp[pA,Ny,im,TyI.isAgg,i,Dl]
theorem AK(p:P2):∀(L:List P2) (i:Nat),p∉L→ig (aM Tryz.prog) 101 (pA p) (L.map pmE) i=some none
 | [],i,_=>rfl
 |q::L,i,h=>by
  have e:=Oi p q;have hne:(decide (p.1=q.1)&&decide (p.2=q.2))=false:=by rw[←Bool.not_eq_true];intro h2;simp only[Bool.and_eq_true,decide_eq_true_eq] at h2;exact h (by rw[show p=q from Prod.ext h2.1 h2.2];exact List.mem_cons_self ..)
  simp only[List.map_cons,ig,pmE,e,hne];exact AK p L (i+1) (fun h2=>h (List.mem_cons_of_mem _ h2))
theorem Oy(p:P2):jN (aM Tryz.prog) 20 101 (pA p)=true:=by simp[pA,jN,Pn,im,TyI.isAgg]
noncomputable def fE(f:FuncId) (args:List AV):Option AV:=
 match f,args with
 |106,[.agg [.str a,.str b],.agg [.str c,.str d],.agg [.str e,.str f]]=>match cV a,cV b,cV c,cV d,cV e,cV f with
  |some a,some b,some c,some d,some e,some f=>if (aJ a.num.natAbs).length≤2∧(aJ a.den).length≤1∧(aJ b.num.natAbs).length≤2∧(aJ b.den).length≤1∧(aJ c.num.natAbs).length≤2∧(aJ c.den).length≤1∧
    (aJ d.num.natAbs).length≤2∧(aJ d.den).length≤1∧(aJ e.num.natAbs).length≤2∧(aJ e.den).length≤1∧(aJ f.num.natAbs).length≤2∧(aJ f.den).length≤1 then some (.int .i64 (Ko (wR (a,b) (c,d) (e,f)))) else none
  |_,_,_,_,_,_=>none
 |105,[.agg [.str a,.str b]]=>if a.length≤18∧b.length≤18 then some (.int .i64 (tq [a,b])) else none
 |f,args=>aA f args
theorem yj:OracleOk Tryz.prog (af fE):=bq fun f args v h mem=>by
 unfold fE at h;split at h
 ·split at h
  ·rename_i a b c d e f ha hb hc hd he hf
   split at h
   ·rename_i hcond
    obtain⟨c1,c2,c3,c4,c5,c6,c7,c8,c9,c10,c11,c12⟩:=hcond;cases h;rw[au ha,au hb,au hc,au hd,au he,au hf];exact IL (a,b) (c,d) (e,f) ⟨(cB ⟨c1,c2⟩).mono (by omega) (by omega),(cB ⟨c3,c4⟩).mono (by omega) (by omega)⟩
     ⟨(cB ⟨c5,c6⟩).mono (by omega) (by omega),(cB ⟨c7,c8⟩).mono (by omega) (by omega)⟩ ⟨(cB ⟨c9,c10⟩).mono (by omega) (by omega),(cB ⟨c11,c12⟩).mono (by omega) (by omega)⟩ mem
   ·cases h
  ·cases h
 ·split at h
  ·rename_i hc;cases h;exact lh _ _ hc.1 hc.2 mem
  ·cases h
 ·have:=bK.fn _ _ mem ⟨v,none,[]⟩ (by unfold af;simp only;rw[h])
  simpa [CallRes.mem] using this
theorem S7{p:P2}(h:pDg 2 p):tq [ah p.1,ah p.2]=0:=by simp[tq,qX (h.1.mono (by decide) (by decide)),qX (h.2.mono (by decide) (by decide))]
noncomputable def mu(wb:Bool) (PS:List P2) (TS:List Tr):Oracle:=fun c args M=>match c,args with
 |.fn 107,[.agg [.slice b 0 n none,.slice c 0 k none]]=>open Classical in if n=PS.length∧k=TS.length∧(∃o,M[b]? =some (.cells o 2 (pC PS)))∧(∃o,M[c]? =some (.cells o 3 (tC TS))) then some ⟨.bool wb,none,[]⟩ else none
 |.fn 108,[.agg [.slice b 0 n none,.slice c 0 k none],.int .i64 i,.int .i64 j]=>open Classical in if wb=false∧n=PS.length∧k=TS.length∧(∃o,M[b]? =some (.cells o 2 (pC PS)))∧(∃o,M[c]? =some (.cells o 3 (tC TS)))∧0≤j∧j<i∧i<TS.length then some ⟨.bool false,none,[]⟩ else none
 |c,args=>af fE c args M
def sa(c:Code):List Nat:=if (ad c).contains 32 then [32] else if (ad c).contains 48 then [48] else if (ad c).contains 53 then [53] else if (ad c).contains 92 then [92] else if (ad c).contains 96 then [96] else []
def msB(n k:Nat):Slot:=.cells true 0 [.slice 0 0 n none,.slice 1 0 k none]
set_option maxHeartbeats 6400000 in
theorem tZ{K:Nat}(wb:Bool) (PS:List P2) (TS:List Tr) (hP:∀p∈PS,pDg 2 p) (hn:PS.Nodup) (hl:PS.length≤1000000000) (hK:PS.length<K) {b b2 b3 b4 b5:Code}(hb:ax Tryz.f59=[b,b2,b3,b4,b5]):
  ∃F:Env→Bool→Env,∀env0 d,(ab env0 30=.slice 0 0 PS.length none∧ab env0 31=.int .i64 PS.length∧ab env0 32=.int .i64 0∧ab env0 3=.map 3∧ab env0 1=.ptr 2 0)→
   aT (aM Tryz.prog) sa (mu wb PS TS) K 105 2 true (.loop b) ⟨env0,[.cells false 2 (pC PS),.cells false 3 (tC TS),msB PS.length TS.length,.map []],d⟩=some (.exit 1,⟨F env0 d,[.cells false 2 (pC PS),.cells false 3 (tC TS),msB PS.length TS.length,.map (PS.map pmE)],d⟩)∧ab (F env0 d) 1=.ptr 2 0:=by
 refine cg (L:=[32]) (by simp[ax,aV,Tryz.f59] at hb;rw[←hb.1];rfl) (fun env0=>ab env0 30=.slice 0 0 PS.length none∧ab env0 31=.int .i64 PS.length∧ab env0 32=.int .i64 0∧ab env0 3=.map 3∧ab env0 1=.ptr 2 0) (fun _ env' =>ab env' 1=.ptr 2 0) ?_;rintro env0 d ⟨h30,h31,h32,h3,h1⟩;simp[ax,aV,Tryz.f59] at hb;obtain⟨hb,-⟩:=hb;have hn0:aI [32] (ad b) env0 ((32,.int .i64 ((0:Nat):Int))::env0)=aI [32] (ad b) env0 env0:=by simp[aI,h32]
 rw[←hn0];refine cG (α:=Nat) (fun n=>⟨aI [32] (ad b) env0 ((32,.int .i64 (n:Int))::env0),[.cells false 2 (pC PS),.cells false 3 (tC TS),msB PS.length TS.length,.map ((PS.take n).map pmE)],d⟩) (fun n=>PS.length-n) (fun n=>n≤PS.length) (.exit 1) _ d _ (by simp) ?_ K 0 (by omega) (by omega);intro n hn1;clear hn0;subst hb;by_cases hlt:n<PS.length
 ·left
  obtain⟨p,hp⟩:∃q,PS[n]? =some q:=⟨PS[n],List.getElem?_eq_getElem hlt⟩
  obtain⟨k1,k2,k3,k4⟩:=PL hp;have hpd:=hP p (List.mem_of_getElem? hp);have hnot:p∉PS.take n:=by intro hm;obtain⟨j,hj,he⟩:=List.mem_iff_getElem.1 hm;rw[List.length_take] at hj;rw[List.getElem_take] at he;have h1:=List.getElem?_eq_some_iff.1 hp;obtain⟨h1,h2⟩:=h1;have:=(List.getElem_inj (h₀:=by omega) (h₁:=h1) hn).1 (he.trans h2.symm);omega
  have f1:=AK p (PS.take n) 0 hnot;have f2:=Oy p;have e1:(PS.take (n+1)).map pmE=(PS.take n).map pmE++[pmE p]:=by rw[List.take_add_one,hp];simp
  have w1:IntKind.i64.wrap ((n:Int)+1)=((n+1:Nat):Int):=by rw[aj (by omega) (by omega)];omega
  have c1:=S7 hpd;have l1:=Pq hpd.1 (by omega) (by omega);have l2:=Pq hpd.2 (by omega) (by omega);obtain⟨m,hm⟩:∃m,m=n+1:=⟨_,rfl⟩
  rw[←hm] at w1 e1;have r1:=Ds 4 (PS.take n);obtain⟨E,hE⟩:∃E,E=(PS.take n).map pmE:=⟨_,rfl⟩
  rw[←hE] at f1 e1 r1;rw[←hE];refine⟨m,?_⟩;obtain⟨px,py⟩:=p;simp only[pA,pmE] at f1 f2 e1 k1 c1 l1 l2;simp[h30,h31,h3,hlt,mu,af,fE,k1,k4,c1,l1,l2,w1,f1,f2,e1,r1,msB,dK,dT,jx,ix,dU];omega
 ·right
  have e:PS.take n=PS:=List.take_of_length_le (by omega);rw[e];have hlt' :¬(n:Int)<PS.length:=by omega
  simp[h31,h1,hlt]
def TN(PS:List P2) (t:Tr):Prop:=∃p q r,PS[t.1]? =some p∧PS[t.2.1]? =some q∧PS[t.2.2]? =some r∧0<Ko (wR p q r)
set_option maxRecDepth 8192 in
set_option maxHeartbeats 12800000 in
theorem ua{K:Nat}(wb:Bool) (PS:List P2) (TS:List Tr) (E:List (AV×AV)) (hP:∀p∈PS,pDg 2 p) (hT:∀t∈TS,TN PS t) (hl:PS.length≤1000000000) (hl2:TS.length≤1000000000) (hE:E.flatMap (fun e=>e.1.refs 4++e.2.refs 4)=[]) (hK:TS.length<K+5) {b1 b b3 b4 b5:Code}(hb:ax Tryz.f59=[b1,b,b3,b4,b5]):
  ∃F:Env→Bool→Env,∀env0 d,(ab env0 1=.ptr 2 0∧ab env0 46=.slice 1 0 TS.length none∧ab env0 47=.int .i64 TS.length∧ab env0 48=.int .i64 0)→
   aT (aM Tryz.prog) sa (mu wb PS TS) (K+5) 105 2 true (.loop b) ⟨env0,[.cells false 2 (pC PS),.cells false 3 (tC TS),msB PS.length TS.length,.map E],d⟩=some (.exit 3,⟨F env0 d,[.cells false 2 (pC PS),.cells false 3 (tC TS),msB PS.length TS.length,.map E],d⟩)∧ab (F env0 d) 1=.ptr 2 0:=by
 refine cg (L:=[48]) (by simp[ax,aV,Tryz.f59] at hb;rw[←hb.2.1];rfl) (fun env0=>ab env0 1=.ptr 2 0∧ab env0 46=.slice 1 0 TS.length none∧ab env0 47=.int .i64 TS.length∧ab env0 48=.int .i64 0) (fun _ env' =>ab env' 1=.ptr 2 0) ?_;rintro env0 d ⟨h1,h46,h47,h48⟩;obtain⟨ops,hops⟩:∃ops,aE Tryz.f59=[ops]:=⟨_,rfl⟩
 have hbs:=cE hops (l:=[0,1,0,4,15,31,0,64,0,256,960,1984,0,4096,0,16384,61440,126976,262143,524287]) (by kernel_rfl);have hab:aN [0,1,0,4,15,31,0,64,0,256,960,1984,0,4096,0,16384,61440,126976,262143,524287] 19=true:=by decide
 simp[aE,bC,Tryz.f59] at hops;simp[ax,aV,Tryz.f59] at hb;obtain⟨-,hb,-⟩:=hb;have hn0:aI [48] (ad b) env0 ((48,.int .i64 ((0:Nat):Int))::env0)=aI [48] (ad b) env0 env0:=by simp[aI,h48]
 rw[←hn0];refine cG (α:=Nat) (fun n=>⟨aI [48] (ad b) env0 ((48,.int .i64 (n:Int))::env0),[.cells false 2 (pC PS),.cells false 3 (tC TS),msB PS.length TS.length,.map E],d⟩) (fun n=>TS.length-n) (fun n=>n≤TS.length) (.exit 3) _ d _ (by simp) ?_ (K+5) 0 (by omega) (by omega);intro n hn1;clear hn0;subst hb;subst hops;by_cases hlt:n<TS.length
 ·left
  obtain⟨t,ht⟩:∃q,TS[n]? =some q:=⟨TS[n],List.getElem?_eq_getElem hlt⟩
  obtain⟨k1,k2⟩:=Ti ht;obtain⟨p,q,r,e1,e2,e3,hpos⟩:=hT t (List.mem_of_getElem? ht);obtain⟨i1,i2,i3⟩:=t;simp only at e1 e2 e3 k1;obtain⟨p1,-,-,p4⟩:=PL e1;obtain⟨q1,-,-,q4⟩:=PL e2;obtain⟨r1,-,-,r4⟩:=PL e3;have a1:=(List.getElem?_eq_some_iff.1 e1).1;have a2:=(List.getElem?_eq_some_iff.1 e2).1;have a3:=(List.getElem?_eq_some_iff.1 e3).1;have a1' :¬((i1:Int)<0):=by omega
  have a2' :¬((i2:Int)<0):=by omega
  have a3' :¬((i3:Int)<0):=by omega
  have a1'' :¬((PS.length:Int)≤i1):=by omega
  have a2'' :¬((PS.length:Int)≤i2):=by omega
  have a3'' :¬((PS.length:Int)≤i3):=by omega
  have g1:¬PS.length≤i1:=by omega
  have g2:¬PS.length≤i2:=by omega
  have g3:¬PS.length≤i3:=by omega
  have hp:=hP p (List.mem_of_getElem? e1);have hq:=hP q (List.mem_of_getElem? e2);have hr:=hP r (List.mem_of_getElem? e3);obtain⟨p5,p6⟩:=fj hp.1 (by omega) (by omega) (m:=2) (k:=1) (by omega) (by omega);obtain⟨p7,p8⟩:=fj hp.2 (by omega) (by omega) (m:=2) (k:=1) (by omega) (by omega);obtain⟨q5,q6⟩:=fj hq.1 (by omega) (by omega) (m:=2) (k:=1) (by omega) (by omega);obtain⟨q7,q8⟩:=fj hq.2 (by omega) (by omega) (m:=2) (k:=1) (by omega) (by omega);obtain⟨r5,r6⟩:=fj hr.1 (by omega) (by omega) (m:=2) (k:=1) (by omega) (by omega);obtain⟨r7,r8⟩:=fj hr.2 (by omega) (by omega) (m:=2) (k:=1) (by omega) (by omega);obtain⟨px,py⟩:=p;obtain⟨qx,qy⟩:=q;obtain⟨rx,ry⟩:=r;simp only at p1 q1 r1 p5 p6 p7 p8 q5 q6 q7 q8 r5 r6 r7 r8;obtain⟨S,hS⟩:∃S,S=Ko (wR (px,py) (qx,qy) (rx,ry)):=⟨_,rfl⟩
  rw[←hS] at hpos;have hneg:¬S≤0:=by omega
  have w1:IntKind.i64.wrap ((n:Int)+1)=((n+1:Nat):Int):=by rw[aj (by omega) (by omega)];omega
  obtain⟨m,hm⟩:∃m,m=n+1:=⟨_,rfl⟩
  rw[←hm] at w1;have v1:IntKind.i64.wrap 1=1:=rfl;have v2:IntKind.i64.wrap 2=2:=rfl;have v3:IntKind.i64.wrap 3=3:=rfl;have v2' :IntKind.i64.wrap (1+1)=2:=rfl;have v3' :IntKind.i64.wrap (2+1)=3:=rfl;refine⟨m,?_⟩;clear hP hT;simp[h1,h46,h47,hlt,k1,k2,aB,dV,v1,v2,v3,sa,a1,a2,a3,a1',a2',a3',a1'',a2'',a3'',p1,q1,r1,p4,q4,r4,-aD,ai hbs,bc,aW,a8,hab,
   mu,af,fE,ay,p5,p6,p7,p8,q5,q6,q7,q8,r5,r6,r7,r8,←hS,hneg,hE,msB,dK,dT,w1,Nat.testBit]
  omega
 ·right
  have hlt' :¬(n:Int)<TS.length:=by omega
  simp[h47,h1,hlt]
theorem QZ:aM Tryz.prog 303=some ⟨.func #[3] #[101] false,1,8,.nilFunc,true⟩:=by kernel_rfl
theorem QY:aM Tryz.prog 304=some ⟨.func #[3] #[4] false,1,8,.nilFunc,true⟩:=by kernel_rfl
attribute [simp] QZ QY
def cZ(cyc:List Nat):List AV:=cyc.map fun(n:Nat)=>.int .i64 (n:Int)
theorem TB{cyc:List Nat}{i c:Nat}(h:cyc[i]? =some c):(cZ cyc)[i]? =some (.int .i64 (c:Int)):=by simp[cZ,h]
def zq(PS:List P2) (cyc:List Nat) (i:Nat):P2:=PS.getD (cyc.getD (i%cyc.length) 0) (0,0)
theorem zr{PS:List P2}(hP:∀p∈PS,pDg 2 p) (cyc:List Nat) (i:Nat):pDg 2 (zq PS cyc i):=by
 unfold zq;rw[List.getD_eq_getElem?_getD];cases h:PS[cyc.getD (i%cyc.length) 0]? with
 |none=>exact⟨⟨by decide,by decide⟩,⟨by decide,by decide⟩⟩
 |some p=>exact hP p (List.mem_of_getElem? h)
def upV(PS:List P2) (cyc:List Nat) (i:Nat):Bool:=
 decide (0<qY (zq PS cyc (i+1)).2 (zq PS cyc i).2)||(decide (qY (zq PS cyc (i+1)).2 (zq PS cyc i).2=0)&&decide (0<qY (zq PS cyc (i+1)).1 (zq PS cyc i).1))
def jE(PS:List P2) (cyc:List Nat):Nat→Nat
 |0=>0
 |n+1=>jE PS cyc n+if !upV PS cyc n&&upV PS cyc (n+1) then 1 else 0
def dP(PS:List P2) (k:Nat) (cyc:List Nat):Mem:=[.cells false 2 (pC PS),.absent,.cells false 1 (cZ cyc),.cells true 0 [.slice 0 0 PS.length none,.slice 1 0 k none],.cells true 0 [.slice 2 0 cyc.length none],.cells true 0 [.int .i64 cyc.length],.cells true 0 [.func 238 [.ptr 3 0,.ptr 4 0,.ptr 5 0]]]
set_option maxHeartbeats 1600000 in
theorem IQ(PS:List P2) (k:Nat) (cyc:List Nat) (hc:∀c∈cyc,c<PS.length) (h0:cyc≠[]) (i:Nat):
  ACallsTo Tryz.prog 238 [.int .i64 i,.ptr 3 0,.ptr 4 0,.ptr 5 0] (dP PS k cyc) (pA (zq PS cyc i)) (dP PS k cyc):=by
 have hG:aL Tryz.prog 238=some Tryz.f238:=by kernel_rfl
 have hn:0<cyc.length:=by cases cyc with | nil=>exact absurd rfl h0 | cons a l=>simp
 have hj:i%cyc.length<cyc.length:=Nat.mod_lt _ hn;obtain⟨c,hcg⟩:∃c,cyc[i%cyc.length]? =some c:=⟨_,List.getElem?_eq_getElem hj⟩
 have hcl:=hc c (List.mem_of_getElem? hcg);obtain⟨p,hp⟩:∃p,PS[c]? =some p:=⟨_,List.getElem?_eq_getElem hcl⟩
 have hpt:zq PS cyc i=p:=by unfold zq;rw[List.getD_eq_getElem?_getD,List.getD_eq_getElem?_getD,hcg];simp[hp]
 rw[hpt];obtain⟨k1,-,-,k4⟩:=PL hp;have k5:=TB hcg;have ht:(i:Int).tmod (cyc.length:Int)=((i%cyc.length:Nat):Int):=xo i cyc.length;have hz:¬((cyc.length:Int)=0):=by omega
 have hz2:¬cyc.length=0:=by omega
 obtain⟨j,hje⟩:∃j,j=i%cyc.length:=⟨_,rfl⟩
 rw[←hje] at ht hj k5 hcg;obtain⟨ops,hops⟩:∃ops,aE Tryz.f238=[ops]:=⟨_,rfl⟩
 have hbs:=cE hops (l:=[0,1,0,0,0,24,60,124,255,511,1023]) (by kernel_rfl);have hab:aN [0,1,0,0,0,24,60,124,255,511,1023] 10=true:=by decide
 simp[aE,bC,Tryz.f238] at hops;subst hops;obtain⟨px,py⟩:=p;simp only at k1;have h:aa (aM Tryz.prog) (fun _=>[]) (aL Tryz.prog) bJ 1 238 [.int .i64 i,.ptr 3 0,.ptr 4 0,.ptr 5 0] (dP PS k cyc)=some ⟨pA (px,py),none,[]⟩:=by simp[aa,hG,Tryz.f238,dP,-aD,ai hbs,bc,aW,a8,hab,ht,hz2,hj,k5,k1,k4,hcl,pA]
 have:=(al ae (aw _) (ao _) (az _) h).1;simpa [CallRes.mem] using this
noncomputable def iW(PS:List P2) (k:Nat) (cyc:List Nat):Oracle:=fun c args M=>match c,args with
 |.fn 238,[.int .i64 i,.ptr 3 0,.ptr 4 0,.ptr 5 0]=>open Classical in if 0≤i∧M=dP PS k cyc then some ⟨pA (zq PS cyc i.toNat),none,[]⟩ else none
 |c,args=>af fE c args M
theorem yo(PS:List P2) (k:Nat) (cyc:List Nat) (hc:∀c∈cyc,c<PS.length) (h0:cyc≠[]):OracleOk Tryz.prog (iW PS k cyc):=by
 refine cO fun c args M r h=>?_
 unfold iW at h;split at h
 ·rename_i i
  split at h
  ·rename_i hcond
   cases h;obtain⟨h1,rfl⟩:=hcond;refine ag ?_;rw[List.append_nil];have:=IQ PS k cyc hc h0 i.toNat
   rw[Int.toNat_of_nonneg h1] at this;exact this
  ·cases h
 ·exact iu yj h
set_option maxRecDepth 8192 in
set_option maxHeartbeats 6400000 in
theorem IS(PS:List P2) (k:Nat) (cyc:List Nat) (hP:∀p∈PS,pDg 2 p) (hc:∀c∈cyc,c<PS.length) (h0:cyc≠[]) (i:Nat) (hi:i≤1000000000):
  ACallsTo Tryz.prog 239 [.int .i64 i,.ptr 6 0] (dP PS k cyc) (.bool (upV PS cyc i)) (dP PS k cyc):=by
 have hG:aL Tryz.prog 239=some Tryz.f239:=by kernel_rfl
 have hp:=zr hP cyc i;have hq:=zr hP cyc (i+1);unfold upV;obtain⟨p,hpe⟩:∃p,p=zq PS cyc i:=⟨_,rfl⟩
 obtain⟨q,hqe⟩:∃q,q=zq PS cyc (i+1):=⟨_,rfl⟩
 rw[←hpe] at hp ⊢;rw[←hqe] at hq ⊢;have w1:IntKind.i64.wrap ((i:Int)+1)=((i+1:Nat):Int):=by rw[aj (by omega) (by omega)];omega
 have s1:(0:Int)≤(i:Int)+1:=by omega
 have s2:((i:Int)+1).toNat=i+1:=by omega
 obtain⟨p1,p2⟩:=cQ hp.1 (by omega) (by omega) (by omega) (by omega);obtain⟨p3,p4⟩:=cQ hp.2 (by omega) (by omega) (by omega) (by omega);obtain⟨q1,q2⟩:=cQ hq.1 (by omega) (by omega) (by omega) (by omega);obtain⟨q3,q4⟩:=cQ hq.2 (by omega) (by omega) (by omega) (by omega);obtain⟨px,py⟩:=p;obtain⟨qx,qy⟩:=q;simp only at p1 p2 p3 p4 q1 q2 q3 q4 ⊢;obtain⟨o1,o2,hops⟩:∃o1 o2,aE Tryz.f239=[o1,o2]:=⟨_,_,rfl⟩
 obtain⟨hb1,hb2⟩:=Hv hops (l:=[0,0,2,7,15,0,0,111,239,511,1023]) (l' :=[0,1,3,7,15,31,63,63,191,511,1023,63,63,7167,15359,32767,65535,131071,262143,524287]) (by kernel_rfl);have k1:aN [0,0,2,7,15,0,0,111,239,511,1023] 10=true:=by decide
 have k2:aN [0,1,3,7,15,31,63,63,191,511,1023,63,63,7167,15359,32767,65535,131071,262143,524287] 19=true:=by decide
 simp[aE,bC,Tryz.f239] at hops;obtain⟨rfl,rfl⟩:=hops;have key:∀b:Bool,(decide (0<qY qy py)||(decide (qY qy py=0)&&decide (0<qY qx px)))=b→aa (aM Tryz.prog) (fun _=>[]) (aL Tryz.prog) (iW PS k cyc) 1 239 [.int .i64 i,.ptr 6 0] (dP PS k cyc)=some ⟨.bool b,none,[]⟩:=by
  intro b hb;by_cases c1:0<qY qy py
  ·simp only[c1,decide_true,Bool.true_or] at hb
   subst hb;simp[aa,hG,Tryz.f239,dP,iW,-aD,ai hb1,ai hb2,bc,aW,a8,k1,k2,w1,s1,s2,←hpe,←hqe,pA,af,fE,aA,aC,ay,p3,p4,q3,q4,c1,Nat.testBit]
  ·by_cases c2:qY qy py=0
   ·by_cases c3:0<qY qx px
    ·simp[c2,c3] at hb
     subst hb;simp[aa,hG,Tryz.f239,dP,iW,-aD,ai hb1,ai hb2,bc,aW,a8,k1,k2,w1,s1,s2,←hpe,←hqe,pA,af,fE,aA,aC,ay,p1,p2,p3,p4,q1,q2,q3,q4,c2,c3,Nat.testBit]
    ·simp[c2,c3] at hb
     subst hb;simp[aa,hG,Tryz.f239,dP,iW,-aD,ai hb1,ai hb2,bc,aW,a8,k1,k2,w1,s1,s2,←hpe,←hqe,pA,af,fE,aA,aC,ay,p1,p2,p3,p4,q1,q2,q3,q4,c2,c3,Nat.testBit]
   ·simp[c1,c2] at hb
    subst hb;simp[aa,hG,Tryz.f239,dP,iW,-aD,ai hb1,ai hb2,bc,aW,a8,k1,k2,w1,s1,s2,←hpe,←hqe,pA,af,fE,aA,aC,ay,p3,p4,q3,q4,c1,c2,Nat.testBit]
 have:=(al ae (aw _) (yo PS k cyc hc h0) (az _) (key _ rfl)).1;simpa [CallRes.mem] using this
noncomputable def se(PS:List P2) (k:Nat) (cyc:List Nat):Oracle:=fun c args M=>match c,args with
 |.fn 239,[.int .i64 i,.ptr 6 0]=>open Classical in if 0≤i∧i≤1000000000∧M=dP PS k cyc then some ⟨.bool (upV PS cyc i.toNat),none,[]⟩ else none
 |c,args=>iW PS k cyc c args M
theorem GP(PS:List P2) (k:Nat) (cyc:List Nat) (hP:∀p∈PS,pDg 2 p) (hc:∀c∈cyc,c<PS.length) (h0:cyc≠[]):OracleOk Tryz.prog (se PS k cyc):=by
 refine cO fun c args M r h=>?_
 unfold se at h;split at h
 ·rename_i i
  split at h
  ·rename_i hcond
   cases h;obtain⟨h1,h2,rfl⟩:=hcond;refine ag ?_;rw[List.append_nil];have:=IS PS k cyc hP hc h0 i.toNat (by omega);rw[Int.toNat_of_nonneg h1] at this;exact this
  ·cases h
 ·exact iu (yo PS k cyc hc h0) h
def PG(PS:List P2) (cyc:List Nat):Prop:=
 cyc≠[]∧(∀c∈cyc,c<PS.length)∧(∀i,i<cyc.length→0≤Ko (wR (zq PS cyc i) (zq PS cyc (i+1)) (zq PS cyc (i+2))))∧jE PS cyc cyc.length=1
theorem BB(PS:List P2) (cyc:List Nat):∀n,jE PS cyc n≤n
 |0=>Nat.le_refl _
 |n+1=>by have:=BB PS cyc n;unfold jE;split<;>omega
set_option maxRecDepth 8192 in
set_option maxHeartbeats 12800000 in
theorem An{K:Nat}(PS:List P2) (k:Nat) (cyc:List Nat) (hP:∀p∈PS,pDg 2 p) (ho:PG PS cyc) (hl:cyc.length≤1000000) (hK:cyc.length<K) {b:Code}(hb:ax Tryz.f162=[b]):
  ∃F:Env→Bool→Env,∀env0 d,(ab env0 6=.ptr 6 0∧ab env0 7=.func 239 [.ptr 6 0]∧ab env0 8=.int .i64 0∧ab env0 14=.int .i64 cyc.length∧ab env0 15=.int .i64 0)→
   aT (aM Tryz.prog) (fun _=>[8,15]) (se PS k cyc) K 46 3 true (.loop b) ⟨env0,dP PS k cyc,d⟩=some (.exit 0,⟨F env0 d,dP PS k cyc,d⟩)∧ab (F env0 d) 8=.int .i64 1:=by
 refine cg rfl (fun env0=>ab env0 6=.ptr 6 0∧ab env0 7=.func 239 [.ptr 6 0]∧ab env0 8=.int .i64 0∧ab env0 14=.int .i64 cyc.length∧ab env0 15=.int .i64 0) (fun _ env' =>ab env' 8=.int .i64 1) ?_;rintro env0 d ⟨h6,h7,h8,h14,h15⟩;obtain⟨-,-,ho3,ho4⟩:=ho;obtain⟨ops,hops⟩:∃ops,aE Tryz.f162=[ops]:=⟨_,rfl⟩
 have hbs:=cE hops (l:=[0,0,3,0,0,16,63,0,0,256,1023,2047,4095]) (by kernel_rfl);have hab:aN [0,0,3,0,0,16,63,0,0,256,1023,2047,4095] 12=true:=by decide
 simp[aE,bC,Tryz.f162] at hops;simp[ax,aV,Tryz.f162] at hb;have hn0:aI [8,15] (ad b) env0 ((8,.int .i64 ((jE PS cyc 0:Nat):Int))::(15,.int .i64 ((0:Nat):Int))::env0)=aI [8,15] (ad b) env0 env0:=by simp[aI,h8,h15,jE]
 rw[←hn0];refine cG (α:=Nat) (fun n=>⟨aI [8,15] (ad b) env0 ((8,.int .i64 ((jE PS cyc n:Nat):Int))::(15,.int .i64 (n:Int))::env0),dP PS k cyc,d⟩) (fun n=>cyc.length-n) (fun n=>n≤cyc.length) (.exit 0) _ d _ (by simp) ?_ K 0 (by omega) (by omega);intro n hn1;clear hn0;subst hb;subst hops;by_cases hlt:n<cyc.length
 ·left
  have h3:=ho3 n hlt;have hp:=zr hP cyc n;have hq:=zr hP cyc (n+1);have hr:=zr hP cyc (n+2);obtain⟨p,hpe⟩:∃p,p=zq PS cyc n:=⟨_,rfl⟩
  obtain⟨q,hqe⟩:∃q,q=zq PS cyc (n+1):=⟨_,rfl⟩
  obtain⟨r,hre⟩:∃r,r=zq PS cyc (n+2):=⟨_,rfl⟩
  rw[←hpe,←hqe,←hre] at h3;rw[←hpe] at hp;rw[←hqe] at hq;rw[←hre] at hr;obtain⟨p5,p6⟩:=fj hp.1 (by omega) (by omega) (m:=2) (k:=1) (by omega) (by omega);obtain⟨p7,p8⟩:=fj hp.2 (by omega) (by omega) (m:=2) (k:=1) (by omega) (by omega);obtain⟨q5,q6⟩:=fj hq.1 (by omega) (by omega) (m:=2) (k:=1) (by omega) (by omega);obtain⟨q7,q8⟩:=fj hq.2 (by omega) (by omega) (m:=2) (k:=1) (by omega) (by omega);obtain⟨r5,r6⟩:=fj hr.1 (by omega) (by omega) (m:=2) (k:=1) (by omega) (by omega);obtain⟨r7,r8⟩:=fj hr.2 (by omega) (by omega) (m:=2) (k:=1) (by omega) (by omega);obtain⟨px,py⟩:=p;obtain⟨qx,qy⟩:=q;obtain⟨rx,ry⟩:=r;simp only at p5 p6 p7 p8 q5 q6 q7 q8 r5 r6 r7 r8;obtain⟨S,hS⟩:∃S,S=Ko (wR (px,py) (qx,qy) (rx,ry)):=⟨_,rfl⟩
  rw[←hS] at h3;have hneg:¬S<0:=by omega
  obtain⟨m1,hm1⟩:∃m,m=n+1:=⟨_,rfl⟩
  obtain⟨m2,hm2⟩:∃m,m=n+2:=⟨_,rfl⟩
  have w1:IntKind.i64.wrap ((n:Int)+1)=(m1:Int):=by rw[aj (by omega) (by omega)];omega
  have w2:IntKind.i64.wrap ((n:Int)+2)=(m2:Int):=by rw[aj (by omega) (by omega)];omega
  have s5:(n:Int)≤1000000000:=by omega
  have s6:(m1:Int)≤1000000000:=by omega
  have s7:n≤1000000000:=by omega
  have s8:m1≤1000000000:=by omega
  have hle:=BB PS cyc n;have hR:jE PS cyc (n+1)=jE PS cyc n+if !upV PS cyc n&&upV PS cyc (n+1) then 1 else 0:=rfl
  obtain⟨R,hRe⟩:∃R,R=jE PS cyc n:=⟨_,rfl⟩
  rw[←hRe] at hR hle ⊢;have w3:IntKind.i64.wrap ((R:Int)+1)=((R+1:Nat):Int):=by rw[aj (by omega) (by omega)];omega
  obtain⟨U,hU⟩:∃U,U=upV PS cyc n:=⟨_,rfl⟩
  obtain⟨V,hV⟩:∃U,U=upV PS cyc (n+1):=⟨_,rfl⟩
  rw[←hU,←hV] at hR;rw[←hm1] at hR hV hqe;rw[←hm2] at hre;refine⟨m1,?_⟩;cases U<;>cases V;all_goals
   simp at hR;simp[dP,h6,h7,h14,hlt,se,iW,-aD,ai hbs,bc,aW,a8,hab,w1,w2,w3,s5,s6,←hpe,←hqe,←hre,←hU,←hV,pA,af,fE,ay,p5,p6,p7,p8,q5,q6,q7,q8,r5,r6,r7,r8,←hS,hneg,hR,Nat.testBit];omega
 ·right
  have e:n=cyc.length:=by omega
  subst e;have hlt' :¬(cyc.length:Int)<cyc.length:=by omega
  simp[h14,ho4]
theorem IK(PS:List P2) (k:Nat) (cyc:List Nat) (hP:∀p∈PS,pDg 2 p) (ho:PG PS cyc) (hl:cyc.length≤1000000):
  ACallsTo Tryz.prog 162 [.agg [.slice 0 0 PS.length none,.slice 1 0 k none],.slice 2 0 cyc.length none] [.cells false 2 (pC PS),.absent,.cells false 1 (cZ cyc)] (.bool true) [.cells false 2 (pC PS),.absent,.cells false 1 (cZ cyc)]:=by
 have hG:aL Tryz.prog 162=some Tryz.f162:=by kernel_rfl
 obtain⟨b,hb⟩:∃b,ax Tryz.f162=[b]:=⟨_,rfl⟩
 obtain⟨F,hF⟩:=An (K:=cyc.length+1) PS k cyc hP ho hl (by omega) hb;simp[ax,aV,Tryz.f162] at hb;subst hb;have hF1:=fun env0 d h=>(hF env0 d h).1
 have hF2:=fun env0 d h=>(hF env0 d h).2
 clear hF;simp only[dP] at hF1;refine aZ (lv:=(fun _=>[8,15])) (K:=(cyc.length+1)) (GP PS k cyc hP ho.2.1 ho.1) ?_;simp[aa,hG,Tryz.f162,hF1,hF2]
end Go.Proofs
