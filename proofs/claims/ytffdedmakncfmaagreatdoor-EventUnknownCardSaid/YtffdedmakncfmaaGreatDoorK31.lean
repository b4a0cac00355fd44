/- See K51. -/
import Derived.Test.YtffdedmakncfmaaGreatDoorK22
set_option linter.all false
namespace Go.Proofs
open Go.Eng
set_option maxHeartbeats 1600000 in
theorem HO(a b c:P2) (ha:pDg 3000 a) (hb:pDg 3000 b) (hc:pDg 3000 c) (M:Mem):ACallsTo Tryz.prog 233 [pA a,pA b,pA c] M (.str (aB (xd a b c))) M:=by
 have hG:aN Tryz.prog 233=some Tryz.f233:=by kernel_rfl
 obtain⟨a1,a2⟩:=a
 obtain⟨b1,b2⟩:=b
 obtain⟨c1,c2⟩:=c
 obtain⟨A1,A2⟩:=ha
 obtain⟨B1,B2⟩:=hb
 obtain⟨C1,C2⟩:=hc
 simp only at A1 A2 B1 B2 C1 C2
 have X1:=GL B1 A1 (m:=6000) (by omega) (by omega)
 have X2:=GL C2 A2 (m:=6000) (by omega) (by omega)
 have X3:=GL B2 A2 (m:=6000) (by omega) (by omega)
 have X4:=GL C1 A1 (m:=6000) (by omega) (by omega)
 have Y1:=gb X1 X2
 have Y2:=gb X3 X4
 obtain⟨p1,p2⟩:=cj A1 (by omega) (by omega) (by omega) (by omega)
 obtain⟨p3,p4⟩:=cj A2 (by omega) (by omega) (by omega) (by omega)
 obtain⟨q1,q2⟩:=cj B1 (by omega) (by omega) (by omega) (by omega)
 obtain⟨q3,q4⟩:=cj B2 (by omega) (by omega) (by omega) (by omega)
 obtain⟨r1,r2⟩:=cj C1 (by omega) (by omega) (by omega) (by omega)
 obtain⟨r3,r4⟩:=cj C2 (by omega) (by omega) (by omega) (by omega)
 obtain⟨s1,s2⟩:=cj X1 (by omega) (by omega) (by omega) (by omega)
 obtain⟨s3,s4⟩:=cj X2 (by omega) (by omega) (by omega) (by omega)
 obtain⟨s5,s6⟩:=cj X3 (by omega) (by omega) (by omega) (by omega)
 obtain⟨s7,s8⟩:=cj X4 (by omega) (by omega) (by omega) (by omega)
 obtain⟨t1,t2⟩:=cj Y1 (by omega) (by omega) (by omega) (by omega)
 obtain⟨t3,t4⟩:=cj Y2 (by omega) (by omega) (by omega) (by omega)
 clear Y1 Y2 X1 X2 X3 X4 A1 A2 B1 B2 C1 C2
 unfold xd
 simp only
 obtain⟨x1,hx1⟩:∃p,p=b1-a1:=⟨_,rfl⟩
 obtain⟨x2,hx2⟩:∃p,p=c2-a2:=⟨_,rfl⟩
 obtain⟨x3,hx3⟩:∃p,p=b2-a2:=⟨_,rfl⟩
 obtain⟨x4,hx4⟩:∃p,p=c1-a1:=⟨_,rfl⟩
 rw[←hx1] at s1 s2 t1 t2
 rw[←hx2] at s3 s4 t1 t2
 rw[←hx3] at s5 s6 t3 t4
 rw[←hx4] at s7 s8 t3 t4
 rw[←hx1,←hx2,←hx3,←hx4]
 obtain⟨y1,hy1⟩:∃p,p=x1*x2:=⟨_,rfl⟩
 obtain⟨y2,hy2⟩:∃p,p=x3*x4:=⟨_,rfl⟩
 rw[←hy1] at t1 t2
 rw[←hy2] at t3 t4
 rw[←hy1,←hy2]
 refine aq cA (lv:=fun _=>[]) (K:=1) rfl rfl ?_ M
 obtain⟨o1,o2,hops⟩:∃o1 o2,aV Tryz.f233=[o1,o2]:=⟨_,_,rfl⟩
 obtain⟨hb1,hb2⟩:=yY hops (l:=[0,1,0,4,15,0,32,0,128,511,1023,2047]) (l' :=[0,0,2,0,8,30,0,64,0,256,1022,2046,4095,8191]) (by kernel_rfl)
 have k1:cU [0,1,0,4,15,0,32,0,128,511,1023,2047] 11=true:=by decide
 have k2:cU [0,0,2,0,8,30,0,64,0,256,1022,2046,4095,8191] 13=true:=by decide
 simp[aV,cc,Tryz.f233] at hops
 obtain⟨rfl,rfl⟩:=hops
 simp[aa,hG,Tryz.f233,-aQ,aA hb1,aA hb2,bN,bF,bL,k1,k2,pA,aC,ai,aP,aY,p1,p2,p3,p4,q1,q2,q3,q4,r1,r2,r3,r4,s1,s2,s3,s4,s5,s6,s7,s8,t1,t2,t3,t4,←hx1,←hx2,←hx3,←hx4,←hy1,←hy2,Nat.testBit]
noncomputable def ym(f:FuncId) (args:List AV):Option AV:=
 match f,args with
 |233,[.agg [.str a,.str b],.agg [.str c,.str d],.agg [.str e,.str f]]=>match dU a,dU b,dU c,dU d,dU e,dU f with
  |some a,some b,some c,some d,some e,some f=>if (au a.num.natAbs).length≤2999∧(au a.den).length≤2999∧(au b.num.natAbs).length≤2999∧(au b.den).length≤2999∧(au c.num.natAbs).length≤2999∧(au c.den).length≤2999∧
    (au d.num.natAbs).length≤2999∧(au d.den).length≤2999∧(au e.num.natAbs).length≤2999∧(au e.den).length≤2999∧(au f.num.natAbs).length≤2999∧(au f.den).length≤2999 then some (.str (aB (xd (a,b) (c,d) (e,f)))) else none
  |_,_,_,_,_,_=>none
 |f,args=>aP f args
theorem IG:OracleOk Tryz.prog (ai ym):=bM fun f args v h mem=>by
 unfold ym at h
 split at h
 ·split at h
  ·rename_i a b c d e f ha hb hc hd he hf
   split at h
   ·rename_i hcond
    obtain⟨c1,c2,c3,c4,c5,c6,c7,c8,c9,c10,c11,c12⟩:=hcond
    cases h
    rw[aD ha,aD hb,aD hc,aD hd,aD he,aD hf]
    exact HO (a,b) (c,d) (e,f) ⟨(cq ⟨c1,c2⟩).mono (by omega) (by omega),(cq ⟨c3,c4⟩).mono (by omega) (by omega)⟩
     ⟨(cq ⟨c5,c6⟩).mono (by omega) (by omega),(cq ⟨c7,c8⟩).mono (by omega) (by omega)⟩ ⟨(cq ⟨c9,c10⟩).mono (by omega) (by omega),(cq ⟨c11,c12⟩).mono (by omega) (by omega)⟩ mem
   ·cases h
  ·cases h
 ·have:=cA.fn _ _ mem ⟨v,none,[]⟩ (by unfold ai;simp only;rw[h])
  simpa [CallRes.mem] using this
theorem eR{n m:Nat}{q:Rat}(h:dg n n q) (h0:0<n) (hm:n≤m):(au q.num.natAbs).length≤m∧(au q.den).length≤m:=by
 have:=h.lens h0 h0
 exact⟨by omega,by omega⟩
set_option maxHeartbeats 1600000 in
theorem HQ(a b c:P2) (ha:pDg 2999 a) (hb:pDg 2999 b) (hc:pDg 2999 c) (M:Mem):ACallsTo Tryz.prog 194 [pA a,pA b,pA c] M (.int .i64 (xI (xd a b c))) M:=by
 have hG:aN Tryz.prog 194=some Tryz.f194:=by kernel_rfl
 obtain⟨a1,a2⟩:=a
 obtain⟨b1,b2⟩:=b
 obtain⟨c1,c2⟩:=c
 obtain⟨p1,p2⟩:=eR ha.1 (by omega) (Nat.le_refl _)
 obtain⟨p3,p4⟩:=eR ha.2 (by omega) (Nat.le_refl _)
 obtain⟨q1,q2⟩:=eR hb.1 (by omega) (Nat.le_refl _)
 obtain⟨q3,q4⟩:=eR hb.2 (by omega) (Nat.le_refl _)
 obtain⟨r1,r2⟩:=eR hc.1 (by omega) (Nat.le_refl _)
 obtain⟨r3,r4⟩:=eR hc.2 (by omega) (Nat.le_refl _)
 refine aq IG (lv:=fun _=>[]) (K:=1) rfl rfl ?_ M
 simp only at p1 p2 p3 p4 q1 q2 q3 q4 r1 r2 r3 r4
 obtain⟨y,hy⟩:∃y,y=xd (a1,a2) (b1,b2) (c1,c2):=⟨_,rfl⟩
 rw[←hy]
 simp[aa,hG,Tryz.f194,pA,aC,ai,ym,aP,aY,bj,aX,p1,p2,p3,p4,q1,q2,q3,q4,r1,r2,r3,r4,←hy]
theorem iV(d:Nat) (x y:List UInt8):iH (aO Tryz.prog) (d+1) 52 (.str x) (.str y)=some (x==y):=by
 rw[iH];simp
theorem MU(p q:P2):iH (aO Tryz.prog) 20 100 (pA p) (pA q)=some (decide (p.1=q.1)&&decide (p.2=q.2)):=by
 have i:=iV 18
 rw[iH]
 simp[pA,MI,gD,TyI.isAgg,i,CQ]
theorem AY(p:P2):∀(L:List P2) (i:Nat),p∉L→gN (aO Tryz.prog) 100 (pA p) (L.map pmE) i=some none
 | [],i,_=>rfl
 |q::L,i,h=>by
  have e:=MU p q
  have hne:(decide (p.1=q.1)&&decide (p.2=q.2))=false:=by
   rw[←Bool.not_eq_true]
   intro h2
   simp only[Bool.and_eq_true,decide_eq_true_eq] at h2
   exact h (by rw[show p=q from Prod.ext h2.1 h2.2];exact List.mem_cons_self ..)
  simp only[List.map_cons,gN,pmE,e,hne]
  exact AY p L (i+1) (fun h2=>h (List.mem_cons_of_mem _ h2))
theorem MV(p:P2):jG (aO Tryz.prog) 20 100 (pA p)=true:=by
 simp[pA,jG,NY,gD,TyI.isAgg]
noncomputable def eZ(f:FuncId) (args:List AV):Option AV:=
 match f,args with
 |194,[.agg [.str a,.str b],.agg [.str c,.str d],.agg [.str e,.str f]]=>match dU a,dU b,dU c,dU d,dU e,dU f with
  |some a,some b,some c,some d,some e,some f=>if (au a.num.natAbs).length≤2998∧(au a.den).length≤2998∧(au b.num.natAbs).length≤2998∧(au b.den).length≤2998∧(au c.num.natAbs).length≤2998∧(au c.den).length≤2998∧
    (au d.num.natAbs).length≤2998∧(au d.den).length≤2998∧(au e.num.natAbs).length≤2998∧(au e.den).length≤2998∧(au f.num.natAbs).length≤2998∧(au f.den).length≤2998 then some (.int .i64 (xI (xd (a,b) (c,d) (e,f)))) else none
  |_,_,_,_,_,_=>none
 |193,[.agg [.str a,.str b]]=>if a.length≤1000000000∧b.length≤1000000000 then some (.int .i64 (tS [a,b])) else none
 |f,args=>aP f args
theorem yk:OracleOk Tryz.prog (ai eZ):=bM fun f args v h mem=>by
 unfold eZ at h
 split at h
 ·split at h
  ·rename_i a b c d e f ha hb hc hd he hf
   split at h
   ·rename_i hcond
    obtain⟨c1,c2,c3,c4,c5,c6,c7,c8,c9,c10,c11,c12⟩:=hcond
    cases h
    rw[aD ha,aD hb,aD hc,aD hd,aD he,aD hf]
    exact HQ (a,b) (c,d) (e,f) ⟨(cq ⟨c1,c2⟩).mono (by omega) (by omega),(cq ⟨c3,c4⟩).mono (by omega) (by omega)⟩
     ⟨(cq ⟨c5,c6⟩).mono (by omega) (by omega),(cq ⟨c7,c8⟩).mono (by omega) (by omega)⟩ ⟨(cq ⟨c9,c10⟩).mono (by omega) (by omega),(cq ⟨c11,c12⟩).mono (by omega) (by omega)⟩ mem
   ·cases h
  ·cases h
 ·split at h
  ·rename_i hc;cases h;exact kA _ _ hc.1 hc.2 mem
  ·cases h
 ·have:=cA.fn _ _ mem ⟨v,none,[]⟩ (by unfold ai;simp only;rw[h])
  simpa [CallRes.mem] using this
theorem RQ{p:P2}(h:pDg 200 p):tS [aB p.1,aB p.2]=0:=by
 simp[tS,gL h.1,gL h.2]
noncomputable def jQ(PS:List P2) (TS:List Tr):Oracle:=fun c args M=>match c,args with
 |.fn 195,[.agg [.slice b 0 n none,.slice c 0 k none]]=>open Classical in if n=PS.length∧k=TS.length∧(∃o,M[b]? =some (.cells o 2 (pC PS)))∧(∃o,M[c]? =some (.cells o 3 (tC TS))) then some ⟨.bool true,none,[]⟩ else none
 |c,args=>ai eZ c args M
def sw(c:Code):List Nat:=if (ad c).contains 32 then [32] else if (ad c).contains 48 then [48] else if (ad c).contains 53 then [53] else []
def msB(n k:Nat):Slot:=.cells true 0 [.slice 0 0 n none,.slice 1 0 k none]
set_option maxHeartbeats 6400000 in
theorem uq{K:Nat}(PS:List P2) (TS:List Tr) (hP:∀p∈PS,pDg 200 p) (hn:PS.Nodup) (hl:PS.length≤1000000000) (hK:PS.length<K) {b b2 b3 b4 b5:Code}(hb:aj Tryz.f131=[b,b2,b3,b4,b5]):
  ∃F:Env→Bool→Env,∀env0 d,(ab env0 30=.slice 0 0 PS.length none∧ab env0 31=.int .i64 PS.length∧ab env0 32=.int .i64 0∧ab env0 3=.map 3∧ab env0 1=.ptr 2 0)→
   aU (aO Tryz.prog) sw (jQ PS TS) K 105 2 true (.loop b) ⟨env0,[.cells false 2 (pC PS),.cells false 3 (tC TS),msB PS.length TS.length,.map []],d⟩=some (.exit 1,⟨F env0 d,[.cells false 2 (pC PS),.cells false 3 (tC TS),msB PS.length TS.length,.map (PS.map pmE)],d⟩)∧ab (F env0 d) 1=.ptr 2 0:=by
 refine bp (L:=[32]) (by simp[aj,aM,Tryz.f131] at hb;rw[←hb.1];rfl) (fun env0=>ab env0 30=.slice 0 0 PS.length none∧ab env0 31=.int .i64 PS.length∧ab env0 32=.int .i64 0∧ab env0 3=.map 3∧ab env0 1=.ptr 2 0) (fun _ env' =>ab env' 1=.ptr 2 0) ?_
 rintro env0 d ⟨h30,h31,h32,h3,h1⟩
 simp[aj,aM,Tryz.f131] at hb
 obtain⟨hb,-⟩:=hb
 have hn0:az [32] (ad b) env0 ((32,.int .i64 ((0:Nat):Int))::env0)=az [32] (ad b) env0 env0:=by simp[az,h32]
 rw[←hn0]
 refine bK (α:=Nat) (fun n=>⟨az [32] (ad b) env0 ((32,.int .i64 (n:Int))::env0),[.cells false 2 (pC PS),.cells false 3 (tC TS),msB PS.length TS.length,.map ((PS.take n).map pmE)],d⟩) (fun n=>PS.length-n) (fun n=>n≤PS.length) (.exit 1) _ d _ (by simp) ?_ K 0 (by omega) (by omega)
 intro n hn1
 clear hn0
 subst hb
 by_cases hlt:n<PS.length
 ·left
  obtain⟨p,hp⟩:∃q,PS[n]? =some q:=⟨PS[n],List.getElem?_eq_getElem hlt⟩
  obtain⟨k1,k2,k3,k4⟩:=Od hp
  have hpd:=hP p (List.mem_of_getElem? hp)
  have hnot:p∉PS.take n:=by
   intro hm
   obtain⟨j,hj,he⟩:=List.mem_iff_getElem.1 hm
   rw[List.length_take] at hj
   rw[List.getElem_take] at he
   have h1:=List.getElem?_eq_some_iff.1 hp
   obtain⟨h1,h2⟩:=h1
   have:=(List.getElem_inj (h₀:=by omega) (h₁:=h1) hn).1 (he.trans h2.symm)
   omega
  have f1:=AY p (PS.take n) 0 hnot
  have f2:=MV p
  have e1:(PS.take (n+1)).map pmE=(PS.take n).map pmE++[pmE p]:=by rw[List.take_add_one,hp];simp
  have w1:IntKind.i64.wrap ((n:Int)+1)=((n+1:Nat):Int):=by rw[ag (by omega) (by omega)];omega
  have c1:=RQ hpd
  have l1:=jt hpd.1 (by omega) (by omega)
  have l2:=jt hpd.2 (by omega) (by omega)
  obtain⟨m,hm⟩:∃m,m=n+1:=⟨_,rfl⟩
  rw[←hm] at w1 e1
  have r1:=CV 4 (PS.take n)
  obtain⟨E,hE⟩:∃E,E=(PS.take n).map pmE:=⟨_,rfl⟩
  rw[←hE] at f1 e1 r1
  rw[←hE]
  refine⟨m,?_⟩
  obtain⟨px,py⟩:=p
  simp only[pA,pmE] at f1 f2 e1 k1 c1 l1 l2
  simp[h30,h31,h3,hlt,jQ,ai,eZ,k1,k4,c1,l1,l2,w1,f1,f2,e1,r1,msB,uU,rR,jl,ig,dI]
  omega
 ·right
  have e:PS.take n=PS:=List.take_of_length_le (by omega)
  rw[e]
  have hlt' :¬(n:Int)<PS.length:=by omega
  simp[h31,h1,hlt]
def Su(PS:List P2) (t:Tr):Prop:=∃p q r,PS[t.1]? =some p∧PS[t.2.1]? =some q∧PS[t.2.2]? =some r∧0<xI (xd p q r)
set_option maxRecDepth 8192 in
set_option maxHeartbeats 12800000 in
theorem ur{K:Nat}(PS:List P2) (TS:List Tr) (E:List (AV×AV)) (hP:∀p∈PS,pDg 200 p) (hT:∀t∈TS,Su PS t) (hl:PS.length≤1000000000) (hl2:TS.length≤1000000000) (hE:E.flatMap (fun e=>e.1.refs 4++e.2.refs 4)=[]) (hK:TS.length<K+5) {b1 b b3 b4 b5:Code}(hb:aj Tryz.f131=[b1,b,b3,b4,b5]):
  ∃F:Env→Bool→Env,∀env0 d,(ab env0 1=.ptr 2 0∧ab env0 46=.slice 1 0 TS.length none∧ab env0 47=.int .i64 TS.length∧ab env0 48=.int .i64 0)→
   aU (aO Tryz.prog) sw (jQ PS TS) (K+5) 105 2 true (.loop b) ⟨env0,[.cells false 2 (pC PS),.cells false 3 (tC TS),msB PS.length TS.length,.map E],d⟩=some (.exit 3,⟨F env0 d,[.cells false 2 (pC PS),.cells false 3 (tC TS),msB PS.length TS.length,.map E],d⟩)∧ab (F env0 d) 1=.ptr 2 0:=by
 refine bp (L:=[48]) (by simp[aj,aM,Tryz.f131] at hb;rw[←hb.2.1];rfl) (fun env0=>ab env0 1=.ptr 2 0∧ab env0 46=.slice 1 0 TS.length none∧ab env0 47=.int .i64 TS.length∧ab env0 48=.int .i64 0) (fun _ env' =>ab env' 1=.ptr 2 0) ?_
 rintro env0 d ⟨h1,h46,h47,h48⟩
 obtain⟨ops,hops⟩:∃ops,aV Tryz.f131=[ops]:=⟨_,rfl⟩
 have hbs:=di hops (l:=[0,1,0,4,15,31,0,64,0,256,960,1984,0,4096,0,16384,61440,126976,262143,524287]) (by kernel_rfl)
 have hab:cU [0,1,0,4,15,31,0,64,0,256,960,1984,0,4096,0,16384,61440,126976,262143,524287] 19=true:=by decide
 simp[aV,cc,Tryz.f131] at hops
 simp[aj,aM,Tryz.f131] at hb
 obtain⟨-,hb,-⟩:=hb
 have hn0:az [48] (ad b) env0 ((48,.int .i64 ((0:Nat):Int))::env0)=az [48] (ad b) env0 env0:=by simp[az,h48]
 rw[←hn0]
 refine bK (α:=Nat) (fun n=>⟨az [48] (ad b) env0 ((48,.int .i64 (n:Int))::env0),[.cells false 2 (pC PS),.cells false 3 (tC TS),msB PS.length TS.length,.map E],d⟩) (fun n=>TS.length-n) (fun n=>n≤TS.length) (.exit 3) _ d _ (by simp) ?_ (K+5) 0 (by omega) (by omega)
 intro n hn1
 clear hn0
 subst hb
 subst hops
 by_cases hlt:n<TS.length
 ·left
  obtain⟨t,ht⟩:∃q,TS[n]? =some q:=⟨TS[n],List.getElem?_eq_getElem hlt⟩
  obtain⟨k1,k2⟩:=RZ ht
  obtain⟨p,q,r,e1,e2,e3,hpos⟩:=hT t (List.mem_of_getElem? ht)
  obtain⟨i1,i2,i3⟩:=t
  simp only at e1 e2 e3 k1
  obtain⟨p1,-,-,p4⟩:=Od e1
  obtain⟨q1,-,-,q4⟩:=Od e2
  obtain⟨r1,-,-,r4⟩:=Od e3
  have a1:=(List.getElem?_eq_some_iff.1 e1).1
  have a2:=(List.getElem?_eq_some_iff.1 e2).1
  have a3:=(List.getElem?_eq_some_iff.1 e3).1
  have a1' :¬((i1:Int)<0):=by omega
  have a2' :¬((i2:Int)<0):=by omega
  have a3' :¬((i3:Int)<0):=by omega
  have a1'' :¬((PS.length:Int)≤i1):=by omega
  have a2'' :¬((PS.length:Int)≤i2):=by omega
  have a3'' :¬((PS.length:Int)≤i3):=by omega
  have g1:¬PS.length≤i1:=by omega
  have g2:¬PS.length≤i2:=by omega
  have g3:¬PS.length≤i3:=by omega
  have hp:=hP p (List.mem_of_getElem? e1)
  have hq:=hP q (List.mem_of_getElem? e2)
  have hr:=hP r (List.mem_of_getElem? e3)
  obtain⟨p5,p6⟩:=eR hp.1 (by omega) (m:=2998) (by omega)
  obtain⟨p7,p8⟩:=eR hp.2 (by omega) (m:=2998) (by omega)
  obtain⟨q5,q6⟩:=eR hq.1 (by omega) (m:=2998) (by omega)
  obtain⟨q7,q8⟩:=eR hq.2 (by omega) (m:=2998) (by omega)
  obtain⟨r5,r6⟩:=eR hr.1 (by omega) (m:=2998) (by omega)
  obtain⟨r7,r8⟩:=eR hr.2 (by omega) (m:=2998) (by omega)
  obtain⟨px,py⟩:=p
  obtain⟨qx,qy⟩:=q
  obtain⟨rx,ry⟩:=r
  simp only at p1 q1 r1 p5 p6 p7 p8 q5 q6 q7 q8 r5 r6 r7 r8
  obtain⟨S,hS⟩:∃S,S=xI (xd (px,py) (qx,qy) (rx,ry)):=⟨_,rfl⟩
  rw[←hS] at hpos
  have hneg:¬S≤0:=by omega
  have w1:IntKind.i64.wrap ((n:Int)+1)=((n+1:Nat):Int):=by rw[ag (by omega) (by omega)];omega
  obtain⟨m,hm⟩:∃m,m=n+1:=⟨_,rfl⟩
  rw[←hm] at w1
  have v1:IntKind.i64.wrap 1=1:=rfl
  have v2:IntKind.i64.wrap 2=2:=rfl
  have v3:IntKind.i64.wrap 3=3:=rfl
  have v2' :IntKind.i64.wrap (1+1)=2:=rfl
  have v3' :IntKind.i64.wrap (2+1)=3:=rfl
  refine⟨m,?_⟩
  clear hP hT
  simp[h1,h46,h47,hlt,k1,k2,aZ,fA,v1,v2,v3,sw,a1,a2,a3,a1',a2',a3',a1'',a2'',a3'',p1,q1,r1,p4,q4,r4,-aQ,aA hbs,bN,bF,bL,hab,
   jQ,ai,eZ,aC,p5,p6,p7,p8,q5,q6,q7,q8,r5,r6,r7,r8,←hS,hneg,hE,msB,uU,rR,w1,Nat.testBit]
  omega
 ·right
  have hlt' :¬(n:Int)<TS.length:=by omega
  simp[h47,h1,hlt]
theorem Py:aO Tryz.prog 314=some ⟨.func #[3] #[100] false,1,8,.nilFunc,true⟩:=by kernel_rfl
theorem Px:aO Tryz.prog 291=some ⟨.func #[3] #[4] false,1,8,.nilFunc,true⟩:=by kernel_rfl
attribute [simp] Py Px
def cZ(cyc:List Nat):List AV:=cyc.map fun(n:Nat)=>.int .i64 (n:Int)
theorem Si{cyc:List Nat}{i c:Nat}(h:cyc[i]? =some c):(cZ cyc)[i]? =some (.int .i64 (c:Int)):=by simp[cZ,h]
def zC(PS:List P2) (cyc:List Nat) (i:Nat):P2:=PS.getD (cyc.getD (i%cyc.length) 0) (0,0)
theorem zD{PS:List P2}(hP:∀p∈PS,pDg 200 p) (cyc:List Nat) (i:Nat):pDg 200 (zC PS cyc i):=by
 unfold zC
 rw[List.getD_eq_getElem?_getD]
 cases h:PS[cyc.getD (i%cyc.length) 0]? with
 |none=>exact⟨⟨by decide,by decide⟩,⟨by decide,by decide⟩⟩
 |some p=>exact hP p (List.mem_of_getElem? h)
def upV(PS:List P2) (cyc:List Nat) (i:Nat):Bool:=
 decide (0<yS (zC PS cyc (i+1)).2 (zC PS cyc i).2)||(decide (yS (zC PS cyc (i+1)).2 (zC PS cyc i).2=0)&&decide (0<yS (zC PS cyc (i+1)).1 (zC PS cyc i).1))
def jz(PS:List P2) (cyc:List Nat):Nat→Nat
 |0=>0
 |n+1=>jz PS cyc n+if !upV PS cyc n&&upV PS cyc (n+1) then 1 else 0
def dF(PS:List P2) (k:Nat) (cyc:List Nat):Mem:=[.cells false 2 (pC PS),.absent,.cells false 1 (cZ cyc),.cells true 0 [.slice 0 0 PS.length none,.slice 1 0 k none],.cells true 0 [.slice 2 0 cyc.length none],.cells true 0 [.int .i64 cyc.length],.cells true 0 [.func 268 [.ptr 3 0,.ptr 4 0,.ptr 5 0]]]
set_option maxHeartbeats 1600000 in
theorem HR(PS:List P2) (k:Nat) (cyc:List Nat) (hc:∀c∈cyc,c<PS.length) (h0:cyc≠[]) (i:Nat):
  ACallsTo Tryz.prog 268 [.int .i64 i,.ptr 3 0,.ptr 4 0,.ptr 5 0] (dF PS k cyc) (pA (zC PS cyc i)) (dF PS k cyc):=by
 have hG:aN Tryz.prog 268=some Tryz.f268:=by kernel_rfl
 have hn:0<cyc.length:=by cases cyc with | nil=>exact absurd rfl h0 | cons a l=>simp
 have hj:i%cyc.length<cyc.length:=Nat.mod_lt _ hn
 obtain⟨c,hcg⟩:∃c,cyc[i%cyc.length]? =some c:=⟨_,List.getElem?_eq_getElem hj⟩
 have hcl:=hc c (List.mem_of_getElem? hcg)
 obtain⟨p,hp⟩:∃p,PS[c]? =some p:=⟨_,List.getElem?_eq_getElem hcl⟩
 have hpt:zC PS cyc i=p:=by
  unfold zC
  rw[List.getD_eq_getElem?_getD,List.getD_eq_getElem?_getD,hcg]
  simp[hp]
 rw[hpt]
 obtain⟨k1,-,-,k4⟩:=Od hp
 have k5:=Si hcg
 have ht:(i:Int).tmod (cyc.length:Int)=((i%cyc.length:Nat):Int):=tJ i cyc.length
 have hz:¬((cyc.length:Int)=0):=by omega
 have hz2:¬cyc.length=0:=by omega
 obtain⟨j,hje⟩:∃j,j=i%cyc.length:=⟨_,rfl⟩
 rw[←hje] at ht hj k5 hcg
 obtain⟨ops,hops⟩:∃ops,aV Tryz.f268=[ops]:=⟨_,rfl⟩
 have hbs:=di hops (l:=[0,1,0,0,0,24,60,124,255,511,1023]) (by kernel_rfl)
 have hab:cU [0,1,0,0,0,24,60,124,255,511,1023] 10=true:=by decide
 simp[aV,cc,Tryz.f268] at hops
 subst hops
 obtain⟨px,py⟩:=p
 simp only at k1
 have h:aa (aO Tryz.prog) (fun _=>[]) (aN Tryz.prog) bt 1 268 [.int .i64 i,.ptr 3 0,.ptr 4 0,.ptr 5 0] (dF PS k cyc)=some ⟨pA (px,py),none,[]⟩:=by
  simp[aa,hG,Tryz.f268,dF,-aQ,aA hbs,bN,bF,bL,hab,ht,hz2,hj,k5,k1,k4,hcl,pA]
 have:=(af ae (aw _) (ak _) (ax _) h).1
 simpa [CallRes.mem] using this
noncomputable def iK(PS:List P2) (k:Nat) (cyc:List Nat):Oracle:=fun c args M=>match c,args with
 |.fn 268,[.int .i64 i,.ptr 3 0,.ptr 4 0,.ptr 5 0]=>open Classical in if 0≤i∧M=dF PS k cyc then some ⟨pA (zC PS cyc i.toNat),none,[]⟩ else none
 |c,args=>ai eZ c args M
theorem yo(PS:List P2) (k:Nat) (cyc:List Nat) (hc:∀c∈cyc,c<PS.length) (h0:cyc≠[]):OracleOk Tryz.prog (iK PS k cyc):=by
 refine ca fun c args M r h=>?_
 unfold iK at h
 split at h
 ·rename_i i
  split at h
  ·rename_i hcond
   cases h
   obtain⟨h1,rfl⟩:=hcond
   refine ah ?_
   rw[List.append_nil]
   have:=HR PS k cyc hc h0 i.toNat
   rw[Int.toNat_of_nonneg h1] at this
   exact this
  ·cases h
 ·exact dJ yk h
set_option maxRecDepth 8192 in
set_option maxHeartbeats 6400000 in
theorem HS(PS:List P2) (k:Nat) (cyc:List Nat) (hP:∀p∈PS,pDg 200 p) (hc:∀c∈cyc,c<PS.length) (h0:cyc≠[]) (i:Nat) (hi:i≤1000000000):
  ACallsTo Tryz.prog 269 [.int .i64 i,.ptr 6 0] (dF PS k cyc) (.bool (upV PS cyc i)) (dF PS k cyc):=by
 have hG:aN Tryz.prog 269=some Tryz.f269:=by kernel_rfl
 have hp:=zD hP cyc i
 have hq:=zD hP cyc (i+1)
 unfold upV
 obtain⟨p,hpe⟩:∃p,p=zC PS cyc i:=⟨_,rfl⟩
 obtain⟨q,hqe⟩:∃q,q=zC PS cyc (i+1):=⟨_,rfl⟩
 rw[←hpe] at hp ⊢
 rw[←hqe] at hq ⊢
 have w1:IntKind.i64.wrap ((i:Int)+1)=((i+1:Nat):Int):=by rw[ag (by omega) (by omega)];omega
 have s1:(0:Int)≤(i:Int)+1:=by omega
 have s2:((i:Int)+1).toNat=i+1:=by omega
 obtain⟨p1,p2⟩:=cj hp.1 (by omega) (by omega) (by omega) (by omega)
 obtain⟨p3,p4⟩:=cj hp.2 (by omega) (by omega) (by omega) (by omega)
 obtain⟨q1,q2⟩:=cj hq.1 (by omega) (by omega) (by omega) (by omega)
 obtain⟨q3,q4⟩:=cj hq.2 (by omega) (by omega) (by omega) (by omega)
 obtain⟨px,py⟩:=p
 obtain⟨qx,qy⟩:=q
 simp only at p1 p2 p3 p4 q1 q2 q3 q4 ⊢
 obtain⟨o1,o2,hops⟩:∃o1 o2,aV Tryz.f269=[o1,o2]:=⟨_,_,rfl⟩
 obtain⟨hb1,hb2⟩:=yY hops (l:=[0,0,2,7,15,0,0,111,239,511,1023]) (l' :=[0,1,3,7,15,31,63,63,191,511,1023,63,63,7167,15359,32767,65535,131071,262143,524287]) (by kernel_rfl)
 have k1:cU [0,0,2,7,15,0,0,111,239,511,1023] 10=true:=by decide
 have k2:cU [0,1,3,7,15,31,63,63,191,511,1023,63,63,7167,15359,32767,65535,131071,262143,524287] 19=true:=by decide
 simp[aV,cc,Tryz.f269] at hops
 obtain⟨rfl,rfl⟩:=hops
 have key:∀b:Bool,(decide (0<yS qy py)||(decide (yS qy py=0)&&decide (0<yS qx px)))=b→aa (aO Tryz.prog) (fun _=>[]) (aN Tryz.prog) (iK PS k cyc) 1 269 [.int .i64 i,.ptr 6 0] (dF PS k cyc)=some ⟨.bool b,none,[]⟩:=by
  intro b hb
  by_cases c1:0<yS qy py
  ·simp only[c1,decide_true,Bool.true_or] at hb
   subst hb
   simp[aa,hG,Tryz.f269,dF,iK,-aQ,aA hb1,aA hb2,bN,bF,bL,k1,k2,w1,s1,s2,←hpe,←hqe,pA,ai,eZ,aP,aY,aC,p3,p4,q3,q4,c1,Nat.testBit]
  ·by_cases c2:yS qy py=0
   ·by_cases c3:0<yS qx px
    ·simp[c2,c3] at hb
     subst hb
     simp[aa,hG,Tryz.f269,dF,iK,-aQ,aA hb1,aA hb2,bN,bF,bL,k1,k2,w1,s1,s2,←hpe,←hqe,pA,ai,eZ,aP,aY,aC,p1,p2,p3,p4,q1,q2,q3,q4,c2,c3,Nat.testBit]
    ·simp[c2,c3] at hb
     subst hb
     simp[aa,hG,Tryz.f269,dF,iK,-aQ,aA hb1,aA hb2,bN,bF,bL,k1,k2,w1,s1,s2,←hpe,←hqe,pA,ai,eZ,aP,aY,aC,p1,p2,p3,p4,q1,q2,q3,q4,c2,c3,Nat.testBit]
   ·simp[c1,c2] at hb
    subst hb
    simp[aa,hG,Tryz.f269,dF,iK,-aQ,aA hb1,aA hb2,bN,bF,bL,k1,k2,w1,s1,s2,←hpe,←hqe,pA,ai,eZ,aP,aY,aC,p3,p4,q3,q4,c1,c2,Nat.testBit]
 have:=(af ae (aw _) (yo PS k cyc hc h0) (ax _) (key _ rfl)).1
 simpa [CallRes.mem] using this
noncomputable def nX(PS:List P2) (k:Nat) (cyc:List Nat):Oracle:=fun c args M=>match c,args with
 |.fn 269,[.int .i64 i,.ptr 6 0]=>open Classical in if 0≤i∧i≤1000000000∧M=dF PS k cyc then some ⟨.bool (upV PS cyc i.toNat),none,[]⟩ else none
 |c,args=>iK PS k cyc c args M
theorem F8(PS:List P2) (k:Nat) (cyc:List Nat) (hP:∀p∈PS,pDg 200 p) (hc:∀c∈cyc,c<PS.length) (h0:cyc≠[]):OracleOk Tryz.prog (nX PS k cyc):=by
 refine ca fun c args M r h=>?_
 unfold nX at h
 split at h
 ·rename_i i
  split at h
  ·rename_i hcond
   cases h
   obtain⟨h1,h2,rfl⟩:=hcond
   refine ah ?_
   rw[List.append_nil]
   have:=HS PS k cyc hP hc h0 i.toNat (by omega)
   rw[Int.toNat_of_nonneg h1] at this
   exact this
  ·cases h
 ·exact dJ (yo PS k cyc hc h0) h
def Ob(PS:List P2) (cyc:List Nat):Prop:=
 cyc≠[]∧(∀c∈cyc,c<PS.length)∧(∀i,i<cyc.length→0≤xI (xd (zC PS cyc i) (zC PS cyc (i+1)) (zC PS cyc (i+2))))∧jz PS cyc cyc.length=1
theorem Bs(PS:List P2) (cyc:List Nat):∀n,jz PS cyc n≤n
 |0=>Nat.le_refl _
 |n+1=>by
  have:=Bs PS cyc n
  unfold jz
  split<;>omega
set_option maxRecDepth 8192 in
set_option maxHeartbeats 12800000 in
theorem Au{K:Nat}(PS:List P2) (k:Nat) (cyc:List Nat) (hP:∀p∈PS,pDg 200 p) (ho:Ob PS cyc) (hl:cyc.length≤1000000) (hK:cyc.length<K) {b:Code}(hb:aj Tryz.f236=[b]):
  ∃F:Env→Bool→Env,∀env0 d,(ab env0 6=.ptr 6 0∧ab env0 7=.func 269 [.ptr 6 0]∧ab env0 8=.int .i64 0∧ab env0 14=.int .i64 cyc.length∧ab env0 15=.int .i64 0)→
   aU (aO Tryz.prog) (fun _=>[8,15]) (nX PS k cyc) K 46 3 true (.loop b) ⟨env0,dF PS k cyc,d⟩=some (.exit 0,⟨F env0 d,dF PS k cyc,d⟩)∧ab (F env0 d) 8=.int .i64 1:=by
 refine bp rfl (fun env0=>ab env0 6=.ptr 6 0∧ab env0 7=.func 269 [.ptr 6 0]∧ab env0 8=.int .i64 0∧ab env0 14=.int .i64 cyc.length∧ab env0 15=.int .i64 0) (fun _ env' =>ab env' 8=.int .i64 1) ?_
 rintro env0 d ⟨h6,h7,h8,h14,h15⟩
 obtain⟨-,-,ho3,ho4⟩:=ho
 obtain⟨ops,hops⟩:∃ops,aV Tryz.f236=[ops]:=⟨_,rfl⟩
 have hbs:=di hops (l:=[0,0,3,0,0,16,63,0,0,256,1023,2047,4095]) (by kernel_rfl)
 have hab:cU [0,0,3,0,0,16,63,0,0,256,1023,2047,4095] 12=true:=by decide
 simp[aV,cc,Tryz.f236] at hops
 simp[aj,aM,Tryz.f236] at hb
 have hn0:az [8,15] (ad b) env0 ((8,.int .i64 ((jz PS cyc 0:Nat):Int))::(15,.int .i64 ((0:Nat):Int))::env0)=az [8,15] (ad b) env0 env0:=by simp[az,h8,h15,jz]
 rw[←hn0]
 refine bK (α:=Nat) (fun n=>⟨az [8,15] (ad b) env0 ((8,.int .i64 ((jz PS cyc n:Nat):Int))::(15,.int .i64 (n:Int))::env0),dF PS k cyc,d⟩) (fun n=>cyc.length-n) (fun n=>n≤cyc.length) (.exit 0) _ d _ (by simp) ?_ K 0 (by omega) (by omega)
 intro n hn1
 clear hn0
 subst hb
 subst hops
 by_cases hlt:n<cyc.length
 ·left
  have h3:=ho3 n hlt
  have hp:=zD hP cyc n
  have hq:=zD hP cyc (n+1)
  have hr:=zD hP cyc (n+2)
  obtain⟨p,hpe⟩:∃p,p=zC PS cyc n:=⟨_,rfl⟩
  obtain⟨q,hqe⟩:∃q,q=zC PS cyc (n+1):=⟨_,rfl⟩
  obtain⟨r,hre⟩:∃r,r=zC PS cyc (n+2):=⟨_,rfl⟩
  rw[←hpe,←hqe,←hre] at h3
  rw[←hpe] at hp
  rw[←hqe] at hq
  rw[←hre] at hr
  obtain⟨p5,p6⟩:=eR hp.1 (by omega) (m:=2998) (by omega)
  obtain⟨p7,p8⟩:=eR hp.2 (by omega) (m:=2998) (by omega)
  obtain⟨q5,q6⟩:=eR hq.1 (by omega) (m:=2998) (by omega)
  obtain⟨q7,q8⟩:=eR hq.2 (by omega) (m:=2998) (by omega)
  obtain⟨r5,r6⟩:=eR hr.1 (by omega) (m:=2998) (by omega)
  obtain⟨r7,r8⟩:=eR hr.2 (by omega) (m:=2998) (by omega)
  obtain⟨px,py⟩:=p
  obtain⟨qx,qy⟩:=q
  obtain⟨rx,ry⟩:=r
  simp only at p5 p6 p7 p8 q5 q6 q7 q8 r5 r6 r7 r8
  obtain⟨S,hS⟩:∃S,S=xI (xd (px,py) (qx,qy) (rx,ry)):=⟨_,rfl⟩
  rw[←hS] at h3
  have hneg:¬S<0:=by omega
  obtain⟨m1,hm1⟩:∃m,m=n+1:=⟨_,rfl⟩
  obtain⟨m2,hm2⟩:∃m,m=n+2:=⟨_,rfl⟩
  have w1:IntKind.i64.wrap ((n:Int)+1)=(m1:Int):=by rw[ag (by omega) (by omega)];omega
  have w2:IntKind.i64.wrap ((n:Int)+2)=(m2:Int):=by rw[ag (by omega) (by omega)];omega
  have s5:(n:Int)≤1000000000:=by omega
  have s6:(m1:Int)≤1000000000:=by omega
  have s7:n≤1000000000:=by omega
  have s8:m1≤1000000000:=by omega
  have hle:=Bs PS cyc n
  have hR:jz PS cyc (n+1)=jz PS cyc n+if !upV PS cyc n&&upV PS cyc (n+1) then 1 else 0:=rfl
  obtain⟨R,hRe⟩:∃R,R=jz PS cyc n:=⟨_,rfl⟩
  rw[←hRe] at hR hle ⊢
  have w3:IntKind.i64.wrap ((R:Int)+1)=((R+1:Nat):Int):=by rw[ag (by omega) (by omega)];omega
  obtain⟨U,hU⟩:∃U,U=upV PS cyc n:=⟨_,rfl⟩
  obtain⟨V,hV⟩:∃U,U=upV PS cyc (n+1):=⟨_,rfl⟩
  rw[←hU,←hV] at hR
  rw[←hm1] at hR hV hqe
  rw[←hm2] at hre
  refine⟨m1,?_⟩
  cases U<;>cases V
  all_goals
   simp at hR
   simp[dF,h6,h7,h14,hlt,nX,iK,-aQ,aA hbs,bN,bF,bL,hab,w1,w2,w3,s5,s6,←hpe,←hqe,←hre,←hU,←hV,pA,ai,eZ,aC,p5,p6,p7,p8,q5,q6,q7,q8,r5,r6,r7,r8,←hS,hneg,hR,Nat.testBit]
   omega
 ·right
  have e:n=cyc.length:=by omega
  subst e
  have hlt' :¬(cyc.length:Int)<cyc.length:=by omega
  simp[h14,ho4]
theorem HP(PS:List P2) (k:Nat) (cyc:List Nat) (hP:∀p∈PS,pDg 200 p) (ho:Ob PS cyc) (hl:cyc.length≤1000000):
  ACallsTo Tryz.prog 236 [.agg [.slice 0 0 PS.length none,.slice 1 0 k none],.slice 2 0 cyc.length none] [.cells false 2 (pC PS),.absent,.cells false 1 (cZ cyc)] (.bool true) [.cells false 2 (pC PS),.absent,.cells false 1 (cZ cyc)]:=by
 have hG:aN Tryz.prog 236=some Tryz.f236:=by kernel_rfl
 obtain⟨b,hb⟩:∃b,aj Tryz.f236=[b]:=⟨_,rfl⟩
 obtain⟨F,hF⟩:=Au (K:=cyc.length+1) PS k cyc hP ho hl (by omega) hb
 simp[aj,aM,Tryz.f236] at hb
 subst hb
 have hF1:=fun env0 d h=>(hF env0 d h).1
 have hF2:=fun env0 d h=>(hF env0 d h).2
 clear hF
 simp only[dF] at hF1
 have h:aa (aO Tryz.prog) (fun _=>[8,15]) (aN Tryz.prog) (nX PS k cyc) (cyc.length+1) 236 [.agg [.slice 0 0 PS.length none,.slice 1 0 k none],.slice 2 0 cyc.length none] [.cells false 2 (pC PS),.absent,.cells false 1 (cZ cyc)]=some ⟨.bool true,none,[]⟩:=by
  simp[aa,hG,Tryz.f236,hF1,hF2]
 have:=(af ae (aw _) (F8 PS k cyc hP ho.2.1 ho.1) (ax _) h).1
 simpa [CallRes.mem] using this
end Go.Proofs
