/- See M58. -/
import Derived.Test.YtmhkeaphiadacaaGreatDoorM26
import Derived.Test.YtmhkeaphiadacaaGreatDoorM11
set_option linter.all false
namespace Go.Proofs
open Go.Eng
set_option maxHeartbeats 1600000 in
theorem IX(a b c:P2) (ha:pDg 2 a) (hb:pDg 2 b) (hc:pDg 2 c) (M:Mem):ACallsTo Tryz.prog 105 [pA a,pA b,pA c] M (.str (aK (vc a b c))) M:=by
 have hG:aF Tryz.prog 105=some Tryz.f105:=by kernel_rfl
 obtain⟨a1,a2⟩:=a
 obtain⟨b1,b2⟩:=b
 obtain⟨c1,c2⟩:=c
 obtain⟨A1,A2⟩:=ha
 obtain⟨B1,B2⟩:=hb
 obtain⟨C1,C2⟩:=hc
 simp only at A1 A2 B1 B2 C1 C2
 have X1:=Jq B1 A1 (m:=3) (by omega) (by omega)
 have X2:=Jq C2 A2 (m:=3) (by omega) (by omega)
 have X3:=Jq B2 A2 (m:=3) (by omega) (by omega)
 have X4:=Jq C1 A1 (m:=3) (by omega) (by omega)
 have Y1:=Gp X1 X2
 have Y2:=Gp X3 X4
 obtain⟨p1,p2⟩:=cF A1 (by omega) (by omega) (by omega) (by omega)
 obtain⟨p3,p4⟩:=cF A2 (by omega) (by omega) (by omega) (by omega)
 obtain⟨q1,q2⟩:=cF B1 (by omega) (by omega) (by omega) (by omega)
 obtain⟨q3,q4⟩:=cF B2 (by omega) (by omega) (by omega) (by omega)
 obtain⟨r1,r2⟩:=cF C1 (by omega) (by omega) (by omega) (by omega)
 obtain⟨r3,r4⟩:=cF C2 (by omega) (by omega) (by omega) (by omega)
 obtain⟨s1,s2⟩:=cF X1 (by omega) (by omega) (by omega) (by omega)
 obtain⟨s3,s4⟩:=cF X2 (by omega) (by omega) (by omega) (by omega)
 obtain⟨s5,s6⟩:=cF X3 (by omega) (by omega) (by omega) (by omega)
 obtain⟨s7,s8⟩:=cF X4 (by omega) (by omega) (by omega) (by omega)
 obtain⟨t1,t2⟩:=cF Y1 (by omega) (by omega) (by omega) (by omega)
 obtain⟨t3,t4⟩:=cF Y2 (by omega) (by omega) (by omega) (by omega)
 clear Y1 Y2 X1 X2 X3 X4 A1 A2 B1 B2 C1 C2
 unfold vc
 simp only
 obtain⟨x1,hx1⟩:∃p,p=b1-a1:=⟨_,rfl⟩
 obtain⟨x2,hx2⟩:∃p,p=c2-a2:=⟨_,rfl⟩
 obtain⟨x3,hx3⟩:∃p,p=b2-a2:=⟨_,rfl⟩
 obtain⟨x4,hx4⟩:∃p,p=c1-a1:=⟨_,rfl⟩
 rw[←hx1] at s1 s2 t1 t2
 rw[←hx2] at s3 s4 t1 t2
 rw[←hx3] at s5 s6 t3 t4
 rw[←hx4] at s7 s8 t3 t4
 rw[←hx1,←hx2,←hx3,←hx4]
 obtain⟨y1,hy1⟩:∃p,p=x1*x2:=⟨_,rfl⟩
 obtain⟨y2,hy2⟩:∃p,p=x3*x4:=⟨_,rfl⟩
 rw[←hy1] at t1 t2
 rw[←hy2] at t3 t4
 rw[←hy1,←hy2]
 refine aq dA (lv:=fun _=>[]) (K:=1) rfl rfl ?_ M
 obtain⟨o1,o2,hops⟩:∃o1 o2,aE Tryz.f105=[o1,o2]:=⟨_,_,rfl⟩
 obtain⟨hb1,hb2⟩:=Db hops (l:=[0,1,0,4,15,0,32,0,128,511,1023,2047]) (l' :=[0,0,2,0,8,30,0,64,0,256,1022,2046,4095,8191]) (by kernel_rfl)
 have k1:aN [0,1,0,4,15,0,32,0,128,511,1023,2047] 11=true:=by decide
 have k2:aN [0,0,2,0,8,30,0,64,0,256,1022,2046,4095,8191] 13=true:=by decide
 simp[aE,bw,Tryz.f105] at hops
 obtain⟨rfl,rfl⟩:=hops
 simp[ad,hG,Tryz.f105,-aC,ar hb1,ar hb2,bN,bt,bJ,k1,k2,pA,aM,ao,aZ,bj,p1,p2,p3,p4,q1,q2,q3,q4,r1,r2,r3,r4,s1,s2,s3,s4,s5,s6,s7,s8,t1,t2,t3,t4,←hx1,←hx2,←hx3,←hx4,←hy1,←hy2,Nat.testBit]
noncomputable def yj(f:FuncId) (args:List AV):Option AV:=
 match f,args with
 |105,[.agg [.str a,.str b],.agg [.str c,.str d],.agg [.str e,.str f]]=>match dz a,dz b,dz c,dz d,dz e,dz f with
  |some a,some b,some c,some d,some e,some f=>if (aI a.num.natAbs).length≤2∧(aI a.den).length≤1∧(aI b.num.natAbs).length≤2∧(aI b.den).length≤1∧(aI c.num.natAbs).length≤2∧(aI c.den).length≤1∧
    (aI d.num.natAbs).length≤2∧(aI d.den).length≤1∧(aI e.num.natAbs).length≤2∧(aI e.den).length≤1∧(aI f.num.natAbs).length≤2∧(aI f.den).length≤1 then some (.str (aK (vc (a,b) (c,d) (e,f)))) else none
  |_,_,_,_,_,_=>none
 |f,args=>aZ f args
theorem Hd:OracleOk Tryz.prog (ao yj):=bI fun f args v h mem=>by
 unfold yj at h
 split at h
 ·split at h
  ·rename_i a b c d e f ha hb hc hd he hf
   split at h
   ·rename_i hcond
    obtain⟨c1,c2,c3,c4,c5,c6,c7,c8,c9,c10,c11,c12⟩:=hcond
    cases h
    rw[ap ha,ap hb,ap hc,ap hd,ap he,ap hf]
    exact IX (a,b) (c,d) (e,f) ⟨(bY ⟨c1,c2⟩).mono (by omega) (by omega),(bY ⟨c3,c4⟩).mono (by omega) (by omega)⟩
     ⟨(bY ⟨c5,c6⟩).mono (by omega) (by omega),(bY ⟨c7,c8⟩).mono (by omega) (by omega)⟩ ⟨(bY ⟨c9,c10⟩).mono (by omega) (by omega),(bY ⟨c11,c12⟩).mono (by omega) (by omega)⟩ mem
   ·cases h
  ·cases h
 ·have:=dA.fn _ _ mem ⟨v,none,[]⟩ (by unfold ao;simp only;rw[h])
  simpa [CallRes.mem] using this
theorem eI{n d m k:Nat}{q:Rat}(h:dg n d q) (h0:0<n) (h1:0<d) (hm:n≤m) (hk:d≤k):(aI q.num.natAbs).length≤m∧(aI q.den).length≤k:=by
 have:=h.lens h0 h1
 exact⟨by omega,by omega⟩
set_option maxHeartbeats 1600000 in
theorem I5(a b c:P2) (ha:pDg 2 a) (hb:pDg 2 b) (hc:pDg 2 c) (M:Mem):ACallsTo Tryz.prog 76 [pA a,pA b,pA c] M (.int .i64 (Hm (vc a b c))) M:=by
 have hG:aF Tryz.prog 76=some Tryz.f76:=by kernel_rfl
 obtain⟨a1,a2⟩:=a
 obtain⟨b1,b2⟩:=b
 obtain⟨c1,c2⟩:=c
 obtain⟨p1,p2⟩:=eI ha.1 (by omega) (by omega) (Nat.le_refl _) (Nat.le_refl _)
 obtain⟨p3,p4⟩:=eI ha.2 (by omega) (by omega) (Nat.le_refl _) (Nat.le_refl _)
 obtain⟨q1,q2⟩:=eI hb.1 (by omega) (by omega) (Nat.le_refl _) (Nat.le_refl _)
 obtain⟨q3,q4⟩:=eI hb.2 (by omega) (by omega) (Nat.le_refl _) (Nat.le_refl _)
 obtain⟨r1,r2⟩:=eI hc.1 (by omega) (by omega) (Nat.le_refl _) (Nat.le_refl _)
 obtain⟨r3,r4⟩:=eI hc.2 (by omega) (by omega) (Nat.le_refl _) (Nat.le_refl _)
 refine aq Hd (lv:=fun _=>[]) (K:=1) rfl rfl ?_ M
 simp only at p1 p2 p3 p4 q1 q2 q3 q4 r1 r2 r3 r4
 obtain⟨y,hy⟩:∃y,y=vc (a1,a2) (b1,b2) (c1,c2):=⟨_,rfl⟩
 rw[←hy]
 simp[ad,hG,Tryz.f76,pA,aM,ao,yj,aZ,bj,bK,bB,p1,p2,p3,p4,q1,q2,q3,q4,r1,r2,r3,r4,←hy]
theorem gj(d:Nat) (x y:List UInt8):iD (aA Tryz.prog) (d+1) 49 (.str x) (.str y)=some (x==y):=by
 rw[iD];simp
theorem Mx(p q:P2):iD (aA Tryz.prog) 20 121 (pA p) (pA q)=some (decide (p.1=q.1)&&decide (p.2=q.2)):=by
 have i:=gj 18
 rw[iD]
 simp[pA,Li,gu,TyI.isAgg,i,B4]
theorem zW(p:P2):∀(L:List P2) (i:Nat),p∉L→gF (aA Tryz.prog) 121 (pA p) (L.map pmE) i=some none
 | [],i,_=>rfl
 |q::L,i,h=>by
  have e:=Mx p q
  have hne:(decide (p.1=q.1)&&decide (p.2=q.2))=false:=by
   rw[←Bool.not_eq_true]
   intro h2
   simp only[Bool.and_eq_true,decide_eq_true_eq] at h2
   exact h (by rw[show p=q from Prod.ext h2.1 h2.2];exact List.mem_cons_self ..)
  simp only[List.map_cons,gF,pmE,e,hne]
  exact zW p L (i+1) (fun h2=>h (List.mem_cons_of_mem _ h2))
theorem Nj(p:P2):jx (aA Tryz.prog) 20 121 (pA p)=true:=by
 simp[pA,jx,MF,gu,TyI.isAgg]
noncomputable def fe(f:FuncId) (args:List AV):Option AV:=
 match f,args with
 |76,[.agg [.str a,.str b],.agg [.str c,.str d],.agg [.str e,.str f]]=>match dz a,dz b,dz c,dz d,dz e,dz f with
  |some a,some b,some c,some d,some e,some f=>if (aI a.num.natAbs).length≤2∧(aI a.den).length≤1∧(aI b.num.natAbs).length≤2∧(aI b.den).length≤1∧(aI c.num.natAbs).length≤2∧(aI c.den).length≤1∧
    (aI d.num.natAbs).length≤2∧(aI d.den).length≤1∧(aI e.num.natAbs).length≤2∧(aI e.den).length≤1∧(aI f.num.natAbs).length≤2∧(aI f.den).length≤1 then some (.int .i64 (Hm (vc (a,b) (c,d) (e,f)))) else none
  |_,_,_,_,_,_=>none
 |75,[.agg [.str a,.str b]]=>if a.length≤18∧b.length≤18 then some (.int .i64 (t7 [a,b])) else none
 |f,args=>aZ f args
theorem xn:OracleOk Tryz.prog (ao fe):=bI fun f args v h mem=>by
 unfold fe at h
 split at h
 ·split at h
  ·rename_i a b c d e f ha hb hc hd he hf
   split at h
   ·rename_i hcond
    obtain⟨c1,c2,c3,c4,c5,c6,c7,c8,c9,c10,c11,c12⟩:=hcond
    cases h
    rw[ap ha,ap hb,ap hc,ap hd,ap he,ap hf]
    exact I5 (a,b) (c,d) (e,f) ⟨(bY ⟨c1,c2⟩).mono (by omega) (by omega),(bY ⟨c3,c4⟩).mono (by omega) (by omega)⟩
     ⟨(bY ⟨c5,c6⟩).mono (by omega) (by omega),(bY ⟨c7,c8⟩).mono (by omega) (by omega)⟩ ⟨(bY ⟨c9,c10⟩).mono (by omega) (by omega),(bY ⟨c11,c12⟩).mono (by omega) (by omega)⟩ mem
   ·cases h
  ·cases h
 ·split at h
  ·rename_i hc;cases h;exact kZ _ _ hc.1 hc.2 mem
  ·cases h
 ·have:=dA.fn _ _ mem ⟨v,none,[]⟩ (by unfold ao;simp only;rw[h])
  simpa [CallRes.mem] using this
theorem Qo{p:P2}(h:pDg 2 p):t7 [aK p.1,aK p.2]=0:=by
 simp[t7,tA (h.1.mono (by decide) (by decide)),tA (h.2.mono (by decide) (by decide))]
noncomputable def jX(PS:List P2) (TS:List Tr):Oracle:=fun c args M=>match c,args with
 |.fn 77,[.agg [.slice b 0 n none,.slice c 0 k none]]=>open Classical in if n=PS.length∧k=TS.length∧(∃o,M[b]? =some (.cells o 2 (pC PS)))∧(∃o,M[c]? =some (.cells o 3 (tC TS))) then some ⟨.bool true,none,[]⟩ else none
 |c,args=>ao fe c args M
def sb(c:Code):List Nat:=if (ab c).contains 32 then [32] else if (ab c).contains 48 then [48] else if (ab c).contains 53 then [53] else []
def msB(n k:Nat):Slot:=.cells true 0 [.slice 0 0 n none,.slice 1 0 k none]
set_option maxHeartbeats 6400000 in
theorem tg{K:Nat}(PS:List P2) (TS:List Tr) (hP:∀p∈PS,pDg 2 p) (hn:PS.Nodup) (hl:PS.length≤1000000000) (hK:PS.length<K) {b b2 b3 b4 b5:Code}(hb:am Tryz.f41=[b,b2,b3,b4,b5]):
  ∃F:Env→Bool→Env,∀env0 d,(ac env0 30=.slice 0 0 PS.length none∧ac env0 31=.int .i64 PS.length∧ac env0 32=.int .i64 0∧ac env0 3=.map 3∧ac env0 1=.ptr 2 0)→
   aH (aA Tryz.prog) sb (jX PS TS) K 105 2 true (.loop b) ⟨env0,[.cells false 2 (pC PS),.cells false 3 (tC TS),msB PS.length TS.length,.map []],d⟩=some (.exit 1,⟨F env0 d,[.cells false 2 (pC PS),.cells false 3 (tC TS),msB PS.length TS.length,.map (PS.map pmE)],d⟩)∧ac (F env0 d) 1=.ptr 2 0:=by
 refine bo (L:=[32]) (by simp[am,aB,Tryz.f41] at hb;rw[←hb.1];rfl) (fun env0=>ac env0 30=.slice 0 0 PS.length none∧ac env0 31=.int .i64 PS.length∧ac env0 32=.int .i64 0∧ac env0 3=.map 3∧ac env0 1=.ptr 2 0) (fun _ env' =>ac env' 1=.ptr 2 0) ?_
 rintro env0 d ⟨h30,h31,h32,h3,h1⟩
 simp[am,aB,Tryz.f41] at hb
 obtain⟨hb,-⟩:=hb
 have hn0:aw [32] (ab b) env0 ((32,.int .i64 ((0:Nat):Int))::env0)=aw [32] (ab b) env0 env0:=by simp[aw,h32]
 rw[←hn0]
 refine bD (α:=Nat) (fun n=>⟨aw [32] (ab b) env0 ((32,.int .i64 (n:Int))::env0),[.cells false 2 (pC PS),.cells false 3 (tC TS),msB PS.length TS.length,.map ((PS.take n).map pmE)],d⟩) (fun n=>PS.length-n) (fun n=>n≤PS.length) (.exit 1) _ d _ (by simp) ?_ K 0 (by omega) (by omega)
 intro n hn1
 clear hn0
 subst hb
 by_cases hlt:n<PS.length
 ·left
  obtain⟨p,hp⟩:∃q,PS[n]? =some q:=⟨PS[n],List.getElem?_eq_getElem hlt⟩
  obtain⟨k1,k2,k3,k4⟩:=Me hp
  have hpd:=hP p (List.mem_of_getElem? hp)
  have hnot:p∉PS.take n:=by
   intro hm
   obtain⟨j,hj,he⟩:=List.mem_iff_getElem.1 hm
   rw[List.length_take] at hj
   rw[List.getElem_take] at he
   have h1:=List.getElem?_eq_some_iff.1 hp
   obtain⟨h1,h2⟩:=h1
   have:=(List.getElem_inj (h₀:=by omega) (h₁:=h1) hn).1 (he.trans h2.symm)
   omega
  have f1:=zW p (PS.take n) 0 hnot
  have f2:=Nj p
  have e1:(PS.take (n+1)).map pmE=(PS.take n).map pmE++[pmE p]:=by rw[List.take_add_one,hp];simp
  have w1:IntKind.i64.wrap ((n:Int)+1)=((n+1:Nat):Int):=by rw[ai (by omega) (by omega)];omega
  have c1:=Qo hpd
  have l1:=Pt hpd.1 (by omega) (by omega)
  have l2:=Pt hpd.2 (by omega) (by omega)
  obtain⟨m,hm⟩:∃m,m=n+1:=⟨_,rfl⟩
  rw[←hm] at w1 e1
  have r1:=vP 4 (PS.take n)
  obtain⟨E,hE⟩:∃E,E=(PS.take n).map pmE:=⟨_,rfl⟩
  rw[←hE] at f1 e1 r1
  rw[←hE]
  refine⟨m,?_⟩
  obtain⟨px,py⟩:=p
  simp only[pA,pmE] at f1 f2 e1 k1 c1 l1 l2
  simp[h30,h31,h3,hlt,jX,ao,fe,k1,k4,c1,l1,l2,w1,f1,f2,e1,r1,msB,cu,cJ,jb,gQ,dy]
  omega
 ·right
  have e:PS.take n=PS:=List.take_of_length_le (by omega)
  rw[e]
  have hlt' :¬(n:Int)<PS.length:=by omega
  simp[h31,h1,hlt]
def QV(PS:List P2) (t:Tr):Prop:=∃p q r,PS[t.1]? =some p∧PS[t.2.1]? =some q∧PS[t.2.2]? =some r∧0<Hm (vc p q r)
set_option maxRecDepth 8192 in
set_option maxHeartbeats 12800000 in
theorem tq{K:Nat}(PS:List P2) (TS:List Tr) (E:List (AV×AV)) (hP:∀p∈PS,pDg 2 p) (hT:∀t∈TS,QV PS t) (hl:PS.length≤1000000000) (hl2:TS.length≤1000000000) (hE:E.flatMap (fun e=>e.1.refs 4++e.2.refs 4)=[]) (hK:TS.length<K+5) {b1 b b3 b4 b5:Code}(hb:am Tryz.f41=[b1,b,b3,b4,b5]):
  ∃F:Env→Bool→Env,∀env0 d,(ac env0 1=.ptr 2 0∧ac env0 46=.slice 1 0 TS.length none∧ac env0 47=.int .i64 TS.length∧ac env0 48=.int .i64 0)→
   aH (aA Tryz.prog) sb (jX PS TS) (K+5) 105 2 true (.loop b) ⟨env0,[.cells false 2 (pC PS),.cells false 3 (tC TS),msB PS.length TS.length,.map E],d⟩=some (.exit 3,⟨F env0 d,[.cells false 2 (pC PS),.cells false 3 (tC TS),msB PS.length TS.length,.map E],d⟩)∧ac (F env0 d) 1=.ptr 2 0:=by
 refine bo (L:=[48]) (by simp[am,aB,Tryz.f41] at hb;rw[←hb.2.1];rfl) (fun env0=>ac env0 1=.ptr 2 0∧ac env0 46=.slice 1 0 TS.length none∧ac env0 47=.int .i64 TS.length∧ac env0 48=.int .i64 0) (fun _ env' =>ac env' 1=.ptr 2 0) ?_
 rintro env0 d ⟨h1,h46,h47,h48⟩
 obtain⟨ops,hops⟩:∃ops,aE Tryz.f41=[ops]:=⟨_,rfl⟩
 have hbs:=kX hops (l:=[0,1,0,4,15,31,0,64,0,256,960,1984,0,4096,0,16384,61440,126976,262143,524287]) (by kernel_rfl)
 have hab:aN [0,1,0,4,15,31,0,64,0,256,960,1984,0,4096,0,16384,61440,126976,262143,524287] 19=true:=by decide
 simp[aE,bw,Tryz.f41] at hops
 simp[am,aB,Tryz.f41] at hb
 obtain⟨-,hb,-⟩:=hb
 have hn0:aw [48] (ab b) env0 ((48,.int .i64 ((0:Nat):Int))::env0)=aw [48] (ab b) env0 env0:=by simp[aw,h48]
 rw[←hn0]
 refine bD (α:=Nat) (fun n=>⟨aw [48] (ab b) env0 ((48,.int .i64 (n:Int))::env0),[.cells false 2 (pC PS),.cells false 3 (tC TS),msB PS.length TS.length,.map E],d⟩) (fun n=>TS.length-n) (fun n=>n≤TS.length) (.exit 3) _ d _ (by simp) ?_ (K+5) 0 (by omega) (by omega)
 intro n hn1
 clear hn0
 subst hb
 subst hops
 by_cases hlt:n<TS.length
 ·left
  obtain⟨t,ht⟩:∃q,TS[n]? =some q:=⟨TS[n],List.getElem?_eq_getElem hlt⟩
  obtain⟨k1,k2⟩:=PH ht
  obtain⟨p,q,r,e1,e2,e3,hpos⟩:=hT t (List.mem_of_getElem? ht)
  obtain⟨i1,i2,i3⟩:=t
  simp only at e1 e2 e3 k1
  obtain⟨p1,-,-,p4⟩:=Me e1
  obtain⟨q1,-,-,q4⟩:=Me e2
  obtain⟨r1,-,-,r4⟩:=Me e3
  have a1:=(List.getElem?_eq_some_iff.1 e1).1
  have a2:=(List.getElem?_eq_some_iff.1 e2).1
  have a3:=(List.getElem?_eq_some_iff.1 e3).1
  have a1' :¬((i1:Int)<0):=by omega
  have a2' :¬((i2:Int)<0):=by omega
  have a3' :¬((i3:Int)<0):=by omega
  have a1'' :¬((PS.length:Int)≤i1):=by omega
  have a2'' :¬((PS.length:Int)≤i2):=by omega
  have a3'' :¬((PS.length:Int)≤i3):=by omega
  have g1:¬PS.length≤i1:=by omega
  have g2:¬PS.length≤i2:=by omega
  have g3:¬PS.length≤i3:=by omega
  have hp:=hP p (List.mem_of_getElem? e1)
  have hq:=hP q (List.mem_of_getElem? e2)
  have hr:=hP r (List.mem_of_getElem? e3)
  obtain⟨p5,p6⟩:=eI hp.1 (by omega) (by omega) (m:=2) (k:=1) (by omega) (by omega)
  obtain⟨p7,p8⟩:=eI hp.2 (by omega) (by omega) (m:=2) (k:=1) (by omega) (by omega)
  obtain⟨q5,q6⟩:=eI hq.1 (by omega) (by omega) (m:=2) (k:=1) (by omega) (by omega)
  obtain⟨q7,q8⟩:=eI hq.2 (by omega) (by omega) (m:=2) (k:=1) (by omega) (by omega)
  obtain⟨r5,r6⟩:=eI hr.1 (by omega) (by omega) (m:=2) (k:=1) (by omega) (by omega)
  obtain⟨r7,r8⟩:=eI hr.2 (by omega) (by omega) (m:=2) (k:=1) (by omega) (by omega)
  obtain⟨px,py⟩:=p
  obtain⟨qx,qy⟩:=q
  obtain⟨rx,ry⟩:=r
  simp only at p1 q1 r1 p5 p6 p7 p8 q5 q6 q7 q8 r5 r6 r7 r8
  obtain⟨S,hS⟩:∃S,S=Hm (vc (px,py) (qx,qy) (rx,ry)):=⟨_,rfl⟩
  rw[←hS] at hpos
  have hneg:¬S≤0:=by omega
  have w1:IntKind.i64.wrap ((n:Int)+1)=((n+1:Nat):Int):=by rw[ai (by omega) (by omega)];omega
  obtain⟨m,hm⟩:∃m,m=n+1:=⟨_,rfl⟩
  rw[←hm] at w1
  have v1:IntKind.i64.wrap 1=1:=rfl
  have v2:IntKind.i64.wrap 2=2:=rfl
  have v3:IntKind.i64.wrap 3=3:=rfl
  have v2' :IntKind.i64.wrap (1+1)=2:=rfl
  have v3' :IntKind.i64.wrap (2+1)=3:=rfl
  refine⟨m,?_⟩
  clear hP hT
  simp[h1,h46,h47,hlt,k1,k2,ay,dN,v1,v2,v3,v2',v3',sb,a1,a2,a3,a1',a2',a3',a1'',a2'',a3'',g1,g2,g3,p1,q1,r1,p4,q4,r4,-aC,ar hbs,bN,bt,bJ,hab,
   jX,ao,fe,aM,p5,p6,p7,p8,q5,q6,q7,q8,r5,r6,r7,r8,←hS,hneg,hE,msB,cu,cJ,w1,Nat.testBit]
  omega
 ·right
  have hlt' :¬(n:Int)<TS.length:=by omega
  simp[h47,h1,hlt]
theorem NS:aA Tryz.prog 243=some ⟨.func #[3] #[121] false,1,8,.nilFunc,true⟩:=by kernel_rfl
theorem Od:aA Tryz.prog 244=some ⟨.func #[3] #[4] false,1,8,.nilFunc,true⟩:=by kernel_rfl
attribute [simp] NS Od
def cZ(cyc:List Nat):List AV:=cyc.map fun(n:Nat)=>.int .i64 (n:Int)
theorem QQ{cyc:List Nat}{i c:Nat}(h:cyc[i]? =some c):(cZ cyc)[i]? =some (.int .i64 (c:Int)):=by simp[cZ,h]
theorem B6(n:Nat):∀cyc:List Nat,AV.refsL n (cZ cyc)=[]
 | []=>rfl
 |c::l=>by
  have:=B6 n l
  simp only[cZ] at this
  simp[cZ,AV.refsL,AV.refs,this]
def wU(PS:List P2) (cyc:List Nat) (i:Nat):P2:=PS.getD (cyc.getD (i%cyc.length) 0) (0,0)
theorem yo{PS:List P2}(hP:∀p∈PS,pDg 2 p) (cyc:List Nat) (i:Nat):pDg 2 (wU PS cyc i):=by
 unfold wU
 rw[List.getD_eq_getElem?_getD]
 cases h:PS[cyc.getD (i%cyc.length) 0]? with
 |none=>exact⟨⟨by decide,by decide⟩,⟨by decide,by decide⟩⟩
 |some p=>exact hP p (List.mem_of_getElem? h)
def upV(PS:List P2) (cyc:List Nat) (i:Nat):Bool:=
 decide (0<xV (wU PS cyc (i+1)).2 (wU PS cyc i).2)||(decide (xV (wU PS cyc (i+1)).2 (wU PS cyc i).2=0)&&decide (0<xV (wU PS cyc (i+1)).1 (wU PS cyc i).1))
def jg(PS:List P2) (cyc:List Nat):Nat→Nat
 |0=>0
 |n+1=>jg PS cyc n+if !upV PS cyc n&&upV PS cyc (n+1) then 1 else 0
def dv(PS:List P2) (k:Nat) (cyc:List Nat):Mem:=[.cells false 2 (pC PS),.absent,.cells false 1 (cZ cyc),.cells true 0 [.slice 0 0 PS.length none,.slice 1 0 k none],.cells true 0 [.slice 2 0 cyc.length none],.cells true 0 [.int .i64 cyc.length],.cells true 0 [.func 144 [.ptr 3 0,.ptr 4 0,.ptr 5 0]]]
set_option maxHeartbeats 1600000 in
theorem IY(PS:List P2) (k:Nat) (cyc:List Nat) (hc:∀c∈cyc,c<PS.length) (h0:cyc≠[]) (i:Nat):
  ACallsTo Tryz.prog 144 [.int .i64 i,.ptr 3 0,.ptr 4 0,.ptr 5 0] (dv PS k cyc) (pA (wU PS cyc i)) (dv PS k cyc):=by
 have hG:aF Tryz.prog 144=some Tryz.f144:=by kernel_rfl
 have hn:0<cyc.length:=by cases cyc with | nil=>exact absurd rfl h0 | cons a l=>simp
 have hj:i%cyc.length<cyc.length:=Nat.mod_lt _ hn
 obtain⟨c,hcg⟩:∃c,cyc[i%cyc.length]? =some c:=⟨_,List.getElem?_eq_getElem hj⟩
 have hcl:=hc c (List.mem_of_getElem? hcg)
 obtain⟨p,hp⟩:∃p,PS[c]? =some p:=⟨_,List.getElem?_eq_getElem hcl⟩
 have hpt:wU PS cyc i=p:=by
  unfold wU
  rw[List.getD_eq_getElem?_getD,List.getD_eq_getElem?_getD,hcg]
  simp[hp]
 rw[hpt]
 obtain⟨k1,-,-,k4⟩:=Me hp
 have k5:=QQ hcg
 have ht:(i:Int).tmod (cyc.length:Int)=((i%cyc.length:Nat):Int):=vH i cyc.length
 have hz:¬((cyc.length:Int)=0):=by omega
 have hz2:¬cyc.length=0:=by omega
 obtain⟨j,hje⟩:∃j,j=i%cyc.length:=⟨_,rfl⟩
 rw[←hje] at ht hj k5 hcg
 obtain⟨ops,hops⟩:∃ops,aE Tryz.f144=[ops]:=⟨_,rfl⟩
 have hbs:=kX hops (l:=[0,1,0,0,0,24,60,124,255,511,1023]) (by kernel_rfl)
 have hab:aN [0,1,0,0,0,24,60,124,255,511,1023] 10=true:=by decide
 simp[aE,bw,Tryz.f144] at hops
 subst hops
 obtain⟨px,py⟩:=p
 simp only at k1
 have h:ad (aA Tryz.prog) (fun _=>[]) (aF Tryz.prog) aD 1 144 [.int .i64 i,.ptr 3 0,.ptr 4 0,.ptr 5 0] (dv PS k cyc)=some ⟨pA (px,py),none,[]⟩:=by
  simp[ad,hG,Tryz.f144,dv,-aC,ar hbs,bN,bt,bJ,hab,ht,hz,hz2,hj,k5,k1,k4,hcl,pA,Nat.testBit]
 have:=(ae aa (aj _) (af _) (al _) h).1
 simpa [CallRes.mem] using this
noncomputable def iG(PS:List P2) (k:Nat) (cyc:List Nat):Oracle:=fun c args M=>match c,args with
 |.fn 144,[.int .i64 i,.ptr 3 0,.ptr 4 0,.ptr 5 0]=>open Classical in if 0≤i∧M=dv PS k cyc then some ⟨pA (wU PS cyc i.toNat),none,[]⟩ else none
 |c,args=>ao fe c args M
theorem wC(PS:List P2) (k:Nat) (cyc:List Nat) (hc:∀c∈cyc,c<PS.length) (h0:cyc≠[]):OracleOk Tryz.prog (iG PS k cyc):=by
 refine cH fun c args M r h=>?_
 unfold iG at h
 split at h
 ·rename_i i
  split at h
  ·rename_i hcond
   cases h
   obtain⟨h1,rfl⟩:=hcond
   refine au ?_
   rw[List.append_nil]
   have:=IY PS k cyc hc h0 i.toNat
   rw[Int.toNat_of_nonneg h1] at this
   exact this
  ·cases h
 ·exact gJ xn h
set_option maxRecDepth 8192 in
set_option maxHeartbeats 6400000 in
theorem IC(PS:List P2) (k:Nat) (cyc:List Nat) (hP:∀p∈PS,pDg 2 p) (hc:∀c∈cyc,c<PS.length) (h0:cyc≠[]) (i:Nat) (hi:i≤1000000000):
  ACallsTo Tryz.prog 145 [.int .i64 i,.ptr 6 0] (dv PS k cyc) (.bool (upV PS cyc i)) (dv PS k cyc):=by
 have hG:aF Tryz.prog 145=some Tryz.f145:=by kernel_rfl
 have hp:=yo hP cyc i
 have hq:=yo hP cyc (i+1)
 unfold upV
 obtain⟨p,hpe⟩:∃p,p=wU PS cyc i:=⟨_,rfl⟩
 obtain⟨q,hqe⟩:∃q,q=wU PS cyc (i+1):=⟨_,rfl⟩
 rw[←hpe] at hp ⊢
 rw[←hqe] at hq ⊢
 have w1:IntKind.i64.wrap ((i:Int)+1)=((i+1:Nat):Int):=by rw[ai (by omega) (by omega)];omega
 have s1:(0:Int)≤(i:Int)+1:=by omega
 have s2:((i:Int)+1).toNat=i+1:=by omega
 obtain⟨p1,p2⟩:=cF hp.1 (by omega) (by omega) (by omega) (by omega)
 obtain⟨p3,p4⟩:=cF hp.2 (by omega) (by omega) (by omega) (by omega)
 obtain⟨q1,q2⟩:=cF hq.1 (by omega) (by omega) (by omega) (by omega)
 obtain⟨q3,q4⟩:=cF hq.2 (by omega) (by omega) (by omega) (by omega)
 obtain⟨px,py⟩:=p
 obtain⟨qx,qy⟩:=q
 simp only at p1 p2 p3 p4 q1 q2 q3 q4 ⊢
 obtain⟨o1,o2,hops⟩:∃o1 o2,aE Tryz.f145=[o1,o2]:=⟨_,_,rfl⟩
 obtain⟨hb1,hb2⟩:=Db hops (l:=[0,0,2,7,15,0,0,111,239,511,1023]) (l' :=[0,1,3,7,15,31,63,63,191,511,1023,63,63,7167,15359,32767,65535,131071,262143,524287]) (by kernel_rfl)
 have k1:aN [0,0,2,7,15,0,0,111,239,511,1023] 10=true:=by decide
 have k2:aN [0,1,3,7,15,31,63,63,191,511,1023,63,63,7167,15359,32767,65535,131071,262143,524287] 19=true:=by decide
 simp[aE,bw,Tryz.f145] at hops
 obtain⟨rfl,rfl⟩:=hops
 have key:∀b:Bool,(decide (0<xV qy py)||(decide (xV qy py=0)&&decide (0<xV qx px)))=b→ad (aA Tryz.prog) (fun _=>[]) (aF Tryz.prog) (iG PS k cyc) 1 145 [.int .i64 i,.ptr 6 0] (dv PS k cyc)=some ⟨.bool b,none,[]⟩:=by
  intro b hb
  by_cases c1:0<xV qy py
  ·simp only[c1,decide_true,Bool.true_or] at hb
   subst hb
   simp[ad,hG,Tryz.f145,dv,iG,-aC,ar hb1,ar hb2,bN,bt,bJ,k1,k2,w1,s1,s2,←hpe,←hqe,pA,ao,fe,aZ,bj,aM,p1,p2,p3,p4,q1,q2,q3,q4,c1,Nat.testBit]
  ·by_cases c2:xV qy py=0
   ·by_cases c3:0<xV qx px
    ·simp[c2,c3] at hb
     subst hb
     simp[ad,hG,Tryz.f145,dv,iG,-aC,ar hb1,ar hb2,bN,bt,bJ,k1,k2,w1,s1,s2,←hpe,←hqe,pA,ao,fe,aZ,bj,aM,p1,p2,p3,p4,q1,q2,q3,q4,c2,c3,Nat.testBit]
    ·simp[c2,c3] at hb
     subst hb
     simp[ad,hG,Tryz.f145,dv,iG,-aC,ar hb1,ar hb2,bN,bt,bJ,k1,k2,w1,s1,s2,←hpe,←hqe,pA,ao,fe,aZ,bj,aM,p1,p2,p3,p4,q1,q2,q3,q4,c2,c3,Nat.testBit]
   ·simp[c1,c2] at hb
    subst hb
    simp[ad,hG,Tryz.f145,dv,iG,-aC,ar hb1,ar hb2,bN,bt,bJ,k1,k2,w1,s1,s2,←hpe,←hqe,pA,ao,fe,aZ,bj,aM,p1,p2,p3,p4,q1,q2,q3,q4,c1,c2,Nat.testBit]
 have:=(ae aa (aj _) (wC PS k cyc hc h0) (al _) (key _ rfl)).1
 simpa [CallRes.mem] using this
noncomputable def oF(PS:List P2) (k:Nat) (cyc:List Nat):Oracle:=fun c args M=>match c,args with
 |.fn 145,[.int .i64 i,.ptr 6 0]=>open Classical in if 0≤i∧i≤1000000000∧M=dv PS k cyc then some ⟨.bool (upV PS cyc i.toNat),none,[]⟩ else none
 |c,args=>iG PS k cyc c args M
theorem Cp(PS:List P2) (k:Nat) (cyc:List Nat) (hP:∀p∈PS,pDg 2 p) (hc:∀c∈cyc,c<PS.length) (h0:cyc≠[]):OracleOk Tryz.prog (oF PS k cyc):=by
 refine cH fun c args M r h=>?_
 unfold oF at h
 split at h
 ·rename_i i
  split at h
  ·rename_i hcond
   cases h
   obtain⟨h1,h2,rfl⟩:=hcond
   refine au ?_
   rw[List.append_nil]
   have:=IC PS k cyc hP hc h0 i.toNat (by omega)
   rw[Int.toNat_of_nonneg h1] at this
   exact this
  ·cases h
 ·exact gJ (wC PS k cyc hc h0) h
def Mw(PS:List P2) (cyc:List Nat):Prop:=
 cyc≠[]∧(∀c∈cyc,c<PS.length)∧(∀i,i<cyc.length→0≤Hm (vc (wU PS cyc i) (wU PS cyc (i+1)) (wU PS cyc (i+2))))∧jg PS cyc cyc.length=1
theorem z7(PS:List P2) (cyc:List Nat):∀n,jg PS cyc n≤n
 |0=>Nat.le_refl _
 |n+1=>by
  have:=z7 PS cyc n
  unfold jg
  split<;>omega
set_option maxRecDepth 8192 in
set_option maxHeartbeats 12800000 in
theorem zh{K:Nat}(PS:List P2) (k:Nat) (cyc:List Nat) (hP:∀p∈PS,pDg 2 p) (ho:Mw PS cyc) (hl:cyc.length≤1000000) (hK:cyc.length<K) {b:Code}(hb:am Tryz.f108=[b]):
  ∃F:Env→Bool→Env,∀env0 d,(ac env0 6=.ptr 6 0∧ac env0 7=.func 145 [.ptr 6 0]∧ac env0 8=.int .i64 0∧ac env0 14=.int .i64 cyc.length∧ac env0 15=.int .i64 0)→
   aH (aA Tryz.prog) (fun _=>[8,15]) (oF PS k cyc) K 46 3 true (.loop b) ⟨env0,dv PS k cyc,d⟩=some (.exit 0,⟨F env0 d,dv PS k cyc,d⟩)∧ac (F env0 d) 8=.int .i64 1:=by
 refine bo rfl (fun env0=>ac env0 6=.ptr 6 0∧ac env0 7=.func 145 [.ptr 6 0]∧ac env0 8=.int .i64 0∧ac env0 14=.int .i64 cyc.length∧ac env0 15=.int .i64 0) (fun _ env' =>ac env' 8=.int .i64 1) ?_
 rintro env0 d ⟨h6,h7,h8,h14,h15⟩
 obtain⟨-,-,ho3,ho4⟩:=ho
 obtain⟨ops,hops⟩:∃ops,aE Tryz.f108=[ops]:=⟨_,rfl⟩
 have hbs:=kX hops (l:=[0,0,3,0,0,16,63,0,0,256,1023,2047,4095]) (by kernel_rfl)
 have hab:aN [0,0,3,0,0,16,63,0,0,256,1023,2047,4095] 12=true:=by decide
 simp[aE,bw,Tryz.f108] at hops
 simp[am,aB,Tryz.f108] at hb
 have hn0:aw [8,15] (ab b) env0 ((8,.int .i64 ((jg PS cyc 0:Nat):Int))::(15,.int .i64 ((0:Nat):Int))::env0)=aw [8,15] (ab b) env0 env0:=by simp[aw,h8,h15,jg]
 rw[←hn0]
 refine bD (α:=Nat) (fun n=>⟨aw [8,15] (ab b) env0 ((8,.int .i64 ((jg PS cyc n:Nat):Int))::(15,.int .i64 (n:Int))::env0),dv PS k cyc,d⟩) (fun n=>cyc.length-n) (fun n=>n≤cyc.length) (.exit 0) _ d _ (by simp) ?_ K 0 (by omega) (by omega)
 intro n hn1
 clear hn0
 subst hb
 subst hops
 by_cases hlt:n<cyc.length
 ·left
  have h3:=ho3 n hlt
  have hp:=yo hP cyc n
  have hq:=yo hP cyc (n+1)
  have hr:=yo hP cyc (n+2)
  obtain⟨p,hpe⟩:∃p,p=wU PS cyc n:=⟨_,rfl⟩
  obtain⟨q,hqe⟩:∃q,q=wU PS cyc (n+1):=⟨_,rfl⟩
  obtain⟨r,hre⟩:∃r,r=wU PS cyc (n+2):=⟨_,rfl⟩
  rw[←hpe,←hqe,←hre] at h3
  rw[←hpe] at hp
  rw[←hqe] at hq
  rw[←hre] at hr
  obtain⟨p5,p6⟩:=eI hp.1 (by omega) (by omega) (m:=2) (k:=1) (by omega) (by omega)
  obtain⟨p7,p8⟩:=eI hp.2 (by omega) (by omega) (m:=2) (k:=1) (by omega) (by omega)
  obtain⟨q5,q6⟩:=eI hq.1 (by omega) (by omega) (m:=2) (k:=1) (by omega) (by omega)
  obtain⟨q7,q8⟩:=eI hq.2 (by omega) (by omega) (m:=2) (k:=1) (by omega) (by omega)
  obtain⟨r5,r6⟩:=eI hr.1 (by omega) (by omega) (m:=2) (k:=1) (by omega) (by omega)
  obtain⟨r7,r8⟩:=eI hr.2 (by omega) (by omega) (m:=2) (k:=1) (by omega) (by omega)
  obtain⟨px,py⟩:=p
  obtain⟨qx,qy⟩:=q
  obtain⟨rx,ry⟩:=r
  simp only at p5 p6 p7 p8 q5 q6 q7 q8 r5 r6 r7 r8
  obtain⟨S,hS⟩:∃S,S=Hm (vc (px,py) (qx,qy) (rx,ry)):=⟨_,rfl⟩
  rw[←hS] at h3
  have hneg:¬S<0:=by omega
  obtain⟨m1,hm1⟩:∃m,m=n+1:=⟨_,rfl⟩
  obtain⟨m2,hm2⟩:∃m,m=n+2:=⟨_,rfl⟩
  have w1:IntKind.i64.wrap ((n:Int)+1)=(m1:Int):=by rw[ai (by omega) (by omega)];omega
  have w2:IntKind.i64.wrap ((n:Int)+2)=(m2:Int):=by rw[ai (by omega) (by omega)];omega
  have s5:(n:Int)≤1000000000:=by omega
  have s6:(m1:Int)≤1000000000:=by omega
  have s7:n≤1000000000:=by omega
  have s8:m1≤1000000000:=by omega
  have hle:=z7 PS cyc n
  have hR:jg PS cyc (n+1)=jg PS cyc n+if !upV PS cyc n&&upV PS cyc (n+1) then 1 else 0:=rfl
  obtain⟨R,hRe⟩:∃R,R=jg PS cyc n:=⟨_,rfl⟩
  rw[←hRe] at hR hle ⊢
  have w3:IntKind.i64.wrap ((R:Int)+1)=((R+1:Nat):Int):=by rw[ai (by omega) (by omega)];omega
  obtain⟨U,hU⟩:∃U,U=upV PS cyc n:=⟨_,rfl⟩
  obtain⟨V,hV⟩:∃U,U=upV PS cyc (n+1):=⟨_,rfl⟩
  rw[←hU,←hV] at hR
  rw[←hm1] at hR hV hqe
  rw[←hm2] at hre
  refine⟨m1,?_⟩
  cases U<;>cases V
  all_goals
   simp at hR
   simp[dv,h6,h7,h14,hlt,oF,iG,-aC,ar hbs,bN,bt,bJ,hab,w1,w2,w3,s5,s6,s7,s8,cu,B6,←hpe,←hqe,←hre,←hU,←hV,pA,ao,fe,aM,p5,p6,p7,p8,q5,q6,q7,q8,r5,r6,r7,r8,←hS,hneg,hR,Nat.testBit]
   omega
 ·right
  have e:n=cyc.length:=by omega
  subst e
  have hlt' :¬(cyc.length:Int)<cyc.length:=by omega
  simp[h14,ho4]
theorem IQ(PS:List P2) (k:Nat) (cyc:List Nat) (hP:∀p∈PS,pDg 2 p) (ho:Mw PS cyc) (hl:cyc.length≤1000000):
  ACallsTo Tryz.prog 108 [.agg [.slice 0 0 PS.length none,.slice 1 0 k none],.slice 2 0 cyc.length none] [.cells false 2 (pC PS),.absent,.cells false 1 (cZ cyc)] (.bool true) [.cells false 2 (pC PS),.absent,.cells false 1 (cZ cyc)]:=by
 have hG:aF Tryz.prog 108=some Tryz.f108:=by kernel_rfl
 obtain⟨b,hb⟩:∃b,am Tryz.f108=[b]:=⟨_,rfl⟩
 obtain⟨F,hF⟩:=zh (K:=cyc.length+1) PS k cyc hP ho hl (by omega) hb
 simp[am,aB,Tryz.f108] at hb
 subst hb
 have hF1:=fun env0 d h=>(hF env0 d h).1
 have hF2:=fun env0 d h=>(hF env0 d h).2
 clear hF
 simp only[dv] at hF1
 have h:ad (aA Tryz.prog) (fun _=>[8,15]) (aF Tryz.prog) (oF PS k cyc) (cyc.length+1) 108 [.agg [.slice 0 0 PS.length none,.slice 1 0 k none],.slice 2 0 cyc.length none] [.cells false 2 (pC PS),.absent,.cells false 1 (cZ cyc)]=some ⟨.bool true,none,[]⟩:=by
  simp[ad,hG,Tryz.f108,hF1,hF2,cu,B6]
 have:=(ae aa (aj _) (Cp PS k cyc hP ho.2.1 ho.1) (al _) h).1
 simpa [CallRes.mem] using this
end Go.Proofs
