/- See Q54. -/
import Derived.Test.YtgafjliihahjgaaGreatDoorQ32
import Derived.Test.YtgafjliihahjgaaGreatDoorQ33
set_option linter.all false
namespace Go.Proofs
open Go.Eng
theorem gQ(s:Sheet):0<s.P.length∧s.P.length≤1000:=by
 have h:∀k<8,0<(cW k).length∧(cW k).length≤1000:=by decide
 have:=h (s.kind%8) (Nat.mod_lt _ (by decide));unfold Sheet.P
 rwa [List.length_map]
theorem fg{m n:Nat}{v:Z3}(h:dO m v) (hmn:m≤n):dO n v:=by obtain⟨h1,h2,h3⟩:=h;exact⟨by omega,by omega,by omega⟩
theorem La(d:Deed) (j k:Nat):0≤Ie d j k∧Ie d j k≤3:=by unfold Ie;have:=Nat.mod_lt (HT d.K ((j+k)%4)) (show 0<4 by decide);omega
theorem sw(d:Deed) (n:Nat):∀z∈bo d n,z.natAbs≤8:=by intro z hz;simp only[bo,List.mem_map] at hz;obtain⟨k,_,rfl⟩:=hz;exact xa k
theorem Dy(d:Deed) (j n:Nat) (L:List Int) (m:Nat) (hL:∀z∈L,z.natAbs≤m) (hn:n≤L.length):∀z∈bU d j L n,z.natAbs≤m+3:=by
 intro z hz;simp only[bU,List.mem_map,List.mem_range] at hz;obtain⟨k,hk,rfl⟩:=hz;have h1:=La d j k;have h2:L.getD k 0∈L:=by rw[List.getD_eq_getElem?_getD,List.getElem?_eq_getElem (by omega)];exact List.getElem_mem _
 have:=hL _ h2;omega
theorem pG(d:Deed) (j n:Nat) (L:List Int):∀(i:Nat) z y,L[i]? =some z→(bU d j L n)[i]? =some y→z≤y:=by
 intro i z y hz hy;have h1:=La d j i;simp only[bU,List.getElem?_map,Option.map_eq_some_iff] at hy;obtain⟨k,hk,rfl⟩:=hy;have e:k=i:=by rw[List.getElem?_eq_some_iff] at hk;obtain⟨_,h⟩:=hk;rw[List.getElem_range] at h;exact h.symm
 subst e;rw[List.getD_eq_getElem?_getD,hz];simp only[Option.getD_some];omega
theorem hN5(n:Int):(n.tmod 5).natAbs≤1000:=by have: -5<n.tmod 5∧n.tmod 5<5:=lQ n 5 (by decide);omega
def shB(s:Sheet) (p t:Nat):AV:=.agg [.slice p 0 s.P.length none,.slice t 0 s.T.length none]
def Qh(s:Sheet) (U:List (List UInt8)) (b:Nat) (new:Mem) (ev:List AV):Prop:=∃c:Evc,Tryz.Good s c∧unE c=U∧∀M',Keeps b new M' →EvAt M' ev c
def gI(s:Sheet) (p t:Nat) (U:List (List UInt8)) (b:Nat) (new:Mem) (ev:List AV):Prop:=(∀(M' :Mem) (o o' :Bool),M'[p]? =some (.cells o 2 (pC s.P))→M'[t]? =some (.cells o' 3 (tC s.T))→Keeps b new M' →ACallsTo Tryz.prog 61 [shB s p t,.agg ev] M' (.int .i64 0) M')∧Qh s U b new ev
theorem gX{s:Sheet}{d:Deed}{i:Nat}{ev:List AV}{new M:Mem}{p t:Nat}(hp:p<M.length) (ht:t<M.length) (hn:new.all (fun s=>s.own||match s with | .absent=>true | _=>false)=true)
  (h:ACallsTo Tryz.prog 28 [.agg [.slice 0 0 s.P.length none,.slice 1 0 s.T.length none],.agg d.cells,.int .i64 i] [.absent,.absent] (.agg ev) ([.absent,.absent]++new)):
  ACallsTo Tryz.prog 28 [shB s p t,.agg d.cells,.int .i64 i] M (.agg (AV.rens (ar [p,t] M.length) ev)) (M++new.map (Slot.ren (ar [p,t] M.length))):=by
 have:=ACallsTo.frame (M:=M) (new:=new) [p,t] rfl (by simp[hp,ht]) (by rfl) (fun i q hs=>by
  match i with
  |0=>simp at hs;subst hs;trivial
  |1=>simp at hs;subst hs;trivial
  |i+2=>simp at hs) hn h
 simpa [shB,AV.rens,AV.ren,ar,Deed.cells] using this
theorem wo(s:Sheet) (d:Deed) (hd:d.Ok) (i:Nat) (hi:i<6) (hk:d.kind%5=1) (M:Mem) (p t:Nat) (o o' :Bool) (hp:M[p]? =some (.cells o 2 (pC s.P))) (ht:M[t]? =some (.cells o' 3 (tC s.T))):
  ∃ev new,ACallsTo Tryz.prog 28 [shB s p t,.agg d.cells,.int .i64 i] M (.agg ev) (M++new)∧gI s p t (bE d i) M.length new ev∧fq M.length new ev (bE d i)∧new.length≤5∧(ev.length=32∧ev[1]? =some (.str (bA i)))∧nq M new∧AV.refsOkL (fun b=>decide (b<M.length+5)) ev=true∧pN ev:=by
 have l0:=(List.getElem?_eq_some_iff.1 hp).1;have l1:=(List.getElem?_eq_some_iff.1 ht).1;obtain⟨hn,hl⟩:=gQ s;have h:=gX l0 l1 rfl (vN d hd s.P.length s.T.length i hi hn hl hk);refine⟨_,_,h,⟨fun M' w w' hp' ht' hkp=>?_,?_⟩,?_,by simp,⟨by rfl,by rfl⟩,?_,?_,?_⟩
 rotate_left
 ·exact⟨yL (bA i) (bw d.A) (d.N.tmod 5) (dw (bw d.A) (qc d.B)),yg s (bA i) (bw d.A) (d.N.tmod 5) (dw (bw d.A) (qc d.B)) (dn hi) (fg (bR _) (by decide)) (jm _) (hN5 d.N) (fg (jk (bR d.A) (fl d.B)) (by decide)) (ph _ _) (bR _) (by have: -5<d.N.tmod 5∧d.N.tmod 5<5:=lQ d.N 5 (by decide);omega) (jk (bR d.A) (fl d.B)),by rw[show bE d i=[] by simp[bE,hk]];rfl,fun M' _=>yS (by simp[bm,yL,Evc.cells,AV.rens,AV.ren]) rfl rfl rfl rfl⟩
 ·rw[show bE d i=[] by simp[bE,hk]]
  refine oc fun M=>?_
  simpa [bm,AV.rens,AV.ren] using lg (bA i) (bw d.A) (d.N.tmod 5) (dw (bw d.A) (qc d.B)) M
 ·simp[nq,Slot.own,Slot.refsOk]
 ·simp[bm,AV.rens,AV.ren,AV.refsOkL,AV.refsOk]
 ·simp[pN,bm,AV.rens,AV.ren]
 have h5: -5<d.N.tmod 5∧d.N.tmod 5<5:=lQ d.N 5 (by decide);have hz:=jk (bR d.A) (fl d.B);have:=jr s (bA i) (bw d.A) (d.N.tmod 5) (dw (bw d.A) (qc d.B)) (dn hi) (fg (bR _) (by decide)) (jm _) (by omega) (fg hz (by decide)) (ph _ _) M' p t w w' hp' ht';simpa [shB,bm,AV.rens,AV.ren] using this
theorem xW(s:Sheet) (d:Deed) (hd:d.Ok) (i:Nat) (hi:i<6) (hk:d.kind%5=3) (M:Mem) (p t:Nat) (o o' :Bool) (hp:M[p]? =some (.cells o 2 (pC s.P))) (ht:M[t]? =some (.cells o' 3 (tC s.T))):
  ∃ev new,ACallsTo Tryz.prog 28 [shB s p t,.agg d.cells,.int .i64 i] M (.agg ev) (M++new)∧gI s p t (bE d i) M.length new ev∧fq M.length new ev (bE d i)∧new.length≤5∧(ev.length=32∧ev[1]? =some (.str (bA i)))∧nq M new∧AV.refsOkL (fun b=>decide (b<M.length+5)) ev=true∧pN ev:=by
 have l0:=(List.getElem?_eq_some_iff.1 hp).1;have l1:=(List.getElem?_eq_some_iff.1 ht).1;obtain⟨hn,hl⟩:=gQ s;have h:=gX l0 l1 rfl (xw d hd s.P.length s.T.length i hi hn hl hk);refine⟨_,_,h,⟨fun M' w w' hp' ht' hkp=>?_,?_⟩,?_,by simp,⟨by rfl,by rfl⟩,?_,?_,?_⟩
 rotate_left
 ·exact⟨JL (bA i) (bw d.A) (d.N.tmod 5) (1+(d.K.1%4:Nat)) (gj i),Aj s (bA i) (bw d.A) (d.N.tmod 5) (1+(d.K.1%4:Nat)) (gj i) (dn hi) (fg (bR _) (by decide)) (jm _) (hN5 d.N) (by have:=Nat.mod_lt d.K.1 (show 0<4 by decide);omega) (by have:=Nat.mod_lt d.K.1 (show 0<4 by decide);omega) (u9 hi) (bR _) (by have: -5<d.N.tmod 5∧d.N.tmod 5<5:=lQ d.N 5 (by decide);omega) (by have:=Nat.mod_lt d.K.1 (show 0<4 by decide);omega),by rw[show bE d i=[gj i] by simp[bE,hk]];rfl,fun M' _=>yS (by simp[db,JL,Evc.cells,AV.rens,AV.ren]) rfl rfl rfl rfl⟩
 ·rw[show bE d i=[gj i] by simp[bE,hk]]
  simpa [db,AV.rens,AV.ren] using sj (b:=M.length) (new:=[]) (bA i) (bw d.A) (d.N.tmod 5) (1+(d.K.1%4:Nat)) (gj i)
 ·simp[nq,Slot.own,Slot.refsOk]
 ·simp[db,AV.rens,AV.ren,AV.refsOkL,AV.refsOk]
 ·simp[pN,db,AV.rens,AV.ren]
 have h5: -5<d.N.tmod 5∧d.N.tmod 5<5:=lQ d.N 5 (by decide);have h4:=Nat.mod_lt d.K.1 (show 0<4 by decide);have:=jV s (bA i) (bw d.A) (d.N.tmod 5) (1+(d.K.1%4:Nat)) (gj i) (dn hi) (fg (bR _) (by decide)) (jm _) (by omega) (by omega) (by omega) (u9 hi) M' p t w w' hp' ht';simpa [shB,db,AV.rens,AV.ren] using this
theorem xY(s:Sheet) (d:Deed) (hd:d.Ok) (i:Nat) (hi:i<6) (hk:d.kind%5=4) (M:Mem) (p t:Nat) (o o' :Bool) (hp:M[p]? =some (.cells o 2 (pC s.P))) (ht:M[t]? =some (.cells o' 3 (tC s.T))):
  ∃ev new,ACallsTo Tryz.prog 28 [shB s p t,.agg d.cells,.int .i64 i] M (.agg ev) (M++new)∧gI s p t (bE d i) M.length new ev∧fq M.length new ev (bE d i)∧new.length≤5∧(ev.length=32∧ev[1]? =some (.str (bA i)))∧nq M new∧AV.refsOkL (fun b=>decide (b<M.length+5)) ev=true∧pN ev:=by
 have l0:=(List.getElem?_eq_some_iff.1 hp).1;have l1:=(List.getElem?_eq_some_iff.1 ht).1;obtain⟨hn,hl⟩:=gQ s;have h:=gX l0 l1 rfl (xy d hd s.P.length s.T.length i hi hn hl hk);refine⟨_,_,h,⟨fun M' w w' hp' ht' hkp=>?_,?_⟩,?_,by simp,⟨by rfl,by rfl⟩,?_,?_,?_⟩
 rotate_left
 ·exact⟨JM (bA i) (bn (d.K.1%6)) (qc d.B),Al s _ _ _ (dn hi) (fg (fl _) (by decide)) (by have:=Nat.mod_lt d.K.1 (show 0<6 by decide);omega) (fl _),by rw[show bE d i=[] by simp[bE,hk]];rfl,fun M' _=>yS (by simp[cx,JM,Evc.cells,AV.rens,AV.ren]) rfl rfl rfl rfl⟩
 ·rw[show bE d i=[] by simp[bE,hk]]
  refine oc fun M=>?_
  simpa [cx,AV.rens,AV.ren] using mV (bA i) (bn (d.K.1%6)) (qc d.B) M
 ·simp[nq,Slot.own,Slot.refsOk]
 ·simp[cx,AV.rens,AV.ren,AV.refsOkL,AV.refsOk]
 ·simp[pN,cx,AV.rens,AV.ren]
 have:=jX s (bA i) (d.K.1%6) (qc d.B) (dn hi) (fg (fl _) (by decide)) M' p t w w' hp' ht';simpa [shB,cx,AV.rens,AV.ren] using this
theorem xX(s:Sheet) (d:Deed) (hd:d.Ok) (i:Nat) (hi:i<6) (hk:d.kind%5=2) (M:Mem) (p t:Nat) (o o' :Bool) (hp:M[p]? =some (.cells o 2 (pC s.P))) (ht:M[t]? =some (.cells o' 3 (tC s.T))):
  ∃ev new,ACallsTo Tryz.prog 28 [shB s p t,.agg d.cells,.int .i64 i] M (.agg ev) (M++new)∧gI s p t (bE d i) M.length new ev∧fq M.length new ev (bE d i)∧new.length≤5∧(ev.length=32∧ev[1]? =some (.str (bA i)))∧nq M new∧AV.refsOkL (fun b=>decide (b<M.length+5)) ev=true∧pN ev:=by
 have l0:=(List.getElem?_eq_some_iff.1 hp).1;have l1:=(List.getElem?_eq_some_iff.1 ht).1;obtain⟨hn,hl⟩:=gQ s;have h3:=Nat.mod_lt d.K.1 (show 0<3 by decide);have h:=gX l0 l1 rfl (xx d hd s.P.length s.T.length i hi hn hl hk);refine⟨_,_,h,⟨fun M' w w' hp' ht' hkp=>?_,?_⟩,?_,by simp,⟨by rfl,by rfl⟩,?_,?_,?_⟩
 rotate_left
 ·refine⟨Au (bA i) (bw d.A) (kT (bM d (1+d.K.1%3))) (dw (bw d.A) (qc d.B)),Ak s _ _ _ d _ (by omega) (by omega) (dn hi) (fg (bR _) (by decide)) (jm _) (fg (jk (bR d.A) (fl d.B)) (by decide)) (ph _ _) (bR _) (jk (bR d.A) (fl d.B)),by rw[show bE d i=[] by simp[bE,hk]];rfl,fun M' hkp=>?_⟩
  have:=O2 (N:=M') (nm:=bA i) (n:=bw d.A) (s:=dw (bw d.A) (qc d.B)) (L:=bM d (1+d.K.1%3)) (b:=M.length) (o:=true) (by rw[cH];omega) (by have:=hkp 0 _ rfl;simpa [Slot.ren,fz] using this);rw[cH] at this;simpa [bt,AV.rens,AV.ren,ar] using this
 ·rw[show bE d i=[] by simp[bE,hk]]
  refine oc fun M' =>?_
  simpa [bt,AV.rens,AV.ren,ar] using mU (bA i) (bw d.A) (dw (bw d.A) (qc d.B)) (.slice M.length 0 (1+d.K.1%3) none) M'
 ·simp[nq,Slot.own,Slot.refsOk,Slot.ren,fz,zo]
 ·simp[bt,AV.rens,AV.ren,ar,AV.refsOkL,AV.refsOk]
 ·simp[pN,bt,AV.rens,AV.ren,ar]
 have hz:=jk (bR d.A) (fl d.B);have:=jW s (bA i) (bw d.A) (dw (bw d.A) (qc d.B)) d (1+d.K.1%3) (by omega) (by omega) (dn hi) (fg (bR _) (by decide)) (jm _) (fg hz (by decide)) (ph _ _) M' p t w w' hp' ht' M.length true (by have:=hkp 0 _ rfl;simpa [Slot.ren,fz] using this);simpa [shB,bt,AV.rens,AV.ren,Slot.ren,ar,fz] using this
theorem xT(s:Sheet) (d:Deed) (hd:d.Ok) (i:Nat) (hi:i<6) (hk:d.kind%5=0) (hJ:d.K.1%3=0) (M:Mem) (p t:Nat) (o o' :Bool) (hp:M[p]? =some (.cells o 2 (pC s.P))) (ht:M[t]? =some (.cells o' 3 (tC s.T))):
  ∃ev new,ACallsTo Tryz.prog 28 [shB s p t,.agg d.cells,.int .i64 i] M (.agg ev) (M++new)∧gI s p t (bE d i) M.length new ev∧fq M.length new ev (bE d i)∧new.length≤5∧(ev.length=32∧ev[1]? =some (.str (bA i)))∧nq M new∧AV.refsOkL (fun b=>decide (b<M.length+5)) ev=true∧pN ev:=by
 have l0:=(List.getElem?_eq_some_iff.1 hp).1;have l1:=(List.getElem?_eq_some_iff.1 ht).1;obtain⟨hn,hl⟩:=gQ s;have h:=gX l0 l1 rfl (xt d hd s.P.length s.T.length i hi hn hl hk hJ);have b0:∀z∈(bo d s.P.length),z.natAbs<1000:=fun z hz=>by have:=sw d _ z hz;omega
 have c0:((bo d s.P.length)).length=s.P.length:=da d _;refine⟨_,_,h,⟨fun M' w w' hp' ht' hkp=>?_,?_⟩,?_,by simp[gH],⟨by rfl,by rfl⟩,?_,?_,?_⟩
 rotate_left
 ·have k0:(hT (bo d s.P.length)).length=s.P.length:=by rw[cJ];exact da d _
  refine⟨DD (bA i) (hT (bo d s.P.length)) (bj i 0) [],Ag s (bA i) [bW i,49] (bo d s.P.length) (dn hi) (gl (J:=0) hi (by decide) _ (by simp[bj]))  b0 (by omega) (by omega) c0 ,by rw[show bE d i=bj i 0 by simp[bE,hk,hJ]];rfl,fun M' hkp=>?_⟩;obtain⟨N,hN⟩:∃N:Mem,N=[iz (bo d s.P.length),.cells true 1 [.str [bW i,49]]]:=⟨_,rfl⟩
  have en:∀(k:Nat) x,N[k]? =some x→M'[M.length+k]? =some x:=fun k x h=>hkp k x (by rw[hN] at h;simpa [gH,iz,Slot.ren,AV.rens,AV.ren,ar,dL,bj] using h)
  subst hN;have:=Da (N:=M') (nm:=bA i) (B:=hT (bo d s.P.length)) (U:=bj i 0) (S:=[]) (b:=M.length) (u:=M.length+1) (o:=true) (o2:=true) (by omega) (by simp[bj]) (by have:=en 0 _ rfl;rwa [ur] at this) (en 1 _ rfl) (xn M');rw[k0] at this;simpa [aU,AV.rens,AV.ren,ar,bj] using this
 ·rw[show bE d i=bj i 0 by simp[bE,hk,hJ]]
  have:=gB (b0:=M.length) (new:=[iz (bo d s.P.length),.cells true 1 [.str [bW i,49]]]) (bA i) (.slice M.length 0 s.P.length none) (.nilslice) (bj i 0) (by simp[bj]) (by simp[bj]) 1 true rfl;simpa [aU,AV.rens,AV.ren,Slot.ren,ar,gH,iz,dL,bj] using this
 ·simp[nq,gH,iz,Slot.own,Slot.refsOk,Slot.ren,AV.rens,AV.ren,AV.refsOkL,AV.refsOk,dL,H2,bj]
 ·simp[aU,AV.rens,AV.ren,ar,AV.refsOkL,AV.refsOk]
 ·simp[pN,aU,AV.rens,AV.ren,ar]
 obtain⟨N,hN⟩:∃N:Mem,N=[iz (bo d s.P.length),.cells true 1 [.str [bW i,49]]]:=⟨_,rfl⟩
 have en:∀(k:Nat) x,N[k]? =some x→M'[M.length+k]? =some x:=fun k x h=>hkp k x (by rw[hN] at h;simpa [gH,iz,Slot.ren,AV.rens,AV.ren,ar,dL,bj] using h)
 subst hN;have:=jS s (bA i) [bW i,49] (bo d s.P.length) (dn hi) (gl (J:=0) hi (by decide) _ (by simp[bj]))  b0 (by omega) c0  M' p t w w' hp' ht' M.length (M.length+1) true true (en 0 _ rfl) (en 1 _ rfl);rw[c0] at this;simpa [shB,aU,AV.rens,AV.ren,Slot.ren,ar,gH,iz,dL,bj] using this
theorem xU(s:Sheet) (d:Deed) (hd:d.Ok) (i:Nat) (hi:i<6) (hk:d.kind%5=0) (hJ:d.K.1%3=1) (M:Mem) (p t:Nat) (o o' :Bool) (hp:M[p]? =some (.cells o 2 (pC s.P))) (ht:M[t]? =some (.cells o' 3 (tC s.T))):
  ∃ev new,ACallsTo Tryz.prog 28 [shB s p t,.agg d.cells,.int .i64 i] M (.agg ev) (M++new)∧gI s p t (bE d i) M.length new ev∧fq M.length new ev (bE d i)∧new.length≤5∧(ev.length=32∧ev[1]? =some (.str (bA i)))∧nq M new∧AV.refsOkL (fun b=>decide (b<M.length+5)) ev=true∧pN ev:=by
 have l0:=(List.getElem?_eq_some_iff.1 hp).1;have l1:=(List.getElem?_eq_some_iff.1 ht).1;obtain⟨hn,hl⟩:=gQ s;have h:=gX l0 l1 rfl (xu d hd s.P.length s.T.length i hi hn hl hk hJ);have b0:∀z∈(bo d s.P.length),z.natAbs<1000:=fun z hz=>by have:=sw d _ z hz;omega
 have c0:((bo d s.P.length)).length=s.P.length:=da d _;have s1:=Dy d 0 s.P.length (bo d s.P.length) 8 (sw d s.P.length) (by simp[da]);have b1:∀z∈(bU d 0 (bo d s.P.length) s.P.length),z.natAbs<1000:=fun z hz=>by have:=s1 z hz;omega
 have c1:((bU d 0 (bo d s.P.length) s.P.length)).length=s.P.length:=dE d _ _ _;refine⟨_,_,h,⟨fun M' w w' hp' ht' hkp=>?_,?_⟩,?_,by simp[gH],⟨by rfl,by rfl⟩,?_,?_,?_⟩
 rotate_left
 ·have k0:(hT (bo d s.P.length)).length=s.P.length:=by rw[cJ];exact da d _
  have k1:(hT (bU d 0 (bo d s.P.length) s.P.length)).length=s.P.length:=by rw[cJ];exact dE d _ _ _
  refine⟨DD (bA i) (hT (bo d s.P.length)) (bj i 1) [hT (bU d 0 (bo d s.P.length) s.P.length)],Ah s (bA i) [bW i,49] [bW i,50] (bo d s.P.length) (bU d 0 (bo d s.P.length) s.P.length) (dn hi) (gl (J:=1) hi (by decide) _ (by simp[bj])) (gl (J:=1) hi (by decide) _ (by simp[bj])) (by simp) b0 (by omega) (by omega) c0 b1 c1 (pG d 0 s.P.length (bo d s.P.length)),by rw[show bE d i=bj i 1 by simp[bE,hk,hJ]];rfl,fun M' hkp=>?_⟩;obtain⟨N,hN⟩:∃N:Mem,N=[iz (bo d s.P.length),.cells true 1 [.str [bW i,49],.str [bW i,50]],.cells true 1 [.slice (M.length+3) 0 s.P.length none],iz (bU d 0 (bo d s.P.length) s.P.length)]:=⟨_,rfl⟩
  have en:∀(k:Nat) x,N[k]? =some x→M'[M.length+k]? =some x:=fun k x h=>hkp k x (by rw[hN] at h;simpa [gH,iz,Slot.ren,AV.rens,AV.ren,ar,dL,bj] using h)
  subst hN;have:=Da (N:=M') (nm:=bA i) (B:=hT (bo d s.P.length)) (U:=bj i 1) (S:=[hT (bU d 0 (bo d s.P.length) s.P.length)]) (b:=M.length) (u:=M.length+1) (o:=true) (o2:=true) (by omega) (by simp[bj]) (by have:=en 0 _ rfl;rwa [ur] at this) (en 1 _ rfl) (Tg (c:=M.length+2) (r1:=M.length+3) (o:=true) (o1:=true) (by rw[k1];exact en 2 _ rfl) (by have:=en 3 _ rfl;rwa [ur] at this) (by omega));rw[k0] at this;simpa [aU,AV.rens,AV.ren,ar,bj] using this
 ·rw[show bE d i=bj i 1 by simp[bE,hk,hJ]]
  have:=gB (b0:=M.length) (new:=[iz (bo d s.P.length),.cells true 1 [.str [bW i,49],.str [bW i,50]],.cells true 1 [.slice (M.length+3) 0 s.P.length none],iz (bU d 0 (bo d s.P.length) s.P.length)]) (bA i) (.slice M.length 0 s.P.length none) (.slice (M.length+2) 0 1 none) (bj i 1) (by simp[bj]) (by simp[bj]) 1 true rfl;simpa [aU,AV.rens,AV.ren,Slot.ren,ar,gH,iz,dL,bj] using this
 ·simp[nq,gH,iz,Slot.own,Slot.refsOk,Slot.ren,AV.rens,AV.ren,ar,AV.refsOkL,AV.refsOk,dL,H2,bj]
 ·simp[aU,AV.rens,AV.ren,ar,AV.refsOkL,AV.refsOk]
 ·simp[pN,aU,AV.rens,AV.ren,ar]
 obtain⟨N,hN⟩:∃N:Mem,N=[iz (bo d s.P.length),.cells true 1 [.str [bW i,49],.str [bW i,50]],.cells true 1 [.slice (M.length+3) 0 s.P.length none],iz (bU d 0 (bo d s.P.length) s.P.length)]:=⟨_,rfl⟩
 have en:∀(k:Nat) x,N[k]? =some x→M'[M.length+k]? =some x:=fun k x h=>hkp k x (by rw[hN] at h;simpa [gH,iz,Slot.ren,AV.rens,AV.ren,ar,dL,bj] using h)
 subst hN;have:=jT s (bA i) [bW i,49] [bW i,50] (bo d s.P.length) (bU d 0 (bo d s.P.length) s.P.length) (dn hi) (gl (J:=1) hi (by decide) _ (by simp[bj])) (gl (J:=1) hi (by decide) _ (by simp[bj])) (by simp) b0 (by omega) c0 b1 c1 (pG d 0 s.P.length (bo d s.P.length)) M' p t w w' hp' ht' M.length (M.length+1) true true (en 0 _ rfl) (en 1 _ rfl) (M.length+2) (M.length+3) true true (by rw[c0];exact en 2 _ rfl) (en 3 _ rfl);rw[c0] at this;simpa [shB,aU,AV.rens,AV.ren,Slot.ren,ar,gH,iz,dL,bj] using this
theorem xV(s:Sheet) (d:Deed) (hd:d.Ok) (i:Nat) (hi:i<6) (hk:d.kind%5=0) (hJ:d.K.1%3=2) (M:Mem) (p t:Nat) (o o' :Bool) (hp:M[p]? =some (.cells o 2 (pC s.P))) (ht:M[t]? =some (.cells o' 3 (tC s.T))):
  ∃ev new,ACallsTo Tryz.prog 28 [shB s p t,.agg d.cells,.int .i64 i] M (.agg ev) (M++new)∧gI s p t (bE d i) M.length new ev∧fq M.length new ev (bE d i)∧new.length≤5∧(ev.length=32∧ev[1]? =some (.str (bA i)))∧nq M new∧AV.refsOkL (fun b=>decide (b<M.length+5)) ev=true∧pN ev:=by
 have l0:=(List.getElem?_eq_some_iff.1 hp).1;have l1:=(List.getElem?_eq_some_iff.1 ht).1;obtain⟨hn,hl⟩:=gQ s;have h:=gX l0 l1 rfl (xv d hd s.P.length s.T.length i hi hn hl hk hJ);have b0:∀z∈(bo d s.P.length),z.natAbs<1000:=fun z hz=>by have:=sw d _ z hz;omega
 have c0:((bo d s.P.length)).length=s.P.length:=da d _;have s1:=Dy d 0 s.P.length (bo d s.P.length) 8 (sw d s.P.length) (by simp[da]);have b1:∀z∈(bU d 0 (bo d s.P.length) s.P.length),z.natAbs<1000:=fun z hz=>by have:=s1 z hz;omega
 have c1:((bU d 0 (bo d s.P.length) s.P.length)).length=s.P.length:=dE d _ _ _;have s2:=Dy d 1 s.P.length (bU d 0 (bo d s.P.length) s.P.length) 11 (s1) (by simp[dE]);have b2:∀z∈(bU d 1 (bU d 0 (bo d s.P.length) s.P.length) s.P.length),z.natAbs<1000:=fun z hz=>by have:=s2 z hz;omega
 have c2:((bU d 1 (bU d 0 (bo d s.P.length) s.P.length) s.P.length)).length=s.P.length:=dE d _ _ _;refine⟨_,_,h,⟨fun M' w w' hp' ht' hkp=>?_,?_⟩,?_,by simp[gH],⟨by rfl,by rfl⟩,?_,?_,?_⟩
 rotate_left
 ·have k0:(hT (bo d s.P.length)).length=s.P.length:=by rw[cJ];exact da d _
  have k1:(hT (bU d 0 (bo d s.P.length) s.P.length)).length=s.P.length:=by rw[cJ];exact dE d _ _ _
  have k2:(hT (bU d 1 (bU d 0 (bo d s.P.length) s.P.length) s.P.length)).length=s.P.length:=by rw[cJ];exact dE d _ _ _
  refine⟨DD (bA i) (hT (bo d s.P.length)) (bj i 2) [hT (bU d 0 (bo d s.P.length) s.P.length),hT (bU d 1 (bU d 0 (bo d s.P.length) s.P.length) s.P.length)],Ai s (bA i) [bW i,49] [bW i,50] [bW i,51] (bo d s.P.length) (bU d 0 (bo d s.P.length) s.P.length) (bU d 1 (bU d 0 (bo d s.P.length) s.P.length) s.P.length) (dn hi) (gl (J:=2) hi (by decide) _ (by simp[bj])) (gl (J:=2) hi (by decide) _ (by simp[bj])) (gl (J:=2) hi (by decide) _ (by simp[bj])) (by simp) (by simp) (by simp) b0 (by omega) (by omega) c0 b1 c1 (pG d 0 s.P.length (bo d s.P.length)) b2 c2 (pG d 1 s.P.length (bU d 0 (bo d s.P.length) s.P.length)),by rw[show bE d i=bj i 2 by simp[bE,hk,hJ]];rfl,fun M' hkp=>?_⟩;obtain⟨N,hN⟩:∃N:Mem,N=[iz (bo d s.P.length),.cells true 1 [.str [bW i,49],.str [bW i,50],.str [bW i,51]],.cells true 1 [.slice (M.length+3) 0 s.P.length none,.slice (M.length+4) 0 s.P.length none],iz (bU d 0 (bo d s.P.length) s.P.length),iz (bU d 1 (bU d 0 (bo d s.P.length) s.P.length) s.P.length)]:=⟨_,rfl⟩
  have en:∀(k:Nat) x,N[k]? =some x→M'[M.length+k]? =some x:=fun k x h=>hkp k x (by rw[hN] at h;simpa [gH,iz,Slot.ren,AV.rens,AV.ren,ar,dL,bj] using h)
  subst hN;have:=Da (N:=M') (nm:=bA i) (B:=hT (bo d s.P.length)) (U:=bj i 2) (S:=[hT (bU d 0 (bo d s.P.length) s.P.length),hT (bU d 1 (bU d 0 (bo d s.P.length) s.P.length) s.P.length)]) (b:=M.length) (u:=M.length+1) (o:=true) (o2:=true) (by omega) (by simp[bj]) (by have:=en 0 _ rfl;rwa [ur] at this) (en 1 _ rfl) (Th (c:=M.length+2) (r1:=M.length+3) (r2:=M.length+4) (o:=true) (o1:=true) (o2:=true) (by rw[k1,k2];exact en 2 _ rfl) (by have:=en 3 _ rfl;rwa [ur] at this) (by have:=en 4 _ rfl;rwa [ur] at this) (by omega) (by omega));rw[k0] at this;simpa [aU,AV.rens,AV.ren,ar,bj] using this
 ·rw[show bE d i=bj i 2 by simp[bE,hk,hJ]]
  have:=gB (b0:=M.length) (new:=[iz (bo d s.P.length),.cells true 1 [.str [bW i,49],.str [bW i,50],.str [bW i,51]],.cells true 1 [.slice (M.length+3) 0 s.P.length none,.slice (M.length+4) 0 s.P.length none],iz (bU d 0 (bo d s.P.length) s.P.length),iz (bU d 1 (bU d 0 (bo d s.P.length) s.P.length) s.P.length)]) (bA i) (.slice M.length 0 s.P.length none) (.slice (M.length+2) 0 2 none) (bj i 2) (by simp[bj]) (by simp[bj]) 1 true rfl;simpa [aU,AV.rens,AV.ren,Slot.ren,ar,gH,iz,dL,bj] using this
 ·simp[nq,gH,iz,Slot.own,Slot.refsOk,Slot.ren,AV.rens,AV.ren,ar,AV.refsOkL,AV.refsOk,dL,H2,bj]
 ·simp[aU,AV.rens,AV.ren,ar,AV.refsOkL,AV.refsOk]
 ·simp[pN,aU,AV.rens,AV.ren,ar]
 obtain⟨N,hN⟩:∃N:Mem,N=[iz (bo d s.P.length),.cells true 1 [.str [bW i,49],.str [bW i,50],.str [bW i,51]],.cells true 1 [.slice (M.length+3) 0 s.P.length none,.slice (M.length+4) 0 s.P.length none],iz (bU d 0 (bo d s.P.length) s.P.length),iz (bU d 1 (bU d 0 (bo d s.P.length) s.P.length) s.P.length)]:=⟨_,rfl⟩
 have en:∀(k:Nat) x,N[k]? =some x→M'[M.length+k]? =some x:=fun k x h=>hkp k x (by rw[hN] at h;simpa [gH,iz,Slot.ren,AV.rens,AV.ren,ar,dL,bj] using h)
 subst hN;have:=jU s (bA i) [bW i,49] [bW i,50] [bW i,51] (bo d s.P.length) (bU d 0 (bo d s.P.length) s.P.length) (bU d 1 (bU d 0 (bo d s.P.length) s.P.length) s.P.length) (dn hi) (gl (J:=2) hi (by decide) _ (by simp[bj])) (gl (J:=2) hi (by decide) _ (by simp[bj])) (gl (J:=2) hi (by decide) _ (by simp[bj])) (by simp) (by simp) (by simp) b0 (by omega) c0 b1 c1 (pG d 0 s.P.length (bo d s.P.length)) b2 c2 (pG d 1 s.P.length (bU d 0 (bo d s.P.length) s.P.length)) M' p t w w' hp' ht' M.length (M.length+1) true true (en 0 _ rfl) (en 1 _ rfl) (M.length+2) (M.length+3) (M.length+4) true true true (by rw[c0];exact en 2 _ rfl) (en 3 _ rfl) (en 4 _ rfl);rw[c0] at this;simpa [shB,aU,AV.rens,AV.ren,Slot.ren,ar,gH,iz,dL,bj] using this
theorem LP(s:Sheet) (d:Deed) (hd:d.Ok) (i:Nat) (hi:i<6) (M:Mem) (p t:Nat) (o o' :Bool) (hp:M[p]? =some (.cells o 2 (pC s.P))) (ht:M[t]? =some (.cells o' 3 (tC s.T))):
  ∃ev new,ACallsTo Tryz.prog 28 [shB s p t,.agg d.cells,.int .i64 i] M (.agg ev) (M++new)∧gI s p t (bE d i) M.length new ev∧fq M.length new ev (bE d i)∧new.length≤5∧(ev.length=32∧ev[1]? =some (.str (bA i)))∧nq M new∧AV.refsOkL (fun b=>decide (b<M.length+5)) ev=true∧pN ev:=by
 have h5:=Nat.mod_lt d.kind (show 0<5 by decide);have h3:=Nat.mod_lt d.K.1 (show 0<3 by decide);have:d.kind%5=0∨d.kind%5=1∨d.kind%5=2∨d.kind%5=3∨d.kind%5=4:=by omega
 rcases this with h | h | h | h | h
 ·have:d.K.1%3=0∨d.K.1%3=1∨d.K.1%3=2:=by omega
  rcases this with g | g | g
  ·exact xT s d hd i hi h g M p t o o' hp ht
  ·exact xU s d hd i hi h g M p t o o' hp ht
  ·exact xV s d hd i hi h g M p t o o' hp ht
 ·exact wo s d hd i hi h M p t o o' hp ht
 ·exact xX s d hd i hi h M p t o o' hp ht
 ·exact xW s d hd i hi h M p t o o' hp ht
 ·exact xY s d hd i hi h M p t o o' hp ht
theorem CU{P:Program}{f:FuncId}{args:List AV}{m m' :Mem}{v:AV}(h:ACallsTo P f args m v m'):ACallsTo P f args m v (m' ++[.absent]):=by refine⟨h.1,fun base μ w Vs h0 h1 h2=>(h.2 base μ w Vs h0 h1 h2).mono ?_⟩;rintro e w' ⟨V,v',m1,μ',he,hv,hh,hs,rfl,rfl⟩;obtain⟨k1,k2⟩:=hh.absent (μ' 0);exact⟨V,_,_,_,he,hv.mono (by simp) k2.agree,k1,hs.trans (k2.mono hs.len),rfl,rfl⟩
theorem mB{P:Program}{f:FuncId}{args:List AV}{m:Mem}{v:AV}:∀(k:Nat) {m' :Mem},ACallsTo P f args m v m' →ACallsTo P f args m v (m' ++List.replicate k .absent)
 |0,m',h=>by simpa using h
 |k+1,m',h=>by
  have:=mB k (CU h)
  rwa [List.append_assoc,List.singleton_append,←List.replicate_succ] at this
theorem I2(s:Sheet) (d:Deed) (hd:d.Ok) (i:Nat) (hi:i<6) (M:Mem) (p t:Nat) (o o' :Bool) (hp:M[p]? =some (.cells o 2 (pC s.P))) (ht:M[t]? =some (.cells o' 3 (tC s.T))):
  ∃ev x1 x2 x3 x4 x5,ACallsTo Tryz.prog 28 [shB s p t,.agg d.cells,.int .i64 i] M (.agg ev) (M++[x1,x2,x3,x4,x5])∧gI s p t (bE d i) M.length [x1,x2,x3,x4,x5] ev∧fq M.length [x1,x2,x3,x4,x5] ev (bE d i)∧(ev.length=32∧ev[1]? =some (.str (bA i)))∧nq M [x1,x2,x3,x4,x5]∧AV.refsOkL (fun b=>decide (b<M.length+5)) ev=true∧pN ev:=by
 obtain⟨ev,new,h1,h2,h3,h4,h5,h6,h7,h8⟩:=LP s d hd i hi M p t o o' hp ht;have e:(new++List.replicate (5-new.length) Slot.absent).length=5:=by simp;omega
 have g1:=mB (5-new.length) h1;rw[List.append_assoc] at g1;have hk:∀M',Keeps M.length (new++List.replicate (5-new.length) Slot.absent) M' →Keeps M.length new M' :=fun M' c k x hx=>c k x (by rw[List.getElem?_append_left (List.getElem?_eq_some_iff.1 hx).1];exact hx)
 have g2:gI s p t (bE d i) M.length (new++List.replicate (5-new.length) Slot.absent) ev:=by obtain⟨h2,cc,ho,hu,hx⟩:=h2;exact⟨fun M' w w' a b c=>h2 M' w w' a b (hk M' c),cc,ho,hu,fun M' c=>hx M' (hk M' c)⟩
 have g3:fq M.length (new++List.replicate (5-new.length) Slot.absent) ev (bE d i):=fun M' c=>
  h3 M' fun k x hx=>c k x (by rw[List.getElem?_append_left (List.getElem?_eq_some_iff.1 hx).1];exact hx)
 have g4:nq M (new++List.replicate (5-new.length) Slot.absent):=by unfold nq at h6 ⊢;rw[List.all_append,h6,Bool.true_and,List.all_eq_true];intro x hx;rw[List.eq_of_mem_replicate hx];rfl
 obtain⟨N,hN⟩:∃N,N=new++List.replicate (5-new.length) Slot.absent:=⟨_,rfl⟩
 rw[←hN] at e g1 g2 g3 g4
 match N,e,g1,g2,g3,g4 with
 | [x1,x2,x3,x4,x5],_,g1,g2,g3,g4=>exact⟨ev,x1,x2,x3,x4,x5,g1,g2,g3,h5,g4,h7,h8⟩
end Go.Proofs
