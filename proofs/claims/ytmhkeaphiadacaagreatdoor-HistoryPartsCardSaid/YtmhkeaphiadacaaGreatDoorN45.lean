/- See N58. -/
import Derived.Test.YtmhkeaphiadacaaGreatDoorN43
import Derived.Test.YtmhkeaphiadacaaGreatDoorN44
set_option linter.all false
namespace Go.Proofs
open Go.Eng
theorem eJ(s:Sheet):0<s.P.length∧s.P.length≤1000:=by
 have h:∀k<8,0<(cQ k).length∧(cQ k).length≤1000:=by decide
 have:=h (s.kind%8) (Nat.mod_lt _ (by decide))
 unfold Sheet.P
 rwa [List.length_map]
theorem eO{m n:Nat}{v:Z3}(h:fI m v) (hmn:m≤n):fI n v:=by
 obtain⟨h1,h2,h3⟩:=h
 exact⟨by omega,by omega,by omega⟩
theorem Kh(d:Deed) (j k:Nat):0≤Hw d j k∧Hw d j k≤3:=by
 unfold Hw
 have:=Nat.mod_lt (HJ d.K ((j+k)%4)) (show 0<4 by decide)
 omega
theorem sb(d:Deed) (n:Nat):∀z∈bd d n,z.natAbs≤8:=by
 intro z hz
 simp only[bd,List.mem_map] at hz
 obtain⟨k,_,rfl⟩:=hz
 exact wz k
theorem CG(d:Deed) (j n:Nat) (L:List Int) (m:Nat) (hL:∀z∈L,z.natAbs≤m) (hn:n≤L.length):∀z∈bL d j L n,z.natAbs≤m+3:=by
 intro z hz
 simp only[bL,List.mem_map,List.mem_range] at hz
 obtain⟨k,hk,rfl⟩:=hz
 have h1:=Kh d j k
 have h2:L.getD k 0∈L:=by
  rw[List.getD_eq_getElem?_getD,List.getElem?_eq_getElem (by omega)]
  exact List.getElem_mem _
 have:=hL _ h2
 omega
theorem pP(d:Deed) (j n:Nat) (L:List Int):∀(i:Nat) z y,L[i]? =some z→(bL d j L n)[i]? =some y→z≤y:=by
 intro i z y hz hy
 have h1:=Kh d j i
 simp only[bL,List.getElem?_map,Option.map_eq_some_iff] at hy
 obtain⟨k,hk,rfl⟩:=hy
 have e:k=i:=by
  rw[List.getElem?_eq_some_iff] at hk
  obtain⟨_,h⟩:=hk
  rw[List.getElem_range] at h
  exact h.symm
 subst e
 rw[List.getD_eq_getElem?_getD,hz]
 simp only[Option.getD_some]
 omega
theorem hN5(n:Int):(n.tmod 5).natAbs≤1000:=by
 have: -5<n.tmod 5∧n.tmod 5<5:=pj n 5 (by decide)
 omega
def shB(s:Sheet) (p t:Nat):AV:=.agg [.slice p 0 s.P.length none,.slice t 0 s.T.length none]
def Oc(s:Sheet) (U:List (List UInt8)) (b:Nat) (new:Mem) (ev:List AV):Prop:=∃c:Evc,Tryz.Good s c∧unE c=U∧∀M',Keeps b new M' →EvAt M' ev c
def gn(s:Sheet) (p t:Nat) (U:List (List UInt8)) (b:Nat) (new:Mem) (ev:List AV):Prop:=(∀(M' :Mem) (o o' :Bool),M'[p]? =some (.cells o 2 (pC s.P))→M'[t]? =some (.cells o' 3 (tC s.T))→Keeps b new M' →ACallsTo Tryz.prog 43 [shB s p t,.agg ev] M' (.int .i64 0) M')∧Oc s U b new ev
theorem gF{s:Sheet}{d:Deed}{i:Nat}{ev:List AV}{new M:Mem}{p t:Nat}(hp:p<M.length) (ht:t<M.length) (hn:new.all (fun s=>s.own||match s with | .absent=>true | _=>false)=true)
  (h:ACallsTo Tryz.prog 9 [.agg [.slice 0 0 s.P.length none,.slice 1 0 s.T.length none],.agg d.cells,.int .i64 i] [.absent,.absent] (.agg ev) ([.absent,.absent]++new)):
  ACallsTo Tryz.prog 9 [shB s p t,.agg d.cells,.int .i64 i] M (.agg (AV.rens (da [p,t] M.length) ev)) (M++new.map (Slot.ren (da [p,t] M.length))):=by
 have:=ACallsTo.frame (M:=M) (new:=new) [p,t] rfl (by simp[hp,ht]) (by rfl) (fun i q hs=>by
  match i with
  |0=>simp at hs;subst hs;trivial
  |1=>simp at hs;subst hs;trivial
  |i+2=>simp at hs) hn h
 simpa [shB,AV.rens,AV.ren,da,Deed.cells] using this
theorem vF(s:Sheet) (d:Deed) (hd:d.Ok) (i:Nat) (hi:i<6) (hk:d.kind%5=1) (M:Mem) (p t:Nat) (o o' :Bool) (hp:M[p]? =some (.cells o 2 (pC s.P))) (ht:M[t]? =some (.cells o' 3 (tC s.T))):
  ∃ev new,ACallsTo Tryz.prog 9 [shB s p t,.agg d.cells,.int .i64 i] M (.agg ev) (M++new)∧gn s p t (bl d i) M.length new ev∧fb M.length new ev (bl d i)∧new.length≤5∧(ev.length=32∧ev[1]? =some (.str (bj i)))∧nP M new∧AV.refsOkL (fun b=>decide (b<M.length+5)) ev=true∧pV ev:=by
 have l0:=(List.getElem?_eq_some_iff.1 hp).1
 have l1:=(List.getElem?_eq_some_iff.1 ht).1
 obtain⟨hn,hl⟩:=eJ s
 have h:=gF l0 l1 rfl (vq d hd s.P.length s.T.length i hi hn hl hk)
 refine⟨_,_,h,⟨fun M' w w' hp' ht' hkp=>?_,?_⟩,?_,by simp,⟨by rfl,by rfl⟩,?_,?_,?_⟩
 rotate_left
 ·exact⟨JV (bj i) (bf d.A) (d.N.tmod 5) (dm (bf d.A) (qq d.B)),xD s (bj i) (bf d.A) (d.N.tmod 5) (dm (bf d.A) (qq d.B)) (dc hi) (eO (cr _) (by decide)) (jb _) (hN5 d.N) (eO (pB (cr d.A) (gc d.B)) (by decide)) (pG _ _),by rw[show bl d i=[] by simp[bl,hk]];rfl,fun M' _=>yr (by simp[bK,JV,Evc.cells,AV.rens,AV.ren]) rfl rfl rfl rfl⟩
 ·rw[show bl d i=[] by simp[bl,hk]]
  refine oB fun M=>?_
  simpa [bK,AV.rens,AV.ren] using kZ (bj i) (bf d.A) (d.N.tmod 5) (dm (bf d.A) (qq d.B)) M
 ·simp[nP,Slot.own,Slot.refsOk,Slot.ren,eg,oZ]
 ·simp[bK,cn,cG,bq,AV.rens,AV.ren,da,AV.refsOkL,AV.refsOk]
 ·simp[pV,bK,cn,cG,bq,AV.rens,AV.ren,da]
 have h5: -5<d.N.tmod 5∧d.N.tmod 5<5:=pj d.N 5 (by decide)
 have hz:=pB (cr d.A) (gc d.B)
 have:=jg s (bj i) (bf d.A) (d.N.tmod 5) (dm (bf d.A) (qq d.B)) (dc hi) (eO (cr _) (by decide)) (jb _) (by omega) (eO hz (by decide)) (pG _ _) M' p t w w' hp' ht'
 simpa [shB,bK,AV.rens,AV.ren] using this
theorem xt(s:Sheet) (d:Deed) (hd:d.Ok) (i:Nat) (hi:i<6) (hk:d.kind%5=3) (M:Mem) (p t:Nat) (o o' :Bool) (hp:M[p]? =some (.cells o 2 (pC s.P))) (ht:M[t]? =some (.cells o' 3 (tC s.T))):
  ∃ev new,ACallsTo Tryz.prog 9 [shB s p t,.agg d.cells,.int .i64 i] M (.agg ev) (M++new)∧gn s p t (bl d i) M.length new ev∧fb M.length new ev (bl d i)∧new.length≤5∧(ev.length=32∧ev[1]? =some (.str (bj i)))∧nP M new∧AV.refsOkL (fun b=>decide (b<M.length+5)) ev=true∧pV ev:=by
 have l0:=(List.getElem?_eq_some_iff.1 hp).1
 have l1:=(List.getElem?_eq_some_iff.1 ht).1
 obtain⟨hn,hl⟩:=eJ s
 have h:=gF l0 l1 rfl (wU d hd s.P.length s.T.length i hi hn hl hk)
 refine⟨_,_,h,⟨fun M' w w' hp' ht' hkp=>?_,?_⟩,?_,by simp,⟨by rfl,by rfl⟩,?_,?_,?_⟩
 rotate_left
 ·exact⟨Pb (bj i) (bf d.A) (d.N.tmod 5) (1+(d.K.1%4:Nat)) (fw i),zJ s (bj i) (bf d.A) (d.N.tmod 5) (1+(d.K.1%4:Nat)) (fw i) (dc hi) (eO (cr _) (by decide)) (jb _) (hN5 d.N) (by have:=Nat.mod_lt d.K.1 (show 0<4 by decide);omega) (by have:=Nat.mod_lt d.K.1 (show 0<4 by decide);omega) (uM hi),by rw[show bl d i=[fw i] by simp[bl,hk]];rfl,fun M' _=>yr (by simp[cn,Pb,Evc.cells,AV.rens,AV.ren]) rfl rfl rfl rfl⟩
 ·rw[show bl d i=[fw i] by simp[bl,hk]]
  simpa [cn,AV.rens,AV.ren] using rQ (b:=M.length) (new:=[]) (bj i) (bf d.A) (d.N.tmod 5) (1+(d.K.1%4:Nat)) (fw i)
 ·simp[nP,Slot.own,Slot.refsOk,Slot.ren,eg,oZ]
 ·simp[bK,cn,cG,bq,AV.rens,AV.ren,da,AV.refsOkL,AV.refsOk]
 ·simp[pV,bK,cn,cG,bq,AV.rens,AV.ren,da]
 have h5: -5<d.N.tmod 5∧d.N.tmod 5<5:=pj d.N 5 (by decide)
 have h4:=Nat.mod_lt d.K.1 (show 0<4 by decide)
 have:=jI s (bj i) (bf d.A) (d.N.tmod 5) (1+(d.K.1%4:Nat)) (fw i) (dc hi) (eO (cr _) (by decide)) (jb _) (by omega) (by omega) (by omega) (uM hi) M' p t w w' hp' ht'
 simpa [shB,cn,AV.rens,AV.ren] using this
theorem xv(s:Sheet) (d:Deed) (hd:d.Ok) (i:Nat) (hi:i<6) (hk:d.kind%5=4) (M:Mem) (p t:Nat) (o o' :Bool) (hp:M[p]? =some (.cells o 2 (pC s.P))) (ht:M[t]? =some (.cells o' 3 (tC s.T))):
  ∃ev new,ACallsTo Tryz.prog 9 [shB s p t,.agg d.cells,.int .i64 i] M (.agg ev) (M++new)∧gn s p t (bl d i) M.length new ev∧fb M.length new ev (bl d i)∧new.length≤5∧(ev.length=32∧ev[1]? =some (.str (bj i)))∧nP M new∧AV.refsOkL (fun b=>decide (b<M.length+5)) ev=true∧pV ev:=by
 have l0:=(List.getElem?_eq_some_iff.1 hp).1
 have l1:=(List.getElem?_eq_some_iff.1 ht).1
 obtain⟨hn,hl⟩:=eJ s
 have h:=gF l0 l1 rfl (wW d hd s.P.length s.T.length i hi hn hl hk)
 refine⟨_,_,h,⟨fun M' w w' hp' ht' hkp=>?_,?_⟩,?_,by simp,⟨by rfl,by rfl⟩,?_,?_,?_⟩
 rotate_left
 ·exact⟨Pd (bj i) (ed (d.K.1%6)) (qq d.B),zL s _ _ _ (dc hi) (eO (gc _) (by decide)),by rw[show bl d i=[] by simp[bl,hk]];rfl,fun M' _=>yr (by simp[cG,Pd,Evc.cells,AV.rens,AV.ren]) rfl rfl rfl rfl⟩
 ·rw[show bl d i=[] by simp[bl,hk]]
  refine oB fun M=>?_
  simpa [cG,AV.rens,AV.ren] using nC (bj i) (ed (d.K.1%6)) (qq d.B) M
 ·simp[nP,Slot.own,Slot.refsOk,Slot.ren,eg,oZ]
 ·simp[bK,cn,cG,bq,AV.rens,AV.ren,da,AV.refsOkL,AV.refsOk]
 ·simp[pV,bK,cn,cG,bq,AV.rens,AV.ren,da]
 have:=jK s (bj i) (d.K.1%6) (qq d.B) (dc hi) (eO (gc _) (by decide)) M' p t w w' hp' ht'
 simpa [shB,cG,AV.rens,AV.ren] using this
theorem xu(s:Sheet) (d:Deed) (hd:d.Ok) (i:Nat) (hi:i<6) (hk:d.kind%5=2) (M:Mem) (p t:Nat) (o o' :Bool) (hp:M[p]? =some (.cells o 2 (pC s.P))) (ht:M[t]? =some (.cells o' 3 (tC s.T))):
  ∃ev new,ACallsTo Tryz.prog 9 [shB s p t,.agg d.cells,.int .i64 i] M (.agg ev) (M++new)∧gn s p t (bl d i) M.length new ev∧fb M.length new ev (bl d i)∧new.length≤5∧(ev.length=32∧ev[1]? =some (.str (bj i)))∧nP M new∧AV.refsOkL (fun b=>decide (b<M.length+5)) ev=true∧pV ev:=by
 have l0:=(List.getElem?_eq_some_iff.1 hp).1
 have l1:=(List.getElem?_eq_some_iff.1 ht).1
 obtain⟨hn,hl⟩:=eJ s
 have h3:=Nat.mod_lt d.K.1 (show 0<3 by decide)
 have h:=gF l0 l1 rfl (wV d hd s.P.length s.T.length i hi hn hl hk)
 refine⟨_,_,h,⟨fun M' w w' hp' ht' hkp=>?_,?_⟩,?_,by simp,⟨by rfl,by rfl⟩,?_,?_,?_⟩
 rotate_left
 ·refine⟨Pc (bj i) (bf d.A) (kT (co d (1+d.K.1%3))) (dm (bf d.A) (qq d.B)),zK s _ _ _ d _ (by omega) (by omega) (dc hi) (eO (cr _) (by decide)) (jb _) (eO (pB (cr d.A) (gc d.B)) (by decide)) (pG _ _),by rw[show bl d i=[] by simp[bl,hk]];rfl,fun M' hkp=>?_⟩
  have:=Ng (N:=M') (nm:=bj i) (n:=bf d.A) (s:=dm (bf d.A) (qq d.B)) (L:=co d (1+d.K.1%3)) (b:=M.length) (o:=true) (by rw[eC];omega) (by have:=hkp 0 _ rfl;simpa [Slot.ren,eg] using this)
  rw[eC] at this
  simpa [bq,AV.rens,AV.ren,da] using this
 ·rw[show bl d i=[] by simp[bl,hk]]
  refine oB fun M' =>?_
  simpa [bq,AV.rens,AV.ren,da] using nB (bj i) (bf d.A) (dm (bf d.A) (qq d.B)) (.slice M.length 0 (1+d.K.1%3) none) M'
 ·simp[nP,Slot.own,Slot.refsOk,Slot.ren,eg,oZ]
 ·simp[bK,cn,cG,bq,AV.rens,AV.ren,da,AV.refsOkL,AV.refsOk]
 ·simp[pV,bK,cn,cG,bq,AV.rens,AV.ren,da]
 have hz:=pB (cr d.A) (gc d.B)
 have:=jJ s (bj i) (bf d.A) (dm (bf d.A) (qq d.B)) d (1+d.K.1%3) (by omega) (by omega) (dc hi) (eO (cr _) (by decide)) (jb _) (eO hz (by decide)) (pG _ _) M' p t w w' hp' ht' M.length true (by have:=hkp 0 _ rfl;simpa [Slot.ren,eg] using this)
 simpa [shB,bq,AV.rens,AV.ren,Slot.ren,da,eg] using this
theorem xp(s:Sheet) (d:Deed) (hd:d.Ok) (i:Nat) (hi:i<6) (hk:d.kind%5=0) (hJ:d.K.1%3=0) (M:Mem) (p t:Nat) (o o' :Bool) (hp:M[p]? =some (.cells o 2 (pC s.P))) (ht:M[t]? =some (.cells o' 3 (tC s.T))):
  ∃ev new,ACallsTo Tryz.prog 9 [shB s p t,.agg d.cells,.int .i64 i] M (.agg ev) (M++new)∧gn s p t (bl d i) M.length new ev∧fb M.length new ev (bl d i)∧new.length≤5∧(ev.length=32∧ev[1]? =some (.str (bj i)))∧nP M new∧AV.refsOkL (fun b=>decide (b<M.length+5)) ev=true∧pV ev:=by
 have l0:=(List.getElem?_eq_some_iff.1 hp).1
 have l1:=(List.getElem?_eq_some_iff.1 ht).1
 obtain⟨hn,hl⟩:=eJ s
 have h:=gF l0 l1 rfl (wR d hd s.P.length s.T.length i hi hn hl hk hJ)
 have b0:∀z∈(bd d s.P.length),z.natAbs<1000:=fun z hz=>by have:=sb d _ z hz;omega
 have c0:((bd d s.P.length)).length=s.P.length:=cF d _
 refine⟨_,_,h,⟨fun M' w w' hp' ht' hkp=>?_,?_⟩,?_,by simp[gl],⟨by rfl,by rfl⟩,?_,?_,?_⟩
 rotate_left
 ·have k0:(hT (bd d s.P.length)).length=s.P.length:=by rw[cV];exact cF d _
  refine⟨LC (bj i) (hT (bd d s.P.length)) (aY i 0) [],zG s (bj i) [bP i,49] (bd d s.P.length) (dc hi) (fT (J:=0) hi (by decide) _ (by simp[aY]))  b0 (by omega) (by omega) c0 ,by rw[show bl d i=aY i 0 by simp[bl,hk,hJ]];rfl,fun M' hkp=>?_⟩
  obtain⟨N,hN⟩:∃N:Mem,N=[ib (bd d s.P.length),.cells true 1 [.str [bP i,49]]]:=⟨_,rfl⟩
  have en:∀(k:Nat) x,N[k]? =some x→M'[M.length+k]? =some x:=fun k x h=>hkp k x (by rw[hN] at h;simpa [gl,ib,Slot.ren,AV.rens,AV.ren,da,di,aY] using h)
  subst hN
  have:=Cq (N:=M') (nm:=bj i) (B:=hT (bd d s.P.length)) (U:=aY i 0) (S:=[]) (b:=M.length) (u:=M.length+1) (o:=true) (o2:=true) (by omega) (by simp[aY]) (by have:=en 0 _ rfl;rwa [t7] at this) (en 1 _ rfl) (wL M')
  rw[k0] at this
  simpa [aQ,AV.rens,AV.ren,da,aY] using this
 ·rw[show bl d i=aY i 0 by simp[bl,hk,hJ]]
  have:=gg (b0:=M.length) (new:=[ib (bd d s.P.length),.cells true 1 [.str [bP i,49]]]) (bj i) (.slice M.length 0 s.P.length none) (.nilslice) (aY i 0) (by simp[aY]) (by simp[aY]) 1 true rfl
  simpa [aQ,AV.rens,AV.ren,Slot.ren,da,gl,ib,di,aY] using this
 ·simp[nP,gl,ib,Slot.own,Slot.refsOk,Slot.ren,AV.rens,AV.ren,da,AV.refsOkL,AV.refsOk,di,qX,aY]
 ·simp[aQ,AV.rens,AV.ren,da,AV.refsOkL,AV.refsOk]
 ·simp[pV,aQ,AV.rens,AV.ren,da]
 obtain⟨N,hN⟩:∃N:Mem,N=[ib (bd d s.P.length),.cells true 1 [.str [bP i,49]]]:=⟨_,rfl⟩
 have en:∀(k:Nat) x,N[k]? =some x→M'[M.length+k]? =some x:=fun k x h=>hkp k x (by rw[hN] at h;simpa [gl,ib,Slot.ren,AV.rens,AV.ren,da,di,aY] using h)
 subst hN
 have:=jF s (bj i) [bP i,49] (bd d s.P.length) (dc hi) (fT (J:=0) hi (by decide) _ (by simp[aY]))  b0 (by omega) c0  M' p t w w' hp' ht' M.length (M.length+1) true true (en 0 _ rfl) (en 1 _ rfl)
 rw[c0] at this
 simpa [shB,aQ,AV.rens,AV.ren,Slot.ren,da,gl,ib,di,aY] using this
theorem xq(s:Sheet) (d:Deed) (hd:d.Ok) (i:Nat) (hi:i<6) (hk:d.kind%5=0) (hJ:d.K.1%3=1) (M:Mem) (p t:Nat) (o o' :Bool) (hp:M[p]? =some (.cells o 2 (pC s.P))) (ht:M[t]? =some (.cells o' 3 (tC s.T))):
  ∃ev new,ACallsTo Tryz.prog 9 [shB s p t,.agg d.cells,.int .i64 i] M (.agg ev) (M++new)∧gn s p t (bl d i) M.length new ev∧fb M.length new ev (bl d i)∧new.length≤5∧(ev.length=32∧ev[1]? =some (.str (bj i)))∧nP M new∧AV.refsOkL (fun b=>decide (b<M.length+5)) ev=true∧pV ev:=by
 have l0:=(List.getElem?_eq_some_iff.1 hp).1
 have l1:=(List.getElem?_eq_some_iff.1 ht).1
 obtain⟨hn,hl⟩:=eJ s
 have h:=gF l0 l1 rfl (wS d hd s.P.length s.T.length i hi hn hl hk hJ)
 have b0:∀z∈(bd d s.P.length),z.natAbs<1000:=fun z hz=>by have:=sb d _ z hz;omega
 have c0:((bd d s.P.length)).length=s.P.length:=cF d _
 have s1:=CG d 0 s.P.length (bd d s.P.length) 8 (sb d s.P.length) (by simp[cF,cH])
 have b1:∀z∈(bL d 0 (bd d s.P.length) s.P.length),z.natAbs<1000:=fun z hz=>by have:=s1 z hz;omega
 have c1:((bL d 0 (bd d s.P.length) s.P.length)).length=s.P.length:=cH d _ _ _
 refine⟨_,_,h,⟨fun M' w w' hp' ht' hkp=>?_,?_⟩,?_,by simp[gl],⟨by rfl,by rfl⟩,?_,?_,?_⟩
 rotate_left
 ·have k0:(hT (bd d s.P.length)).length=s.P.length:=by rw[cV];exact cF d _
  have k1:(hT (bL d 0 (bd d s.P.length) s.P.length)).length=s.P.length:=by rw[cV];exact cH d _ _ _
  refine⟨LC (bj i) (hT (bd d s.P.length)) (aY i 1) [hT (bL d 0 (bd d s.P.length) s.P.length)],zH s (bj i) [bP i,49] [bP i,50] (bd d s.P.length) (bL d 0 (bd d s.P.length) s.P.length) (dc hi) (fT (J:=1) hi (by decide) _ (by simp[aY])) (fT (J:=1) hi (by decide) _ (by simp[aY])) (by simp) b0 (by omega) (by omega) c0 b1 c1 (pP d 0 s.P.length (bd d s.P.length)),by rw[show bl d i=aY i 1 by simp[bl,hk,hJ]];rfl,fun M' hkp=>?_⟩
  obtain⟨N,hN⟩:∃N:Mem,N=[ib (bd d s.P.length),.cells true 1 [.str [bP i,49],.str [bP i,50]],.cells true 1 [.slice (M.length+3) 0 s.P.length none],ib (bL d 0 (bd d s.P.length) s.P.length)]:=⟨_,rfl⟩
  have en:∀(k:Nat) x,N[k]? =some x→M'[M.length+k]? =some x:=fun k x h=>hkp k x (by rw[hN] at h;simpa [gl,ib,Slot.ren,AV.rens,AV.ren,da,di,aY] using h)
  subst hN
  have:=Cq (N:=M') (nm:=bj i) (B:=hT (bd d s.P.length)) (U:=aY i 1) (S:=[hT (bL d 0 (bd d s.P.length) s.P.length)]) (b:=M.length) (u:=M.length+1) (o:=true) (o2:=true) (by omega) (by simp[aY]) (by have:=en 0 _ rfl;rwa [t7] at this) (en 1 _ rfl) (Q6 (c:=M.length+2) (r1:=M.length+3) (o:=true) (o1:=true) (by rw[k1];exact en 2 _ rfl) (by have:=en 3 _ rfl;rwa [t7] at this) (by omega))
  rw[k0] at this
  simpa [aQ,AV.rens,AV.ren,da,aY] using this
 ·rw[show bl d i=aY i 1 by simp[bl,hk,hJ]]
  have:=gg (b0:=M.length) (new:=[ib (bd d s.P.length),.cells true 1 [.str [bP i,49],.str [bP i,50]],.cells true 1 [.slice (M.length+3) 0 s.P.length none],ib (bL d 0 (bd d s.P.length) s.P.length)]) (bj i) (.slice M.length 0 s.P.length none) (.slice (M.length+2) 0 1 none) (aY i 1) (by simp[aY]) (by simp[aY]) 1 true rfl
  simpa [aQ,AV.rens,AV.ren,Slot.ren,da,gl,ib,di,aY] using this
 ·simp[nP,gl,ib,Slot.own,Slot.refsOk,Slot.ren,AV.rens,AV.ren,da,AV.refsOkL,AV.refsOk,di,qX,aY]
 ·simp[aQ,AV.rens,AV.ren,da,AV.refsOkL,AV.refsOk]
 ·simp[pV,aQ,AV.rens,AV.ren,da]
 obtain⟨N,hN⟩:∃N:Mem,N=[ib (bd d s.P.length),.cells true 1 [.str [bP i,49],.str [bP i,50]],.cells true 1 [.slice (M.length+3) 0 s.P.length none],ib (bL d 0 (bd d s.P.length) s.P.length)]:=⟨_,rfl⟩
 have en:∀(k:Nat) x,N[k]? =some x→M'[M.length+k]? =some x:=fun k x h=>hkp k x (by rw[hN] at h;simpa [gl,ib,Slot.ren,AV.rens,AV.ren,da,di,aY] using h)
 subst hN
 have:=jG s (bj i) [bP i,49] [bP i,50] (bd d s.P.length) (bL d 0 (bd d s.P.length) s.P.length) (dc hi) (fT (J:=1) hi (by decide) _ (by simp[aY])) (fT (J:=1) hi (by decide) _ (by simp[aY])) (by simp) b0 (by omega) c0 b1 c1 (pP d 0 s.P.length (bd d s.P.length)) M' p t w w' hp' ht' M.length (M.length+1) true true (en 0 _ rfl) (en 1 _ rfl) (M.length+2) (M.length+3) true true (by rw[c0];exact en 2 _ rfl) (en 3 _ rfl)
 rw[c0] at this
 simpa [shB,aQ,AV.rens,AV.ren,Slot.ren,da,gl,ib,di,aY] using this
theorem xr(s:Sheet) (d:Deed) (hd:d.Ok) (i:Nat) (hi:i<6) (hk:d.kind%5=0) (hJ:d.K.1%3=2) (M:Mem) (p t:Nat) (o o' :Bool) (hp:M[p]? =some (.cells o 2 (pC s.P))) (ht:M[t]? =some (.cells o' 3 (tC s.T))):
  ∃ev new,ACallsTo Tryz.prog 9 [shB s p t,.agg d.cells,.int .i64 i] M (.agg ev) (M++new)∧gn s p t (bl d i) M.length new ev∧fb M.length new ev (bl d i)∧new.length≤5∧(ev.length=32∧ev[1]? =some (.str (bj i)))∧nP M new∧AV.refsOkL (fun b=>decide (b<M.length+5)) ev=true∧pV ev:=by
 have l0:=(List.getElem?_eq_some_iff.1 hp).1
 have l1:=(List.getElem?_eq_some_iff.1 ht).1
 obtain⟨hn,hl⟩:=eJ s
 have h:=gF l0 l1 rfl (wT d hd s.P.length s.T.length i hi hn hl hk hJ)
 have b0:∀z∈(bd d s.P.length),z.natAbs<1000:=fun z hz=>by have:=sb d _ z hz;omega
 have c0:((bd d s.P.length)).length=s.P.length:=cF d _
 have s1:=CG d 0 s.P.length (bd d s.P.length) 8 (sb d s.P.length) (by simp[cF,cH])
 have b1:∀z∈(bL d 0 (bd d s.P.length) s.P.length),z.natAbs<1000:=fun z hz=>by have:=s1 z hz;omega
 have c1:((bL d 0 (bd d s.P.length) s.P.length)).length=s.P.length:=cH d _ _ _
 have s2:=CG d 1 s.P.length (bL d 0 (bd d s.P.length) s.P.length) 11 (s1) (by simp[cF,cH])
 have b2:∀z∈(bL d 1 (bL d 0 (bd d s.P.length) s.P.length) s.P.length),z.natAbs<1000:=fun z hz=>by have:=s2 z hz;omega
 have c2:((bL d 1 (bL d 0 (bd d s.P.length) s.P.length) s.P.length)).length=s.P.length:=cH d _ _ _
 refine⟨_,_,h,⟨fun M' w w' hp' ht' hkp=>?_,?_⟩,?_,by simp[gl],⟨by rfl,by rfl⟩,?_,?_,?_⟩
 rotate_left
 ·have k0:(hT (bd d s.P.length)).length=s.P.length:=by rw[cV];exact cF d _
  have k1:(hT (bL d 0 (bd d s.P.length) s.P.length)).length=s.P.length:=by rw[cV];exact cH d _ _ _
  have k2:(hT (bL d 1 (bL d 0 (bd d s.P.length) s.P.length) s.P.length)).length=s.P.length:=by rw[cV];exact cH d _ _ _
  refine⟨LC (bj i) (hT (bd d s.P.length)) (aY i 2) [hT (bL d 0 (bd d s.P.length) s.P.length),hT (bL d 1 (bL d 0 (bd d s.P.length) s.P.length) s.P.length)],zI s (bj i) [bP i,49] [bP i,50] [bP i,51] (bd d s.P.length) (bL d 0 (bd d s.P.length) s.P.length) (bL d 1 (bL d 0 (bd d s.P.length) s.P.length) s.P.length) (dc hi) (fT (J:=2) hi (by decide) _ (by simp[aY])) (fT (J:=2) hi (by decide) _ (by simp[aY])) (fT (J:=2) hi (by decide) _ (by simp[aY])) (by simp) (by simp) (by simp) b0 (by omega) (by omega) c0 b1 c1 (pP d 0 s.P.length (bd d s.P.length)) b2 c2 (pP d 1 s.P.length (bL d 0 (bd d s.P.length) s.P.length)),by rw[show bl d i=aY i 2 by simp[bl,hk,hJ]];rfl,fun M' hkp=>?_⟩
  obtain⟨N,hN⟩:∃N:Mem,N=[ib (bd d s.P.length),.cells true 1 [.str [bP i,49],.str [bP i,50],.str [bP i,51]],.cells true 1 [.slice (M.length+3) 0 s.P.length none,.slice (M.length+4) 0 s.P.length none],ib (bL d 0 (bd d s.P.length) s.P.length),ib (bL d 1 (bL d 0 (bd d s.P.length) s.P.length) s.P.length)]:=⟨_,rfl⟩
  have en:∀(k:Nat) x,N[k]? =some x→M'[M.length+k]? =some x:=fun k x h=>hkp k x (by rw[hN] at h;simpa [gl,ib,Slot.ren,AV.rens,AV.ren,da,di,aY] using h)
  subst hN
  have:=Cq (N:=M') (nm:=bj i) (B:=hT (bd d s.P.length)) (U:=aY i 2) (S:=[hT (bL d 0 (bd d s.P.length) s.P.length),hT (bL d 1 (bL d 0 (bd d s.P.length) s.P.length) s.P.length)]) (b:=M.length) (u:=M.length+1) (o:=true) (o2:=true) (by omega) (by simp[aY]) (by have:=en 0 _ rfl;rwa [t7] at this) (en 1 _ rfl) (Q7 (c:=M.length+2) (r1:=M.length+3) (r2:=M.length+4) (o:=true) (o1:=true) (o2:=true) (by rw[k1,k2];exact en 2 _ rfl) (by have:=en 3 _ rfl;rwa [t7] at this) (by have:=en 4 _ rfl;rwa [t7] at this) (by omega) (by omega))
  rw[k0] at this
  simpa [aQ,AV.rens,AV.ren,da,aY] using this
 ·rw[show bl d i=aY i 2 by simp[bl,hk,hJ]]
  have:=gg (b0:=M.length) (new:=[ib (bd d s.P.length),.cells true 1 [.str [bP i,49],.str [bP i,50],.str [bP i,51]],.cells true 1 [.slice (M.length+3) 0 s.P.length none,.slice (M.length+4) 0 s.P.length none],ib (bL d 0 (bd d s.P.length) s.P.length),ib (bL d 1 (bL d 0 (bd d s.P.length) s.P.length) s.P.length)]) (bj i) (.slice M.length 0 s.P.length none) (.slice (M.length+2) 0 2 none) (aY i 2) (by simp[aY]) (by simp[aY]) 1 true rfl
  simpa [aQ,AV.rens,AV.ren,Slot.ren,da,gl,ib,di,aY] using this
 ·simp[nP,gl,ib,Slot.own,Slot.refsOk,Slot.ren,AV.rens,AV.ren,da,AV.refsOkL,AV.refsOk,di,qX,aY]
 ·simp[aQ,AV.rens,AV.ren,da,AV.refsOkL,AV.refsOk]
 ·simp[pV,aQ,AV.rens,AV.ren,da]
 obtain⟨N,hN⟩:∃N:Mem,N=[ib (bd d s.P.length),.cells true 1 [.str [bP i,49],.str [bP i,50],.str [bP i,51]],.cells true 1 [.slice (M.length+3) 0 s.P.length none,.slice (M.length+4) 0 s.P.length none],ib (bL d 0 (bd d s.P.length) s.P.length),ib (bL d 1 (bL d 0 (bd d s.P.length) s.P.length) s.P.length)]:=⟨_,rfl⟩
 have en:∀(k:Nat) x,N[k]? =some x→M'[M.length+k]? =some x:=fun k x h=>hkp k x (by rw[hN] at h;simpa [gl,ib,Slot.ren,AV.rens,AV.ren,da,di,aY] using h)
 subst hN
 have:=jH s (bj i) [bP i,49] [bP i,50] [bP i,51] (bd d s.P.length) (bL d 0 (bd d s.P.length) s.P.length) (bL d 1 (bL d 0 (bd d s.P.length) s.P.length) s.P.length) (dc hi) (fT (J:=2) hi (by decide) _ (by simp[aY])) (fT (J:=2) hi (by decide) _ (by simp[aY])) (fT (J:=2) hi (by decide) _ (by simp[aY])) (by simp) (by simp) (by simp) b0 (by omega) c0 b1 c1 (pP d 0 s.P.length (bd d s.P.length)) b2 c2 (pP d 1 s.P.length (bL d 0 (bd d s.P.length) s.P.length)) M' p t w w' hp' ht' M.length (M.length+1) true true (en 0 _ rfl) (en 1 _ rfl) (M.length+2) (M.length+3) (M.length+4) true true true (by rw[c0];exact en 2 _ rfl) (en 3 _ rfl) (en 4 _ rfl)
 rw[c0] at this
 simpa [shB,aQ,AV.rens,AV.ren,Slot.ren,da,gl,ib,di,aY] using this
theorem KN(s:Sheet) (d:Deed) (hd:d.Ok) (i:Nat) (hi:i<6) (M:Mem) (p t:Nat) (o o' :Bool) (hp:M[p]? =some (.cells o 2 (pC s.P))) (ht:M[t]? =some (.cells o' 3 (tC s.T))):
  ∃ev new,ACallsTo Tryz.prog 9 [shB s p t,.agg d.cells,.int .i64 i] M (.agg ev) (M++new)∧gn s p t (bl d i) M.length new ev∧fb M.length new ev (bl d i)∧new.length≤5∧(ev.length=32∧ev[1]? =some (.str (bj i)))∧nP M new∧AV.refsOkL (fun b=>decide (b<M.length+5)) ev=true∧pV ev:=by
 have h5:=Nat.mod_lt d.kind (show 0<5 by decide)
 have h3:=Nat.mod_lt d.K.1 (show 0<3 by decide)
 have:d.kind%5=0∨d.kind%5=1∨d.kind%5=2∨d.kind%5=3∨d.kind%5=4:=by omega
 rcases this with h | h | h | h | h
 ·have:d.K.1%3=0∨d.K.1%3=1∨d.K.1%3=2:=by omega
  rcases this with g | g | g
  ·exact xp s d hd i hi h g M p t o o' hp ht
  ·exact xq s d hd i hi h g M p t o o' hp ht
  ·exact xr s d hd i hi h g M p t o o' hp ht
 ·exact vF s d hd i hi h M p t o o' hp ht
 ·exact xu s d hd i hi h M p t o o' hp ht
 ·exact xt s d hd i hi h M p t o o' hp ht
 ·exact xv s d hd i hi h M p t o o' hp ht
theorem Cd{P:Program}{f:FuncId}{args:List AV}{m m' :Mem}{v:AV}(h:ACallsTo P f args m v m'):ACallsTo P f args m v (m' ++[.absent]):=by
 refine⟨h.1,fun base μ w Vs h0 h1 h2=>(h.2 base μ w Vs h0 h1 h2).mono ?_⟩
 rintro e w' ⟨V,v',m1,μ',he,hv,hh,hs,rfl,rfl⟩
 obtain⟨k1,k2⟩:=hh.absent (μ' 0)
 exact⟨V,_,_,_,he,hv.mono (by simp) k2.agree,k1,hs.trans (k2.mono hs.len),rfl,rfl⟩
theorem dG{P:Program}{f:FuncId}{args:List AV}{m:Mem}{v:AV}:∀(k:Nat) {m' :Mem},ACallsTo P f args m v m' →ACallsTo P f args m v (m' ++List.replicate k .absent)
 |0,m',h=>by simpa using h
 |k+1,m',h=>by
  have:=dG k (Cd h)
  rwa [List.append_assoc,List.singleton_append,←List.replicate_succ] at this
theorem If(s:Sheet) (d:Deed) (hd:d.Ok) (i:Nat) (hi:i<6) (M:Mem) (p t:Nat) (o o' :Bool) (hp:M[p]? =some (.cells o 2 (pC s.P))) (ht:M[t]? =some (.cells o' 3 (tC s.T))):
  ∃ev x1 x2 x3 x4 x5,ACallsTo Tryz.prog 9 [shB s p t,.agg d.cells,.int .i64 i] M (.agg ev) (M++[x1,x2,x3,x4,x5])∧gn s p t (bl d i) M.length [x1,x2,x3,x4,x5] ev∧fb M.length [x1,x2,x3,x4,x5] ev (bl d i)∧(ev.length=32∧ev[1]? =some (.str (bj i)))∧nP M [x1,x2,x3,x4,x5]∧AV.refsOkL (fun b=>decide (b<M.length+5)) ev=true∧pV ev:=by
 obtain⟨ev,new,h1,h2,h3,h4,h5,h6,h7,h8⟩:=KN s d hd i hi M p t o o' hp ht
 have e:(new++List.replicate (5-new.length) Slot.absent).length=5:=by simp;omega
 have g1:=dG (5-new.length) h1
 rw[List.append_assoc] at g1
 have hk:∀M',Keeps M.length (new++List.replicate (5-new.length) Slot.absent) M' →Keeps M.length new M' :=fun M' c k x hx=>c k x (by rw[List.getElem?_append_left (List.getElem?_eq_some_iff.1 hx).1];exact hx)
 have g2:gn s p t (bl d i) M.length (new++List.replicate (5-new.length) Slot.absent) ev:=by
  obtain⟨h2,cc,ho,hu,hx⟩:=h2
  exact⟨fun M' w w' a b c=>h2 M' w w' a b (hk M' c),cc,ho,hu,fun M' c=>hx M' (hk M' c)⟩
 have g3:fb M.length (new++List.replicate (5-new.length) Slot.absent) ev (bl d i):=fun M' c=>
  h3 M' fun k x hx=>c k x (by rw[List.getElem?_append_left (List.getElem?_eq_some_iff.1 hx).1];exact hx)
 have g4:nP M (new++List.replicate (5-new.length) Slot.absent):=by
  unfold nP at h6 ⊢
  rw[List.all_append,h6,Bool.true_and,List.all_eq_true]
  intro x hx
  rw[List.eq_of_mem_replicate hx]
  rfl
 obtain⟨N,hN⟩:∃N,N=new++List.replicate (5-new.length) Slot.absent:=⟨_,rfl⟩
 rw[←hN] at e g1 g2 g3 g4
 match N,e,g1,g2,g3,g4 with
 | [x1,x2,x3,x4,x5],_,g1,g2,g3,g4=>exact⟨ev,x1,x2,x3,x4,x5,g1,g2,g3,h5,g4,h7,h8⟩
end Go.Proofs
