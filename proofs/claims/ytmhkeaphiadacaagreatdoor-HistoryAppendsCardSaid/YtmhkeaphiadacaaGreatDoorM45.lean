/- See M58. -/
import Derived.Test.YtmhkeaphiadacaaGreatDoorM43
import Derived.Test.YtmhkeaphiadacaaGreatDoorM44
set_option linter.all false
namespace Go.Proofs
open Go.Eng
theorem fk(s:Sheet):0<s.P.length∧s.P.length≤1000:=by
 have h:∀k<8,0<(cN k).length∧(cN k).length≤1000:=by decide
 have:=h (s.kind%8) (Nat.mod_lt _ (by decide))
 unfold Sheet.P
 rwa [List.length_map]
theorem eF{m n:Nat}{v:Z3}(h:fB m v) (hmn:m≤n):fB n v:=by
 obtain⟨h1,h2,h3⟩:=h
 exact⟨by omega,by omega,by omega⟩
theorem JF(d:Deed) (j k:Nat):0≤Ct d j k∧Ct d j k≤3:=by
 unfold Ct
 have:=Nat.mod_lt (G8 d.K ((j+k)%4)) (show 0<4 by decide)
 omega
theorem rk(d:Deed) (n:Nat):∀z∈aX d n,z.natAbs≤8:=by
 intro z hz
 simp only[aX,List.mem_map] at hz
 obtain⟨k,_,rfl⟩:=hz
 exact vL k
theorem AQ(d:Deed) (j n:Nat) (L:List Int) (m:Nat) (hL:∀z∈L,z.natAbs≤m) (hn:n≤L.length):∀z∈bG d j L n,z.natAbs≤m+3:=by
 intro z hz
 simp only[bG,List.mem_map,List.mem_range] at hz
 obtain⟨k,hk,rfl⟩:=hz
 have h1:=JF d j k
 have h2:L.getD k 0∈L:=by
  rw[List.getD_eq_getElem?_getD,List.getElem?_eq_getElem (by omega)]
  exact List.getElem_mem _
 have:=hL _ h2
 omega
theorem oV(d:Deed) (j n:Nat) (L:List Int):∀(i:Nat) z y,L[i]? =some z→(bG d j L n)[i]? =some y→z≤y:=by
 intro i z y hz hy
 have h1:=JF d j i
 simp only[bG,List.getElem?_map,Option.map_eq_some_iff] at hy
 obtain⟨k,hk,rfl⟩:=hy
 have e:k=i:=by
  rw[List.getElem?_eq_some_iff] at hk
  obtain⟨_,h⟩:=hk
  rw[List.getElem_range] at h
  exact h.symm
 subst e
 rw[List.getD_eq_getElem?_getD,hz]
 simp only[Option.getD_some]
 omega
theorem hN5(n:Int):(n.tmod 5).natAbs≤1000:=by
 have: -5<n.tmod 5∧n.tmod 5<5:=nQ n 5 (by decide)
 omega
def shB(s:Sheet) (p t:Nat):AV:=.agg [.slice p 0 s.P.length none,.slice t 0 s.T.length none]
def Oz(s:Sheet) (U:List (List UInt8)) (b:Nat) (new:Mem) (ev:List AV):Prop:=∃c:Evc,Tryz.Good s c∧unE c=U∧∀M',Keeps b new M' →EvAt M' ev c
def gw(s:Sheet) (p t:Nat) (U:List (List UInt8)) (b:Nat) (new:Mem) (ev:List AV):Prop:=(∀(M' :Mem) (o o' :Bool),M'[p]? =some (.cells o 2 (pC s.P))→M'[t]? =some (.cells o' 3 (tC s.T))→Keeps b new M' →ACallsTo Tryz.prog 43 [shB s p t,.agg ev] M' (.int .i64 0) M')∧Oz s U b new ev
theorem gL{s:Sheet}{d:Deed}{i:Nat}{ev:List AV}{new M:Mem}{p t:Nat}(hp:p<M.length) (ht:t<M.length) (hn:new.all (fun s=>s.own||match s with | .absent=>true | _=>false)=true)
  (h:ACallsTo Tryz.prog 9 [.agg [.slice 0 0 s.P.length none,.slice 1 0 s.T.length none],.agg d.cells,.int .i64 i] [.absent,.absent] (.agg ev) ([.absent,.absent]++new)):
  ACallsTo Tryz.prog 9 [shB s p t,.agg d.cells,.int .i64 i] M (.agg (AV.rens (cR [p,t] M.length) ev)) (M++new.map (Slot.ren (cR [p,t] M.length))):=by
 have:=ACallsTo.frame (M:=M) (new:=new) [p,t] rfl (by simp[hp,ht]) (by rfl) (fun i q hs=>by
  match i with
  |0=>simp at hs;subst hs;trivial
  |1=>simp at hs;subst hs;trivial
  |i+2=>simp at hs) hn h
 simpa [shB,AV.rens,AV.ren,cR,Deed.cells] using this
theorem vz(s:Sheet) (d:Deed) (hd:d.Ok) (i:Nat) (hi:i<6) (hk:d.kind%5=1) (M:Mem) (p t:Nat) (o o' :Bool) (hp:M[p]? =some (.cells o 2 (pC s.P))) (ht:M[t]? =some (.cells o' 3 (tC s.T))):
  ∃ev new,ACallsTo Tryz.prog 9 [shB s p t,.agg d.cells,.int .i64 i] M (.agg ev) (M++new)∧gw s p t (bd d i) M.length new ev∧eX M.length new ev (bd d i)∧new.length≤5∧(ev.length=32∧ev[1]? =some (.str (ba i)))∧nB M new∧AV.refsOkL (fun b=>decide (b<M.length+5)) ev=true∧pu ev:=by
 have l0:=(List.getElem?_eq_some_iff.1 hp).1
 have l1:=(List.getElem?_eq_some_iff.1 ht).1
 obtain⟨hn,hl⟩:=fk s
 have h:=gL l0 l1 rfl (u7 d hd s.P.length s.T.length i hi hn hl hk)
 refine⟨_,_,h,⟨fun M' w w' hp' ht' hkp=>?_,?_⟩,?_,by simp,⟨by rfl,by rfl⟩,?_,?_,?_⟩
 rotate_left
 ·exact⟨JI (ba i) (aY d.A) (d.N.tmod 5) (da (aY d.A) (pH d.B)),wG s (ba i) (aY d.A) (d.N.tmod 5) (da (aY d.A) (pH d.B)) (cS hi) (eF (cj _) (by decide)) (iS _) (hN5 d.N) (eF (ph (cj d.A) (fW d.B)) (by decide)) (oT _ _),by rw[show bd d i=[] by simp[bd,hk]];rfl,fun M' _=>yi (by simp[bF,JI,Evc.cells,AV.rens,AV.ren]) rfl rfl rfl rfl⟩
 ·rw[show bd d i=[] by simp[bd,hk]]
  refine oa fun M=>?_
  simpa [bF,AV.rens,AV.ren] using li (ba i) (aY d.A) (d.N.tmod 5) (da (aY d.A) (pH d.B)) M
 ·simp[nB,Slot.own,Slot.refsOk,Slot.ren,dX,nO]
 ·simp[bF,cf,cC,bp,AV.rens,AV.ren,cR,AV.refsOkL,AV.refsOk]
 ·simp[pu,bF,cf,cC,bp,AV.rens,AV.ren,cR]
 have h5: -5<d.N.tmod 5∧d.N.tmod 5<5:=nQ d.N 5 (by decide)
 have hz:=ph (cj d.A) (fW d.B)
 have:=ji s (ba i) (aY d.A) (d.N.tmod 5) (da (aY d.A) (pH d.B)) (cS hi) (eF (cj _) (by decide)) (iS _) (by omega) (eF hz (by decide)) (oT _ _) M' p t w w' hp' ht'
 simpa [shB,bF,AV.rens,AV.ren] using this
theorem wQ(s:Sheet) (d:Deed) (hd:d.Ok) (i:Nat) (hi:i<6) (hk:d.kind%5=3) (M:Mem) (p t:Nat) (o o' :Bool) (hp:M[p]? =some (.cells o 2 (pC s.P))) (ht:M[t]? =some (.cells o' 3 (tC s.T))):
  ∃ev new,ACallsTo Tryz.prog 9 [shB s p t,.agg d.cells,.int .i64 i] M (.agg ev) (M++new)∧gw s p t (bd d i) M.length new ev∧eX M.length new ev (bd d i)∧new.length≤5∧(ev.length=32∧ev[1]? =some (.str (ba i)))∧nB M new∧AV.refsOkL (fun b=>decide (b<M.length+5)) ev=true∧pu ev:=by
 have l0:=(List.getElem?_eq_some_iff.1 hp).1
 have l1:=(List.getElem?_eq_some_iff.1 ht).1
 obtain⟨hn,hl⟩:=fk s
 have h:=gL l0 l1 rfl (wF d hd s.P.length s.T.length i hi hn hl hk)
 refine⟨_,_,h,⟨fun M' w w' hp' ht' hkp=>?_,?_⟩,?_,by simp,⟨by rfl,by rfl⟩,?_,?_,?_⟩
 rotate_left
 ·exact⟨OM (ba i) (aY d.A) (d.N.tmod 5) (1+(d.K.1%4:Nat)) (fv i),yW s (ba i) (aY d.A) (d.N.tmod 5) (1+(d.K.1%4:Nat)) (fv i) (cS hi) (eF (cj _) (by decide)) (iS _) (hN5 d.N) (by have:=Nat.mod_lt d.K.1 (show 0<4 by decide);omega) (by have:=Nat.mod_lt d.K.1 (show 0<4 by decide);omega) (uh hi),by rw[show bd d i=[fv i] by simp[bd,hk]];rfl,fun M' _=>yi (by simp[cf,OM,Evc.cells,AV.rens,AV.ren]) rfl rfl rfl rfl⟩
 ·rw[show bd d i=[fv i] by simp[bd,hk]]
  simpa [cf,AV.rens,AV.ren] using qQ (b:=M.length) (new:=[]) (ba i) (aY d.A) (d.N.tmod 5) (1+(d.K.1%4:Nat)) (fv i)
 ·simp[nB,Slot.own,Slot.refsOk,Slot.ren,dX,nO]
 ·simp[bF,cf,cC,bp,AV.rens,AV.ren,cR,AV.refsOkL,AV.refsOk]
 ·simp[pu,bF,cf,cC,bp,AV.rens,AV.ren,cR]
 have h5: -5<d.N.tmod 5∧d.N.tmod 5<5:=nQ d.N 5 (by decide)
 have h4:=Nat.mod_lt d.K.1 (show 0<4 by decide)
 have:=jI s (ba i) (aY d.A) (d.N.tmod 5) (1+(d.K.1%4:Nat)) (fv i) (cS hi) (eF (cj _) (by decide)) (iS _) (by omega) (by omega) (by omega) (uh hi) M' p t w w' hp' ht'
 simpa [shB,cf,AV.rens,AV.ren] using this
theorem xc(s:Sheet) (d:Deed) (hd:d.Ok) (i:Nat) (hi:i<6) (hk:d.kind%5=4) (M:Mem) (p t:Nat) (o o' :Bool) (hp:M[p]? =some (.cells o 2 (pC s.P))) (ht:M[t]? =some (.cells o' 3 (tC s.T))):
  ∃ev new,ACallsTo Tryz.prog 9 [shB s p t,.agg d.cells,.int .i64 i] M (.agg ev) (M++new)∧gw s p t (bd d i) M.length new ev∧eX M.length new ev (bd d i)∧new.length≤5∧(ev.length=32∧ev[1]? =some (.str (ba i)))∧nB M new∧AV.refsOkL (fun b=>decide (b<M.length+5)) ev=true∧pu ev:=by
 have l0:=(List.getElem?_eq_some_iff.1 hp).1
 have l1:=(List.getElem?_eq_some_iff.1 ht).1
 obtain⟨hn,hl⟩:=fk s
 have h:=gL l0 l1 rfl (wh d hd s.P.length s.T.length i hi hn hl hk)
 refine⟨_,_,h,⟨fun M' w w' hp' ht' hkp=>?_,?_⟩,?_,by simp,⟨by rfl,by rfl⟩,?_,?_,?_⟩
 rotate_left
 ·exact⟨Oq (ba i) (dQ (d.K.1%6)) (pH d.B),zq s _ _ _ (cS hi) (eF (fW _) (by decide)),by rw[show bd d i=[] by simp[bd,hk]];rfl,fun M' _=>yi (by simp[cC,Oq,Evc.cells,AV.rens,AV.ren]) rfl rfl rfl rfl⟩
 ·rw[show bd d i=[] by simp[bd,hk]]
  refine oa fun M=>?_
  simpa [cC,AV.rens,AV.ren] using np (ba i) (dQ (d.K.1%6)) (pH d.B) M
 ·simp[nB,Slot.own,Slot.refsOk,Slot.ren,dX,nO]
 ·simp[bF,cf,cC,bp,AV.rens,AV.ren,cR,AV.refsOkL,AV.refsOk]
 ·simp[pu,bF,cf,cC,bp,AV.rens,AV.ren,cR]
 have:=jT s (ba i) (d.K.1%6) (pH d.B) (cS hi) (eF (fW _) (by decide)) M' p t w w' hp' ht'
 simpa [shB,cC,AV.rens,AV.ren] using this
theorem wS(s:Sheet) (d:Deed) (hd:d.Ok) (i:Nat) (hi:i<6) (hk:d.kind%5=2) (M:Mem) (p t:Nat) (o o' :Bool) (hp:M[p]? =some (.cells o 2 (pC s.P))) (ht:M[t]? =some (.cells o' 3 (tC s.T))):
  ∃ev new,ACallsTo Tryz.prog 9 [shB s p t,.agg d.cells,.int .i64 i] M (.agg ev) (M++new)∧gw s p t (bd d i) M.length new ev∧eX M.length new ev (bd d i)∧new.length≤5∧(ev.length=32∧ev[1]? =some (.str (ba i)))∧nB M new∧AV.refsOkL (fun b=>decide (b<M.length+5)) ev=true∧pu ev:=by
 have l0:=(List.getElem?_eq_some_iff.1 hp).1
 have l1:=(List.getElem?_eq_some_iff.1 ht).1
 obtain⟨hn,hl⟩:=fk s
 have h3:=Nat.mod_lt d.K.1 (show 0<3 by decide)
 have h:=gL l0 l1 rfl (wW d hd s.P.length s.T.length i hi hn hl hk)
 refine⟨_,_,h,⟨fun M' w w' hp' ht' hkp=>?_,?_⟩,?_,by simp,⟨by rfl,by rfl⟩,?_,?_,?_⟩
 rotate_left
 ·refine⟨OH (ba i) (aY d.A) (kT (cg d (1+d.K.1%3))) (da (aY d.A) (pH d.B)),za s _ _ _ d _ (by omega) (by omega) (cS hi) (eF (cj _) (by decide)) (iS _) (eF (ph (cj d.A) (fW d.B)) (by decide)) (oT _ _),by rw[show bd d i=[] by simp[bd,hk]];rfl,fun M' hkp=>?_⟩
  have:=Nm (N:=M') (nm:=ba i) (n:=aY d.A) (s:=da (aY d.A) (pH d.B)) (L:=cg d (1+d.K.1%3)) (b:=M.length) (o:=true) (by rw[eh];omega) (by have:=hkp 0 _ rfl;simpa [Slot.ren,dX] using this)
  rw[eh] at this
  simpa [bp,AV.rens,AV.ren,cR] using this
 ·rw[show bd d i=[] by simp[bd,hk]]
  refine oa fun M' =>?_
  simpa [bp,AV.rens,AV.ren,cR] using no (ba i) (aY d.A) (da (aY d.A) (pH d.B)) (.slice M.length 0 (1+d.K.1%3) none) M'
 ·simp[nB,Slot.own,Slot.refsOk,Slot.ren,dX,nO]
 ·simp[bF,cf,cC,bp,AV.rens,AV.ren,cR,AV.refsOkL,AV.refsOk]
 ·simp[pu,bF,cf,cC,bp,AV.rens,AV.ren,cR]
 have hz:=ph (cj d.A) (fW d.B)
 have:=ku s (ba i) (aY d.A) (da (aY d.A) (pH d.B)) d (1+d.K.1%3) (by omega) (by omega) (cS hi) (eF (cj _) (by decide)) (iS _) (eF hz (by decide)) (oT _ _) M' p t w w' hp' ht' M.length true (by have:=hkp 0 _ rfl;simpa [Slot.ren,dX] using this)
 simpa [shB,bp,AV.rens,AV.ren,Slot.ren,cR,dX] using this
theorem xa(s:Sheet) (d:Deed) (hd:d.Ok) (i:Nat) (hi:i<6) (hk:d.kind%5=0) (hJ:d.K.1%3=0) (M:Mem) (p t:Nat) (o o' :Bool) (hp:M[p]? =some (.cells o 2 (pC s.P))) (ht:M[t]? =some (.cells o' 3 (tC s.T))):
  ∃ev new,ACallsTo Tryz.prog 9 [shB s p t,.agg d.cells,.int .i64 i] M (.agg ev) (M++new)∧gw s p t (bd d i) M.length new ev∧eX M.length new ev (bd d i)∧new.length≤5∧(ev.length=32∧ev[1]? =some (.str (ba i)))∧nB M new∧AV.refsOkL (fun b=>decide (b<M.length+5)) ev=true∧pu ev:=by
 have l0:=(List.getElem?_eq_some_iff.1 hp).1
 have l1:=(List.getElem?_eq_some_iff.1 ht).1
 obtain⟨hn,hl⟩:=fk s
 have h:=gL l0 l1 rfl (xg d hd s.P.length s.T.length i hi hn hl hk hJ)
 have b0:∀z∈(aX d s.P.length),z.natAbs<1000:=fun z hz=>by have:=rk d _ z hz;omega
 have c0:((aX d s.P.length)).length=s.P.length:=cz d _
 refine⟨_,_,h,⟨fun M' w w' hp' ht' hkp=>?_,?_⟩,?_,by simp[gn],⟨by rfl,by rfl⟩,?_,?_,?_⟩
 rotate_left
 ·have k0:(hT (aX d s.P.length)).length=s.P.length:=by rw[cQ];exact cz d _
  refine⟨J6 (ba i) (hT (aX d s.P.length)) (aU i 0) [],zy s (ba i) [bL i,49] (aX d s.P.length) (cS hi) (fQ (J:=0) hi (by decide) _ (by simp[aU]))  b0 (by omega) (by omega) c0 ,by rw[show bd d i=aU i 0 by simp[bd,hk,hJ]];rfl,fun M' hkp=>?_⟩
  obtain⟨N,hN⟩:∃N:Mem,N=[gO (aX d s.P.length),.cells true 1 [.str [bL i,49]]]:=⟨_,rfl⟩
  have en:∀(k:Nat) x,N[k]? =some x→M'[M.length+k]? =some x:=fun k x h=>hkp k x (by rw[hN] at h;simpa [gn,gO,Slot.ren,AV.rens,AV.ren,cR,cY,aU] using h)
  subst hN
  have:=Bs (N:=M') (nm:=ba i) (B:=hT (aX d s.P.length)) (U:=aU i 0) (S:=[]) (b:=M.length) (u:=M.length+1) (o:=true) (o2:=true) (by omega) (by simp[aU]) (by have:=en 0 _ rfl;rwa [tL] at this) (en 1 _ rfl) (vN M')
  rw[k0] at this
  simpa [aL,AV.rens,AV.ren,cR,aU] using this
 ·rw[show bd d i=aU i 0 by simp[bd,hk,hJ]]
  have:=gf (b0:=M.length) (new:=[gO (aX d s.P.length),.cells true 1 [.str [bL i,49]]]) (ba i) (.slice M.length 0 s.P.length none) (.nilslice) (aU i 0) (by simp[aU]) (by simp[aU]) 1 true rfl
  simpa [aL,AV.rens,AV.ren,Slot.ren,cR,gn,gO,cY,aU] using this
 ·simp[nB,gn,gO,Slot.own,Slot.refsOk,Slot.ren,AV.rens,AV.ren,cR,AV.refsOkL,AV.refsOk,cY,pW,aU]
 ·simp[aL,AV.rens,AV.ren,cR,AV.refsOkL,AV.refsOk]
 ·simp[pu,aL,AV.rens,AV.ren,cR]
 obtain⟨N,hN⟩:∃N:Mem,N=[gO (aX d s.P.length),.cells true 1 [.str [bL i,49]]]:=⟨_,rfl⟩
 have en:∀(k:Nat) x,N[k]? =some x→M'[M.length+k]? =some x:=fun k x h=>hkp k x (by rw[hN] at h;simpa [gn,gO,Slot.ren,AV.rens,AV.ren,cR,cY,aU] using h)
 subst hN
 have:=ko s (ba i) [bL i,49] (aX d s.P.length) (cS hi) (fQ (J:=0) hi (by decide) _ (by simp[aU]))  b0 (by omega) c0  M' p t w w' hp' ht' M.length (M.length+1) true true (en 0 _ rfl) (en 1 _ rfl)
 rw[c0] at this
 simpa [shB,aL,AV.rens,AV.ren,Slot.ren,cR,gn,gO,cY,aU] using this
theorem yw(s:Sheet) (d:Deed) (hd:d.Ok) (i:Nat) (hi:i<6) (hk:d.kind%5=0) (hJ:d.K.1%3=1) (M:Mem) (p t:Nat) (o o' :Bool) (hp:M[p]? =some (.cells o 2 (pC s.P))) (ht:M[t]? =some (.cells o' 3 (tC s.T))):
  ∃ev new,ACallsTo Tryz.prog 9 [shB s p t,.agg d.cells,.int .i64 i] M (.agg ev) (M++new)∧gw s p t (bd d i) M.length new ev∧eX M.length new ev (bd d i)∧new.length≤5∧(ev.length=32∧ev[1]? =some (.str (ba i)))∧nB M new∧AV.refsOkL (fun b=>decide (b<M.length+5)) ev=true∧pu ev:=by
 have l0:=(List.getElem?_eq_some_iff.1 hp).1
 have l1:=(List.getElem?_eq_some_iff.1 ht).1
 obtain⟨hn,hl⟩:=fk s
 have h:=gL l0 l1 rfl (yk d hd s.P.length s.T.length i hi hn hl hk hJ)
 have b0:∀z∈(aX d s.P.length),z.natAbs<1000:=fun z hz=>by have:=rk d _ z hz;omega
 have c0:((aX d s.P.length)).length=s.P.length:=cz d _
 have s1:=AQ d 0 s.P.length (aX d s.P.length) 8 (rk d s.P.length) (by simp[cz,cB])
 have b1:∀z∈(bG d 0 (aX d s.P.length) s.P.length),z.natAbs<1000:=fun z hz=>by have:=s1 z hz;omega
 have c1:((bG d 0 (aX d s.P.length) s.P.length)).length=s.P.length:=cB d _ _ _
 refine⟨_,_,h,⟨fun M' w w' hp' ht' hkp=>?_,?_⟩,?_,by simp[gn],⟨by rfl,by rfl⟩,?_,?_,?_⟩
 rotate_left
 ·have k0:(hT (aX d s.P.length)).length=s.P.length:=by rw[cQ];exact cz d _
  have k1:(hT (bG d 0 (aX d s.P.length) s.P.length)).length=s.P.length:=by rw[cQ];exact cB d _ _ _
  refine⟨J6 (ba i) (hT (aX d s.P.length)) (aU i 1) [hT (bG d 0 (aX d s.P.length) s.P.length)],zj s (ba i) [bL i,49] [bL i,50] (aX d s.P.length) (bG d 0 (aX d s.P.length) s.P.length) (cS hi) (fQ (J:=1) hi (by decide) _ (by simp[aU])) (fQ (J:=1) hi (by decide) _ (by simp[aU])) (by simp) b0 (by omega) (by omega) c0 b1 c1 (oV d 0 s.P.length (aX d s.P.length)),by rw[show bd d i=aU i 1 by simp[bd,hk,hJ]];rfl,fun M' hkp=>?_⟩
  obtain⟨N,hN⟩:∃N:Mem,N=[gO (aX d s.P.length),.cells true 1 [.str [bL i,49],.str [bL i,50]],.cells true 1 [.slice (M.length+3) 0 s.P.length none],gO (bG d 0 (aX d s.P.length) s.P.length)]:=⟨_,rfl⟩
  have en:∀(k:Nat) x,N[k]? =some x→M'[M.length+k]? =some x:=fun k x h=>hkp k x (by rw[hN] at h;simpa [gn,gO,Slot.ren,AV.rens,AV.ren,cR,cY,aU] using h)
  subst hN
  have:=Bs (N:=M') (nm:=ba i) (B:=hT (aX d s.P.length)) (U:=aU i 1) (S:=[hT (bG d 0 (aX d s.P.length) s.P.length)]) (b:=M.length) (u:=M.length+1) (o:=true) (o2:=true) (by omega) (by simp[aU]) (by have:=en 0 _ rfl;rwa [tL] at this) (en 1 _ rfl) (Ql (c:=M.length+2) (r1:=M.length+3) (o:=true) (o1:=true) (by rw[k1];exact en 2 _ rfl) (by have:=en 3 _ rfl;rwa [tL] at this) (by omega))
  rw[k0] at this
  simpa [aL,AV.rens,AV.ren,cR,aU] using this
 ·rw[show bd d i=aU i 1 by simp[bd,hk,hJ]]
  have:=gf (b0:=M.length) (new:=[gO (aX d s.P.length),.cells true 1 [.str [bL i,49],.str [bL i,50]],.cells true 1 [.slice (M.length+3) 0 s.P.length none],gO (bG d 0 (aX d s.P.length) s.P.length)]) (ba i) (.slice M.length 0 s.P.length none) (.slice (M.length+2) 0 1 none) (aU i 1) (by simp[aU]) (by simp[aU]) 1 true rfl
  simpa [aL,AV.rens,AV.ren,Slot.ren,cR,gn,gO,cY,aU] using this
 ·simp[nB,gn,gO,Slot.own,Slot.refsOk,Slot.ren,AV.rens,AV.ren,cR,AV.refsOkL,AV.refsOk,cY,pW,aU]
 ·simp[aL,AV.rens,AV.ren,cR,AV.refsOkL,AV.refsOk]
 ·simp[pu,aL,AV.rens,AV.ren,cR]
 obtain⟨N,hN⟩:∃N:Mem,N=[gO (aX d s.P.length),.cells true 1 [.str [bL i,49],.str [bL i,50]],.cells true 1 [.slice (M.length+3) 0 s.P.length none],gO (bG d 0 (aX d s.P.length) s.P.length)]:=⟨_,rfl⟩
 have en:∀(k:Nat) x,N[k]? =some x→M'[M.length+k]? =some x:=fun k x h=>hkp k x (by rw[hN] at h;simpa [gn,gO,Slot.ren,AV.rens,AV.ren,cR,cY,aU] using h)
 subst hN
 have:=jO s (ba i) [bL i,49] [bL i,50] (aX d s.P.length) (bG d 0 (aX d s.P.length) s.P.length) (cS hi) (fQ (J:=1) hi (by decide) _ (by simp[aU])) (fQ (J:=1) hi (by decide) _ (by simp[aU])) (by simp) b0 (by omega) c0 b1 c1 (oV d 0 s.P.length (aX d s.P.length)) M' p t w w' hp' ht' M.length (M.length+1) true true (en 0 _ rfl) (en 1 _ rfl) (M.length+2) (M.length+3) true true (by rw[c0];exact en 2 _ rfl) (en 3 _ rfl)
 rw[c0] at this
 simpa [shB,aL,AV.rens,AV.ren,Slot.ren,cR,gn,gO,cY,aU] using this
theorem yH(s:Sheet) (d:Deed) (hd:d.Ok) (i:Nat) (hi:i<6) (hk:d.kind%5=0) (hJ:d.K.1%3=2) (M:Mem) (p t:Nat) (o o' :Bool) (hp:M[p]? =some (.cells o 2 (pC s.P))) (ht:M[t]? =some (.cells o' 3 (tC s.T))):
  ∃ev new,ACallsTo Tryz.prog 9 [shB s p t,.agg d.cells,.int .i64 i] M (.agg ev) (M++new)∧gw s p t (bd d i) M.length new ev∧eX M.length new ev (bd d i)∧new.length≤5∧(ev.length=32∧ev[1]? =some (.str (ba i)))∧nB M new∧AV.refsOkL (fun b=>decide (b<M.length+5)) ev=true∧pu ev:=by
 have l0:=(List.getElem?_eq_some_iff.1 hp).1
 have l1:=(List.getElem?_eq_some_iff.1 ht).1
 obtain⟨hn,hl⟩:=fk s
 have h:=gL l0 l1 rfl (xJ d hd s.P.length s.T.length i hi hn hl hk hJ)
 have b0:∀z∈(aX d s.P.length),z.natAbs<1000:=fun z hz=>by have:=rk d _ z hz;omega
 have c0:((aX d s.P.length)).length=s.P.length:=cz d _
 have s1:=AQ d 0 s.P.length (aX d s.P.length) 8 (rk d s.P.length) (by simp[cz,cB])
 have b1:∀z∈(bG d 0 (aX d s.P.length) s.P.length),z.natAbs<1000:=fun z hz=>by have:=s1 z hz;omega
 have c1:((bG d 0 (aX d s.P.length) s.P.length)).length=s.P.length:=cB d _ _ _
 have s2:=AQ d 1 s.P.length (bG d 0 (aX d s.P.length) s.P.length) 11 (s1) (by simp[cz,cB])
 have b2:∀z∈(bG d 1 (bG d 0 (aX d s.P.length) s.P.length) s.P.length),z.natAbs<1000:=fun z hz=>by have:=s2 z hz;omega
 have c2:((bG d 1 (bG d 0 (aX d s.P.length) s.P.length) s.P.length)).length=s.P.length:=cB d _ _ _
 refine⟨_,_,h,⟨fun M' w w' hp' ht' hkp=>?_,?_⟩,?_,by simp[gn],⟨by rfl,by rfl⟩,?_,?_,?_⟩
 rotate_left
 ·have k0:(hT (aX d s.P.length)).length=s.P.length:=by rw[cQ];exact cz d _
  have k1:(hT (bG d 0 (aX d s.P.length) s.P.length)).length=s.P.length:=by rw[cQ];exact cB d _ _ _
  have k2:(hT (bG d 1 (bG d 0 (aX d s.P.length) s.P.length) s.P.length)).length=s.P.length:=by rw[cQ];exact cB d _ _ _
  refine⟨J6 (ba i) (hT (aX d s.P.length)) (aU i 2) [hT (bG d 0 (aX d s.P.length) s.P.length),hT (bG d 1 (bG d 0 (aX d s.P.length) s.P.length) s.P.length)],yM s (ba i) [bL i,49] [bL i,50] [bL i,51] (aX d s.P.length) (bG d 0 (aX d s.P.length) s.P.length) (bG d 1 (bG d 0 (aX d s.P.length) s.P.length) s.P.length) (cS hi) (fQ (J:=2) hi (by decide) _ (by simp[aU])) (fQ (J:=2) hi (by decide) _ (by simp[aU])) (fQ (J:=2) hi (by decide) _ (by simp[aU])) (by simp) (by simp) (by simp) b0 (by omega) (by omega) c0 b1 c1 (oV d 0 s.P.length (aX d s.P.length)) b2 c2 (oV d 1 s.P.length (bG d 0 (aX d s.P.length) s.P.length)),by rw[show bd d i=aU i 2 by simp[bd,hk,hJ]];rfl,fun M' hkp=>?_⟩
  obtain⟨N,hN⟩:∃N:Mem,N=[gO (aX d s.P.length),.cells true 1 [.str [bL i,49],.str [bL i,50],.str [bL i,51]],.cells true 1 [.slice (M.length+3) 0 s.P.length none,.slice (M.length+4) 0 s.P.length none],gO (bG d 0 (aX d s.P.length) s.P.length),gO (bG d 1 (bG d 0 (aX d s.P.length) s.P.length) s.P.length)]:=⟨_,rfl⟩
  have en:∀(k:Nat) x,N[k]? =some x→M'[M.length+k]? =some x:=fun k x h=>hkp k x (by rw[hN] at h;simpa [gn,gO,Slot.ren,AV.rens,AV.ren,cR,cY,aU] using h)
  subst hN
  have:=Bs (N:=M') (nm:=ba i) (B:=hT (aX d s.P.length)) (U:=aU i 2) (S:=[hT (bG d 0 (aX d s.P.length) s.P.length),hT (bG d 1 (bG d 0 (aX d s.P.length) s.P.length) s.P.length)]) (b:=M.length) (u:=M.length+1) (o:=true) (o2:=true) (by omega) (by simp[aU]) (by have:=en 0 _ rfl;rwa [tL] at this) (en 1 _ rfl) (Qt (c:=M.length+2) (r1:=M.length+3) (r2:=M.length+4) (o:=true) (o1:=true) (o2:=true) (by rw[k1,k2];exact en 2 _ rfl) (by have:=en 3 _ rfl;rwa [tL] at this) (by have:=en 4 _ rfl;rwa [tL] at this) (by omega) (by omega))
  rw[k0] at this
  simpa [aL,AV.rens,AV.ren,cR,aU] using this
 ·rw[show bd d i=aU i 2 by simp[bd,hk,hJ]]
  have:=gf (b0:=M.length) (new:=[gO (aX d s.P.length),.cells true 1 [.str [bL i,49],.str [bL i,50],.str [bL i,51]],.cells true 1 [.slice (M.length+3) 0 s.P.length none,.slice (M.length+4) 0 s.P.length none],gO (bG d 0 (aX d s.P.length) s.P.length),gO (bG d 1 (bG d 0 (aX d s.P.length) s.P.length) s.P.length)]) (ba i) (.slice M.length 0 s.P.length none) (.slice (M.length+2) 0 2 none) (aU i 2) (by simp[aU]) (by simp[aU]) 1 true rfl
  simpa [aL,AV.rens,AV.ren,Slot.ren,cR,gn,gO,cY,aU] using this
 ·simp[nB,gn,gO,Slot.own,Slot.refsOk,Slot.ren,AV.rens,AV.ren,cR,AV.refsOkL,AV.refsOk,cY,pW,aU]
 ·simp[aL,AV.rens,AV.ren,cR,AV.refsOkL,AV.refsOk]
 ·simp[pu,aL,AV.rens,AV.ren,cR]
 obtain⟨N,hN⟩:∃N:Mem,N=[gO (aX d s.P.length),.cells true 1 [.str [bL i,49],.str [bL i,50],.str [bL i,51]],.cells true 1 [.slice (M.length+3) 0 s.P.length none,.slice (M.length+4) 0 s.P.length none],gO (bG d 0 (aX d s.P.length) s.P.length),gO (bG d 1 (bG d 0 (aX d s.P.length) s.P.length) s.P.length)]:=⟨_,rfl⟩
 have en:∀(k:Nat) x,N[k]? =some x→M'[M.length+k]? =some x:=fun k x h=>hkp k x (by rw[hN] at h;simpa [gn,gO,Slot.ren,AV.rens,AV.ren,cR,cY,aU] using h)
 subst hN
 have:=kw s (ba i) [bL i,49] [bL i,50] [bL i,51] (aX d s.P.length) (bG d 0 (aX d s.P.length) s.P.length) (bG d 1 (bG d 0 (aX d s.P.length) s.P.length) s.P.length) (cS hi) (fQ (J:=2) hi (by decide) _ (by simp[aU])) (fQ (J:=2) hi (by decide) _ (by simp[aU])) (fQ (J:=2) hi (by decide) _ (by simp[aU])) (by simp) (by simp) (by simp) b0 (by omega) c0 b1 c1 (oV d 0 s.P.length (aX d s.P.length)) b2 c2 (oV d 1 s.P.length (bG d 0 (aX d s.P.length) s.P.length)) M' p t w w' hp' ht' M.length (M.length+1) true true (en 0 _ rfl) (en 1 _ rfl) (M.length+2) (M.length+3) (M.length+4) true true true (by rw[c0];exact en 2 _ rfl) (en 3 _ rfl) (en 4 _ rfl)
 rw[c0] at this
 simpa [shB,aL,AV.rens,AV.ren,Slot.ren,cR,gn,gO,cY,aU] using this
theorem Lw(s:Sheet) (d:Deed) (hd:d.Ok) (i:Nat) (hi:i<6) (M:Mem) (p t:Nat) (o o' :Bool) (hp:M[p]? =some (.cells o 2 (pC s.P))) (ht:M[t]? =some (.cells o' 3 (tC s.T))):
  ∃ev new,ACallsTo Tryz.prog 9 [shB s p t,.agg d.cells,.int .i64 i] M (.agg ev) (M++new)∧gw s p t (bd d i) M.length new ev∧eX M.length new ev (bd d i)∧new.length≤5∧(ev.length=32∧ev[1]? =some (.str (ba i)))∧nB M new∧AV.refsOkL (fun b=>decide (b<M.length+5)) ev=true∧pu ev:=by
 have h5:=Nat.mod_lt d.kind (show 0<5 by decide)
 have h3:=Nat.mod_lt d.K.1 (show 0<3 by decide)
 have:d.kind%5=0∨d.kind%5=1∨d.kind%5=2∨d.kind%5=3∨d.kind%5=4:=by omega
 rcases this with h | h | h | h | h
 ·have:d.K.1%3=0∨d.K.1%3=1∨d.K.1%3=2:=by omega
  rcases this with g | g | g
  ·exact xa s d hd i hi h g M p t o o' hp ht
  ·exact yw s d hd i hi h g M p t o o' hp ht
  ·exact yH s d hd i hi h g M p t o o' hp ht
 ·exact vz s d hd i hi h M p t o o' hp ht
 ·exact wS s d hd i hi h M p t o o' hp ht
 ·exact wQ s d hd i hi h M p t o o' hp ht
 ·exact xc s d hd i hi h M p t o o' hp ht
theorem BK{P:Program}{f:FuncId}{args:List AV}{m m' :Mem}{v:AV}(h:ACallsTo P f args m v m'):ACallsTo P f args m v (m' ++[.absent]):=by
 refine⟨h.1,fun base μ w Vs h0 h1 h2=>(h.2 base μ w Vs h0 h1 h2).mono ?_⟩
 rintro e w' ⟨V,v',m1,μ',he,hv,hh,hs,rfl,rfl⟩
 obtain⟨k1,k2⟩:=hh.absent (μ' 0)
 exact⟨V,_,_,_,he,hv.mono (by simp) k2.agree,k1,hs.trans (k2.mono hs.len),rfl,rfl⟩
theorem dF{P:Program}{f:FuncId}{args:List AV}{m:Mem}{v:AV}:∀(k:Nat) {m' :Mem},ACallsTo P f args m v m' →ACallsTo P f args m v (m' ++List.replicate k .absent)
 |0,m',h=>by simpa using h
 |k+1,m',h=>by
  have:=dF k (BK h)
  rwa [List.append_assoc,List.singleton_append,←List.replicate_succ] at this
theorem Hn(s:Sheet) (d:Deed) (hd:d.Ok) (i:Nat) (hi:i<6) (M:Mem) (p t:Nat) (o o' :Bool) (hp:M[p]? =some (.cells o 2 (pC s.P))) (ht:M[t]? =some (.cells o' 3 (tC s.T))):
  ∃ev x1 x2 x3 x4 x5,ACallsTo Tryz.prog 9 [shB s p t,.agg d.cells,.int .i64 i] M (.agg ev) (M++[x1,x2,x3,x4,x5])∧gw s p t (bd d i) M.length [x1,x2,x3,x4,x5] ev∧eX M.length [x1,x2,x3,x4,x5] ev (bd d i)∧(ev.length=32∧ev[1]? =some (.str (ba i)))∧nB M [x1,x2,x3,x4,x5]∧AV.refsOkL (fun b=>decide (b<M.length+5)) ev=true∧pu ev:=by
 obtain⟨ev,new,h1,h2,h3,h4,h5,h6,h7,h8⟩:=Lw s d hd i hi M p t o o' hp ht
 have e:(new++List.replicate (5-new.length) Slot.absent).length=5:=by simp;omega
 have g1:=dF (5-new.length) h1
 rw[List.append_assoc] at g1
 have hk:∀M',Keeps M.length (new++List.replicate (5-new.length) Slot.absent) M' →Keeps M.length new M' :=fun M' c k x hx=>c k x (by rw[List.getElem?_append_left (List.getElem?_eq_some_iff.1 hx).1];exact hx)
 have g2:gw s p t (bd d i) M.length (new++List.replicate (5-new.length) Slot.absent) ev:=by
  obtain⟨h2,cc,ho,hu,hx⟩:=h2
  exact⟨fun M' w w' a b c=>h2 M' w w' a b (hk M' c),cc,ho,hu,fun M' c=>hx M' (hk M' c)⟩
 have g3:eX M.length (new++List.replicate (5-new.length) Slot.absent) ev (bd d i):=fun M' c=>
  h3 M' fun k x hx=>c k x (by rw[List.getElem?_append_left (List.getElem?_eq_some_iff.1 hx).1];exact hx)
 have g4:nB M (new++List.replicate (5-new.length) Slot.absent):=by
  unfold nB at h6 ⊢
  rw[List.all_append,h6,Bool.true_and,List.all_eq_true]
  intro x hx
  rw[List.eq_of_mem_replicate hx]
  rfl
 obtain⟨N,hN⟩:∃N,N=new++List.replicate (5-new.length) Slot.absent:=⟨_,rfl⟩
 rw[←hN] at e g1 g2 g3 g4
 match N,e,g1,g2,g3,g4 with
 | [x1,x2,x3,x4,x5],_,g1,g2,g3,g4=>exact⟨ev,x1,x2,x3,x4,x5,g1,g2,g3,h5,g4,h7,h8⟩
end Go.Proofs
