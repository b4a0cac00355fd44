/- See P53. -/
import Derived.Test.YtmhkeaphiadacaaGreatDoorP32
import Derived.Test.YtmhkeaphiadacaaGreatDoorP33
set_option linter.all false
namespace Go.Proofs
open Go.Eng
open Tryz
theorem iO(s:aaf):0<s.P.length∧s.P.length≤1000:=by
 have h:∀k<8,0<(cD k).length∧(cD k).length≤1000:=by decide
 have:=h (s.kind%8) (Nat.mod_lt _ (by decide));unfold aaf.P
 rwa [List.length_map]
theorem fU{m n:Nat}{v:Z3}(h:gm m v)(hmn:m≤n):gm n v:=by obtain⟨h1,h2,h3⟩:=h;exact⟨by omega,by omega,by omega⟩
theorem Oa(d:aao)(j k:Nat):0≤K0 d j k∧K0 d j k≤3:=by unfold K0;have:=Nat.mod_lt (Lg d.K ((j+k)%4)) (show 0<4 by decide);omega
theorem va(d:aao)(n:Nat):∀z∈bw d n,z.natAbs≤8:=by intro z hz;simp only[bw,List.mem_map] at hz;obtain⟨k,_,rfl⟩:=hz;exact zj k
theorem FU(d:aao)(j n:Nat)(L:List Int)(m:Nat)(hL:∀z∈L,z.natAbs≤m)(hn:n≤L.length):∀z∈cd d j L n,z.natAbs≤m+3:=by
 intro z hz;simp only[cd,List.mem_map,List.mem_range] at hz;obtain⟨k,hk,rfl⟩:=hz;have h1:=Oa d j k;have h2:L.getD k 0∈L:=by rw[List.getD_eq_getElem?_getD,List.getElem?_eq_getElem (by omega)];exact List.getElem_mem _
 have:=hL _ h2;omega
theorem se(d:aao)(j n:Nat)(L:List Int):∀(i:Nat) z y,L[i]? =some z→(cd d j L n)[i]? =some y→z≤y:=by
 intro i z y hz hy;have h1:=Oa d j i;simp only[cd,List.getElem?_map,Option.map_eq_some_iff] at hy;obtain⟨k,hk,rfl⟩:=hy;have e:k=i:=by rw[List.getElem?_eq_some_iff] at hk;obtain⟨_,h⟩:=hk;rw[List.getElem_range] at h;exact h.symm
 subst e;rw[List.getD_eq_getElem?_getD,hz];simp only[Option.getD_some];omega
theorem hN5(n:Int):(n.tmod 5).natAbs≤1000:=by have: -5<n.tmod 5∧n.tmod 5<5:=ru n 5 (by decide);omega
def shB(s:aaf) (p t:Nat):AV:=.agg [.slice p 0 s.P.length none,.slice t 0 s.T.length none]
def Sx(s:aaf) (U:List (List UInt8)) (b:Nat) (new:Mem) (ev:List AV):Prop:=∃c:Evc,Tryz.Good s c∧unE c=U∧∀M',aaz b new M' →aaI M' ev c
def iJ(s:aaf) (p t:Nat) (U:List (List UInt8)) (b:Nat) (new:Mem) (ev:List AV):Prop:=(∀(M' :Mem) (o o' :Bool),M'[p]? =some (.cells o 2 (pC s.P))→M'[t]? =some (.cells o' 3 (tC s.T))→aaz b new M' →mB prog 43 [shB s p t,.agg ev] M' (.int .i64 0) M')∧Sx s U b new ev
theorem iY{s:aaf}{d:aao}{i:Nat}{ev:List AV}{new M:Mem}{p t:Nat}(hp:p<M.length)(ht:t<M.length)(hn:new.all (fun s=>s.own||match s with | .qF=>true | _=>false)=true)(h:mB prog 9 [.agg [.slice 0 0 s.P.length none,.slice 1 0 s.T.length none],.agg d.cells,.int .i64 i] [.qF,.qF] (.agg ev) ([.qF,.qF]++new)):
  mB prog 9 [shB s p t,.agg d.cells,.int .i64 i] M (.agg (AV.aal (dr [p,t] M.length) ev)) (M++new.map (aae.ren (dr [p,t] M.length))):=by
 have:=mB.frame (M:=M) (new:=new) [p,t] rfl (by simp[hp,ht]) (by rfl) (fun i q hs=>by
  match i with
  |0=>simp at hs;subst hs;trivial
  |1=>simp at hs;subst hs;trivial
  |i+2=>simp at hs) hn h
 simpa [shB,AV.aal,AV.ren,dr,aao.cells] using this
section
variable (s:aaf)(d:aao)(hd:d.Ok)(i:Nat)(hi:i<6)
include s d hd i hi
theorem yD(hk:d.kind%5=1)(M:Mem)(p t:Nat)(o o' :Bool)(hp:M[p]? =some (.cells o 2 (pC s.P)))(ht:M[t]? =some (.cells o' 3 (tC s.T))):
  ∃ev new,mB prog 9 [shB s p t,.agg d.cells,.int .i64 i] M (.agg ev) (M++new)∧iJ s p t (bI d i) M.length new ev∧fZ M.length new ev (bI d i)∧new.length≤5∧(ev.length=32∧ev[1]? =some (.str (bF i)))∧po M new∧AV.aaa (fun b=>decide (b<M.length+5)) ev=true∧sn ev:=by
 have l0:=(List.getElem?_eq_some_iff.1 hp).1;have l1:=(List.getElem?_eq_some_iff.1 ht).1;obtain⟨hn,hl⟩:=iO s;have h:=iY l0 l1 rfl (yi d hd s.P.length s.T.length i hi hn hl hk);refine⟨_,_,h,⟨fun M' w w' Zg XX XI=>?_,?_⟩,?_,by simp,⟨by rfl,by rfl⟩,?_,?_,?_⟩
 rotate_left
 ·exact⟨AR (bF i) (bE d.A) (d.N.tmod 5) (dQ (bE d.A) (sG d.B)),Aq s (bF i) (bE d.A) (d.N.tmod 5) (dQ (bE d.A) (sG d.B)) (dK hi) (fU (dj _) (by decide)) (jU _) (hN5 d.N) (fU (rQ (dj d.A) (iw d.B)) (by decide)) (rV _ _),by rw[show bI d i=[] by simp[bI,hk]];rfl,fun M' _=>ve (by simp[cX,AR,Evc.cells,AV.aal,AV.ren]) rfl rfl rfl rfl⟩
 ·rw[show bI d i=[] by simp[bI,hk]]
  refine qw fun M=>?_
  simpa [cX,AV.aal,AV.ren] using mF (bF i) (bE d.A) (d.N.tmod 5) (dQ (bE d.A) (sG d.B)) M
 ·simp[po,aae.own,aae.HK]
 ·simp[cX,AV.aal,AV.ren,AV.aaa,AV.HK]
 ·simp[sn,cX,AV.aal,AV.ren]
 have h5: -5<d.N.tmod 5∧d.N.tmod 5<5:=ru d.N 5 (by decide);have hz:=rQ (dj d.A) (iw d.B);have:=jZ s (bF i) (bE d.A) (d.N.tmod 5) (dQ (bE d.A) (sG d.B)) (dK hi) (fU (dj _) (by decide)) (jU _) (by omega) (fU hz (by decide)) (rV _ _) M' p t w w' Zg XX;simpa [shB,cX,AV.aal,AV.ren] using this
theorem Ac(hk:d.kind%5=3)(M:Mem)(p t:Nat)(o o' :Bool)(hp:M[p]? =some (.cells o 2 (pC s.P)))(ht:M[t]? =some (.cells o' 3 (tC s.T))):
  ∃ev new,mB prog 9 [shB s p t,.agg d.cells,.int .i64 i] M (.agg ev) (M++new)∧iJ s p t (bI d i) M.length new ev∧fZ M.length new ev (bI d i)∧new.length≤5∧(ev.length=32∧ev[1]? =some (.str (bF i)))∧po M new∧AV.aaa (fun b=>decide (b<M.length+5)) ev=true∧sn ev:=by
 have l0:=(List.getElem?_eq_some_iff.1 hp).1;have l1:=(List.getElem?_eq_some_iff.1 ht).1;obtain⟨hn,hl⟩:=iO s;have h:=iY l0 l1 rfl (zC d hd s.P.length s.T.length i hi hn hl hk);refine⟨_,_,h,⟨fun M' w w' Zg XX XI=>?_,?_⟩,?_,by simp,⟨by rfl,by rfl⟩,?_,?_,?_⟩
 rotate_left
 ·exact⟨PH (bF i) (bE d.A) (d.N.tmod 5) (1+(d.K.1%4:Nat)) (ik i),Cg s (bF i) (bE d.A) (d.N.tmod 5) (1+(d.K.1%4:Nat)) (ik i) (dK hi) (fU (dj _) (by decide)) (jU _) (hN5 d.N) (by have:=Nat.mod_lt d.K.1 (show 0<4 by decide);omega) (by have:=Nat.mod_lt d.K.1 (show 0<4 by decide);omega) (xA hi),by rw[show bI d i=[ik i] by simp[bI,hk]];rfl,fun M' _=>ve (by simp[dG,PH,Evc.cells,AV.aal,AV.ren]) rfl rfl rfl rfl⟩
 ·rw[show bI d i=[ik i] by simp[bI,hk]]
  simpa [dG,AV.aal,AV.ren] using uV (b:=M.length) (new:=[]) (bF i) (bE d.A) (d.N.tmod 5) (1+(d.K.1%4:Nat)) (ik i)
 ·simp[po,aae.own,aae.HK]
 ·simp[dG,AV.aal,AV.ren,AV.aaa,AV.HK]
 ·simp[sn,dG,AV.aal,AV.ren]
 have h5: -5<d.N.tmod 5∧d.N.tmod 5<5:=ru d.N 5 (by decide);have h4:=Nat.mod_lt d.K.1 (show 0<4 by decide);have:=ly s (bF i) (bE d.A) (d.N.tmod 5) (1+(d.K.1%4:Nat)) (ik i) (dK hi) (fU (dj _) (by decide)) (jU _) (by omega) (by omega) (by omega) (xA hi) M' p t w w' Zg XX;simpa [shB,dG,AV.aal,AV.ren] using this
theorem Ae(hk:d.kind%5=4)(M:Mem)(p t:Nat)(o o' :Bool)(hp:M[p]? =some (.cells o 2 (pC s.P)))(ht:M[t]? =some (.cells o' 3 (tC s.T))):
  ∃ev new,mB prog 9 [shB s p t,.agg d.cells,.int .i64 i] M (.agg ev) (M++new)∧iJ s p t (bI d i) M.length new ev∧fZ M.length new ev (bI d i)∧new.length≤5∧(ev.length=32∧ev[1]? =some (.str (bF i)))∧po M new∧AV.aaa (fun b=>decide (b<M.length+5)) ev=true∧sn ev:=by
 have l0:=(List.getElem?_eq_some_iff.1 hp).1;have l1:=(List.getElem?_eq_some_iff.1 ht).1;obtain⟨hn,hl⟩:=iO s;have h:=iY l0 l1 rfl (zE d hd s.P.length s.T.length i hi hn hl hk);refine⟨_,_,h,⟨fun M' w w' Zg XX XI=>?_,?_⟩,?_,by simp,⟨by rfl,by rfl⟩,?_,?_,?_⟩
 rotate_left
 ·exact⟨J7 (bF i) (fk (d.K.1%6)) (sG d.B),sB s _ _ _ (dK hi) (fU (iw _) (by decide)),by rw[show bI d i=[] by simp[bI,hk]];rfl,fun M' _=>ve (by simp[dZ,J7,Evc.cells,AV.aal,AV.ren]) rfl rfl rfl rfl⟩
 ·rw[show bI d i=[] by simp[bI,hk]]
  refine qw fun M=>?_
  simpa [dZ,AV.aal,AV.ren] using oY (bF i) (fk (d.K.1%6)) (sG d.B) M
 ·simp[po,aae.own,aae.HK]
 ·simp[dZ,AV.aal,AV.ren,AV.aaa,AV.HK]
 ·simp[sn,dZ,AV.aal,AV.ren]
 have:=lA s (bF i) (d.K.1%6) (sG d.B) (dK hi) (fU (iw _) (by decide)) M' p t w w' Zg XX;simpa [shB,dZ,AV.aal,AV.ren] using this
theorem Ad(hk:d.kind%5=2)(M:Mem)(p t:Nat)(o o' :Bool)(hp:M[p]? =some (.cells o 2 (pC s.P)))(ht:M[t]? =some (.cells o' 3 (tC s.T))):
  ∃ev new,mB prog 9 [shB s p t,.agg d.cells,.int .i64 i] M (.agg ev) (M++new)∧iJ s p t (bI d i) M.length new ev∧fZ M.length new ev (bI d i)∧new.length≤5∧(ev.length=32∧ev[1]? =some (.str (bF i)))∧po M new∧AV.aaa (fun b=>decide (b<M.length+5)) ev=true∧sn ev:=by
 have l0:=(List.getElem?_eq_some_iff.1 hp).1;have l1:=(List.getElem?_eq_some_iff.1 ht).1;obtain⟨hn,hl⟩:=iO s;have h3:=Nat.mod_lt d.K.1 (show 0<3 by decide);have h:=iY l0 l1 rfl (zD d hd s.P.length s.T.length i hi hn hl hk);refine⟨_,_,h,⟨fun M' w w' Zg XX XI=>?_,?_⟩,?_,by simp,⟨by rfl,by rfl⟩,?_,?_,?_⟩
 rotate_left
 ·refine⟨MP (bF i) (bE d.A) (kT (cU d (1+d.K.1%3))) (dQ (bE d.A) (sG d.B)),Ch s _ _ _ d _ (by omega) (by omega) (dK hi) (fU (dj _) (by decide)) (jU _) (fU (rQ (dj d.A) (iw d.B)) (by decide)) (rV _ _),by rw[show bI d i=[] by simp[bI,hk]];rfl,fun M' XI=>?_⟩
  have:=Rx (N:=M') (nm:=bF i) (n:=bE d.A) (s:=dQ (bE d.A) (sG d.B)) (L:=cU d (1+d.K.1%3)) (b:=M.length) (o:=true) (by rw[fL];omega) (by have:=XI 0 _ rfl;simpa [aae.ren,cz] using this);rw[fL] at this;simpa [cb,AV.aal,AV.ren,dr] using this
 ·rw[show bI d i=[] by simp[bI,hk]]
  refine qw fun M' =>?_
  simpa [cb,AV.aal,AV.ren,dr] using oW (bF i) (bE d.A) (dQ (bE d.A) (sG d.B)) (.slice M.length 0 (1+d.K.1%3) none) M'
 ·simp[po,aae.own,aae.HK,aae.ren,cz,oI]
 ·simp[cb,AV.aal,AV.ren,dr,AV.aaa,AV.HK]
 ·simp[sn,cb,AV.aal,AV.ren,dr]
 have hz:=rQ (dj d.A) (iw d.B);have:=lz s (bF i) (bE d.A) (dQ (bE d.A) (sG d.B)) d (1+d.K.1%3) (by omega) (by omega) (dK hi) (fU (dj _) (by decide)) (jU _) (fU hz (by decide)) (rV _ _) M' p t w w' Zg XX M.length true (by have:=XI 0 _ rfl;simpa [aae.ren,cz] using this);simpa [shB,cb,AV.aal,AV.ren,aae.ren,dr,cz] using this
theorem z8(hk:d.kind%5=0)(hJ:d.K.1%3=0)(M:Mem)(p t:Nat)(o o' :Bool)(hp:M[p]? =some (.cells o 2 (pC s.P)))(ht:M[t]? =some (.cells o' 3 (tC s.T))):
  ∃ev new,mB prog 9 [shB s p t,.agg d.cells,.int .i64 i] M (.agg ev) (M++new)∧iJ s p t (bI d i) M.length new ev∧fZ M.length new ev (bI d i)∧new.length≤5∧(ev.length=32∧ev[1]? =some (.str (bF i)))∧po M new∧AV.aaa (fun b=>decide (b<M.length+5)) ev=true∧sn ev:=by
 have l0:=(List.getElem?_eq_some_iff.1 hp).1;have l1:=(List.getElem?_eq_some_iff.1 ht).1;obtain⟨hn,hl⟩:=iO s;have h:=iY l0 l1 rfl (zy d hd s.P.length s.T.length i hi hn hl hk hJ);have b0:∀z∈(bw d s.P.length),z.natAbs<1000:=fun z hz=>by have:=va d _ z hz;omega
 have c0:((bw d s.P.length)).length=s.P.length:=dF d _;refine⟨_,_,h,⟨fun M' w w' Zg XX XI=>?_,?_⟩,?_,by simp[iH],⟨by rfl,by rfl⟩,?_,?_,?_⟩
 rotate_left
 ·have k0:(hT (bw d s.P.length)).length=s.P.length:=by rw[dh];exact dF d _
  refine⟨Fm (bF i) (hT (bw d s.P.length)) (bp i 0) [],Cd s (bF i) [cg i,49] (bw d s.P.length) (dK hi) (im (J:=0) hi (by decide) _ (by simp[bp]))  b0 (by omega) (by omega) c0 ,by rw[show bI d i=bp i 0 by simp[bI,hk,hJ]];rfl,fun M' XI=>?_⟩;obtain⟨N,hN⟩:∃N:Mem,N=[jm (bw d s.P.length),.cells true 1 [.str [cg i,49]]]:=⟨_,rfl⟩
  have en:∀(k:Nat) x,N[k]? =some x→M'[M.length+k]? =some x:=fun k x h=>XI k x (by rw[hN] at h;simpa [iH,jm,aae.ren,AV.aal,AV.ren,dr,eG,bp] using h)
  subst hN;have:=Fv (N:=M') (nm:=bF i) (B:=hT (bw d s.P.length)) (U:=bp i 0) (S:=[]) (b:=M.length) (u:=M.length+1) (o:=true) (o2:=true) (by omega) (by simp[bp]) (by have:=en 0 _ rfl;rwa [wH] at this) (en 1 _ rfl) (FR M');rw[k0] at this;simpa [aZ,AV.aal,AV.ren,dr,bp] using this
 ·rw[show bI d i=bp i 0 by simp[bI,hk,hJ]]
  have:=iB (b0:=M.length) (new:=[jm (bw d s.P.length),.cells true 1 [.str [cg i,49]]]) (bF i) (.slice M.length 0 s.P.length none) (.kO) (bp i 0) (by simp[bp]) (by simp[bp]) 1 true rfl;simpa [aZ,AV.aal,AV.ren,aae.ren,dr,iH,jm,eG,bp] using this
 ·simp[po,iH,jm,aae.own,aae.HK,aae.ren,AV.aal,AV.ren,AV.aaa,AV.HK,eG,KK,bp]
 ·simp[aZ,AV.aal,AV.ren,dr,AV.aaa,AV.HK]
 ·simp[sn,aZ,AV.aal,AV.ren,dr]
 obtain⟨N,hN⟩:∃N:Mem,N=[jm (bw d s.P.length),.cells true 1 [.str [cg i,49]]]:=⟨_,rfl⟩
 have en:∀(k:Nat) x,N[k]? =some x→M'[M.length+k]? =some x:=fun k x h=>XI k x (by rw[hN] at h;simpa [iH,jm,aae.ren,AV.aal,AV.ren,dr,eG,bp] using h)
 subst hN;have:=lh s (bF i) [cg i,49] (bw d s.P.length) (dK hi) (im (J:=0) hi (by decide) _ (by simp[bp]))  b0 (by omega) c0  M' p t w w' Zg XX M.length (M.length+1) true true (en 0 _ rfl) (en 1 _ rfl);rw[c0] at this;simpa [shB,aZ,AV.aal,AV.ren,aae.ren,dr,iH,jm,eG,bp] using this
theorem Aa(hk:d.kind%5=0)(hJ:d.K.1%3=1)(M:Mem)(p t:Nat)(o o' :Bool)(hp:M[p]? =some (.cells o 2 (pC s.P)))(ht:M[t]? =some (.cells o' 3 (tC s.T))):
  ∃ev new,mB prog 9 [shB s p t,.agg d.cells,.int .i64 i] M (.agg ev) (M++new)∧iJ s p t (bI d i) M.length new ev∧fZ M.length new ev (bI d i)∧new.length≤5∧(ev.length=32∧ev[1]? =some (.str (bF i)))∧po M new∧AV.aaa (fun b=>decide (b<M.length+5)) ev=true∧sn ev:=by
 have l0:=(List.getElem?_eq_some_iff.1 hp).1;have l1:=(List.getElem?_eq_some_iff.1 ht).1;obtain⟨hn,hl⟩:=iO s;have h:=iY l0 l1 rfl (zz d hd s.P.length s.T.length i hi hn hl hk hJ);have b0:∀z∈(bw d s.P.length),z.natAbs<1000:=fun z hz=>by have:=va d _ z hz;omega
 have c0:((bw d s.P.length)).length=s.P.length:=dF d _;have s1:=FU d 0 s.P.length (bw d s.P.length) 8 (va d s.P.length) (by simp[dF]);have b1:∀z∈(cd d 0 (bw d s.P.length) s.P.length),z.natAbs<1000:=fun z hz=>by have:=s1 z hz;omega
 have c1:((cd d 0 (bw d s.P.length) s.P.length)).length=s.P.length:=ed d _ _ _;refine⟨_,_,h,⟨fun M' w w' Zg XX XI=>?_,?_⟩,?_,by simp[iH],⟨by rfl,by rfl⟩,?_,?_,?_⟩
 rotate_left
 ·have k0:(hT (bw d s.P.length)).length=s.P.length:=by rw[dh];exact dF d _
  have k1:(hT (cd d 0 (bw d s.P.length) s.P.length)).length=s.P.length:=by rw[dh];exact ed d _ _ _
  refine⟨Fm (bF i) (hT (bw d s.P.length)) (bp i 1) [hT (cd d 0 (bw d s.P.length) s.P.length)],Ce s (bF i) [cg i,49] [cg i,50] (bw d s.P.length) (cd d 0 (bw d s.P.length) s.P.length) (dK hi) (im (J:=1) hi (by decide) _ (by simp[bp])) (im (J:=1) hi (by decide) _ (by simp[bp])) (by simp) b0 (by omega) (by omega) c0 b1 c1 (se d 0 s.P.length (bw d s.P.length)),by rw[show bI d i=bp i 1 by simp[bI,hk,hJ]];rfl,fun M' XI=>?_⟩;obtain⟨N,hN⟩:∃N:Mem,N=[jm (bw d s.P.length),.cells true 1 [.str [cg i,49],.str [cg i,50]],.cells true 1 [.slice (M.length+3) 0 s.P.length none],jm (cd d 0 (bw d s.P.length) s.P.length)]:=⟨_,rfl⟩
  have en:∀(k:Nat) x,N[k]? =some x→M'[M.length+k]? =some x:=fun k x h=>XI k x (by rw[hN] at h;simpa [iH,jm,aae.ren,AV.aal,AV.ren,dr,eG,bp] using h)
  subst hN;have:=Fv (N:=M') (nm:=bF i) (B:=hT (bw d s.P.length)) (U:=bp i 1) (S:=[hT (cd d 0 (bw d s.P.length) s.P.length)]) (b:=M.length) (u:=M.length+1) (o:=true) (o2:=true) (by omega) (by simp[bp]) (by have:=en 0 _ rfl;rwa [wH] at this) (en 1 _ rfl) (VQ (c:=M.length+2) (r1:=M.length+3) (o:=true) (o1:=true) (by rw[k1];exact en 2 _ rfl) (by have:=en 3 _ rfl;rwa [wH] at this) (by omega));rw[k0] at this;simpa [aZ,AV.aal,AV.ren,dr,bp] using this
 ·rw[show bI d i=bp i 1 by simp[bI,hk,hJ]]
  have:=iB (b0:=M.length) (new:=[jm (bw d s.P.length),.cells true 1 [.str [cg i,49],.str [cg i,50]],.cells true 1 [.slice (M.length+3) 0 s.P.length none],jm (cd d 0 (bw d s.P.length) s.P.length)]) (bF i) (.slice M.length 0 s.P.length none) (.slice (M.length+2) 0 1 none) (bp i 1) (by simp[bp]) (by simp[bp]) 1 true rfl;simpa [aZ,AV.aal,AV.ren,aae.ren,dr,iH,jm,eG,bp] using this
 ·simp[po,iH,jm,aae.own,aae.HK,aae.ren,AV.aal,AV.ren,dr,AV.aaa,AV.HK,eG,KK,bp]
 ·simp[aZ,AV.aal,AV.ren,dr,AV.aaa,AV.HK]
 ·simp[sn,aZ,AV.aal,AV.ren,dr]
 obtain⟨N,hN⟩:∃N:Mem,N=[jm (bw d s.P.length),.cells true 1 [.str [cg i,49],.str [cg i,50]],.cells true 1 [.slice (M.length+3) 0 s.P.length none],jm (cd d 0 (bw d s.P.length) s.P.length)]:=⟨_,rfl⟩
 have en:∀(k:Nat) x,N[k]? =some x→M'[M.length+k]? =some x:=fun k x h=>XI k x (by rw[hN] at h;simpa [iH,jm,aae.ren,AV.aal,AV.ren,dr,eG,bp] using h)
 subst hN;have:=lk s (bF i) [cg i,49] [cg i,50] (bw d s.P.length) (cd d 0 (bw d s.P.length) s.P.length) (dK hi) (im (J:=1) hi (by decide) _ (by simp[bp])) (im (J:=1) hi (by decide) _ (by simp[bp])) (by simp) b0 (by omega) c0 b1 c1 (se d 0 s.P.length (bw d s.P.length)) M' p t w w' Zg XX M.length (M.length+1) true true (en 0 _ rfl) (en 1 _ rfl) (M.length+2) (M.length+3) true true (by rw[c0];exact en 2 _ rfl) (en 3 _ rfl);rw[c0] at this;simpa [shB,aZ,AV.aal,AV.ren,aae.ren,dr,iH,jm,eG,bp] using this
theorem Ab(hk:d.kind%5=0)(hJ:d.K.1%3=2)(M:Mem)(p t:Nat)(o o' :Bool)(hp:M[p]? =some (.cells o 2 (pC s.P)))(ht:M[t]? =some (.cells o' 3 (tC s.T))):
  ∃ev new,mB prog 9 [shB s p t,.agg d.cells,.int .i64 i] M (.agg ev) (M++new)∧iJ s p t (bI d i) M.length new ev∧fZ M.length new ev (bI d i)∧new.length≤5∧(ev.length=32∧ev[1]? =some (.str (bF i)))∧po M new∧AV.aaa (fun b=>decide (b<M.length+5)) ev=true∧sn ev:=by
 have l0:=(List.getElem?_eq_some_iff.1 hp).1;have l1:=(List.getElem?_eq_some_iff.1 ht).1;obtain⟨hn,hl⟩:=iO s;have h:=iY l0 l1 rfl (zB d hd s.P.length s.T.length i hi hn hl hk hJ);have b0:∀z∈(bw d s.P.length),z.natAbs<1000:=fun z hz=>by have:=va d _ z hz;omega
 have c0:((bw d s.P.length)).length=s.P.length:=dF d _;have s1:=FU d 0 s.P.length (bw d s.P.length) 8 (va d s.P.length) (by simp[dF]);have b1:∀z∈(cd d 0 (bw d s.P.length) s.P.length),z.natAbs<1000:=fun z hz=>by have:=s1 z hz;omega
 have c1:((cd d 0 (bw d s.P.length) s.P.length)).length=s.P.length:=ed d _ _ _;have s2:=FU d 1 s.P.length (cd d 0 (bw d s.P.length) s.P.length) 11 (s1) (by simp[ed]);have b2:∀z∈(cd d 1 (cd d 0 (bw d s.P.length) s.P.length) s.P.length),z.natAbs<1000:=fun z hz=>by have:=s2 z hz;omega
 have c2:((cd d 1 (cd d 0 (bw d s.P.length) s.P.length) s.P.length)).length=s.P.length:=ed d _ _ _;refine⟨_,_,h,⟨fun M' w w' Zg XX XI=>?_,?_⟩,?_,by simp[iH],⟨by rfl,by rfl⟩,?_,?_,?_⟩
 rotate_left
 ·have k0:(hT (bw d s.P.length)).length=s.P.length:=by rw[dh];exact dF d _
  have k1:(hT (cd d 0 (bw d s.P.length) s.P.length)).length=s.P.length:=by rw[dh];exact ed d _ _ _
  have k2:(hT (cd d 1 (cd d 0 (bw d s.P.length) s.P.length) s.P.length)).length=s.P.length:=by rw[dh];exact ed d _ _ _
  refine⟨Fm (bF i) (hT (bw d s.P.length)) (bp i 2) [hT (cd d 0 (bw d s.P.length) s.P.length),hT (cd d 1 (cd d 0 (bw d s.P.length) s.P.length) s.P.length)],Cf s (bF i) [cg i,49] [cg i,50] [cg i,51] (bw d s.P.length) (cd d 0 (bw d s.P.length) s.P.length) (cd d 1 (cd d 0 (bw d s.P.length) s.P.length) s.P.length) (dK hi) (im (J:=2) hi (by decide) _ (by simp[bp])) (im (J:=2) hi (by decide) _ (by simp[bp])) (im (J:=2) hi (by decide) _ (by simp[bp])) (by simp) (by simp) (by simp) b0 (by omega) (by omega) c0 b1 c1 (se d 0 s.P.length (bw d s.P.length)) b2 c2 (se d 1 s.P.length (cd d 0 (bw d s.P.length) s.P.length)),by rw[show bI d i=bp i 2 by simp[bI,hk,hJ]];rfl,fun M' XI=>?_⟩;obtain⟨N,hN⟩:∃N:Mem,N=[jm (bw d s.P.length),.cells true 1 [.str [cg i,49],.str [cg i,50],.str [cg i,51]],.cells true 1 [.slice (M.length+3) 0 s.P.length none,.slice (M.length+4) 0 s.P.length none],jm (cd d 0 (bw d s.P.length) s.P.length),jm (cd d 1 (cd d 0 (bw d s.P.length) s.P.length) s.P.length)]:=⟨_,rfl⟩
  have en:∀(k:Nat) x,N[k]? =some x→M'[M.length+k]? =some x:=fun k x h=>XI k x (by rw[hN] at h;simpa [iH,jm,aae.ren,AV.aal,AV.ren,dr,eG,bp] using h)
  subst hN;have:=Fv (N:=M') (nm:=bF i) (B:=hT (bw d s.P.length)) (U:=bp i 2) (S:=[hT (cd d 0 (bw d s.P.length) s.P.length),hT (cd d 1 (cd d 0 (bw d s.P.length) s.P.length) s.P.length)]) (b:=M.length) (u:=M.length+1) (o:=true) (o2:=true) (by omega) (by simp[bp]) (by have:=en 0 _ rfl;rwa [wH] at this) (en 1 _ rfl) (VR (c:=M.length+2) (r1:=M.length+3) (r2:=M.length+4) (o:=true) (o1:=true) (o2:=true) (by rw[k1,k2];exact en 2 _ rfl) (by have:=en 3 _ rfl;rwa [wH] at this) (by have:=en 4 _ rfl;rwa [wH] at this) (by omega) (by omega));rw[k0] at this;simpa [aZ,AV.aal,AV.ren,dr,bp] using this
 ·rw[show bI d i=bp i 2 by simp[bI,hk,hJ]]
  have:=iB (b0:=M.length) (new:=[jm (bw d s.P.length),.cells true 1 [.str [cg i,49],.str [cg i,50],.str [cg i,51]],.cells true 1 [.slice (M.length+3) 0 s.P.length none,.slice (M.length+4) 0 s.P.length none],jm (cd d 0 (bw d s.P.length) s.P.length),jm (cd d 1 (cd d 0 (bw d s.P.length) s.P.length) s.P.length)]) (bF i) (.slice M.length 0 s.P.length none) (.slice (M.length+2) 0 2 none) (bp i 2) (by simp[bp]) (by simp[bp]) 1 true rfl;simpa [aZ,AV.aal,AV.ren,aae.ren,dr,iH,jm,eG,bp] using this
 ·simp[po,iH,jm,aae.own,aae.HK,aae.ren,AV.aal,AV.ren,dr,AV.aaa,AV.HK,eG,KK,bp]
 ·simp[aZ,AV.aal,AV.ren,dr,AV.aaa,AV.HK]
 ·simp[sn,aZ,AV.aal,AV.ren,dr]
 obtain⟨N,hN⟩:∃N:Mem,N=[jm (bw d s.P.length),.cells true 1 [.str [cg i,49],.str [cg i,50],.str [cg i,51]],.cells true 1 [.slice (M.length+3) 0 s.P.length none,.slice (M.length+4) 0 s.P.length none],jm (cd d 0 (bw d s.P.length) s.P.length),jm (cd d 1 (cd d 0 (bw d s.P.length) s.P.length) s.P.length)]:=⟨_,rfl⟩
 have en:∀(k:Nat) x,N[k]? =some x→M'[M.length+k]? =some x:=fun k x h=>XI k x (by rw[hN] at h;simpa [iH,jm,aae.ren,AV.aal,AV.ren,dr,eG,bp] using h)
 subst hN;have:=lr s (bF i) [cg i,49] [cg i,50] [cg i,51] (bw d s.P.length) (cd d 0 (bw d s.P.length) s.P.length) (cd d 1 (cd d 0 (bw d s.P.length) s.P.length) s.P.length) (dK hi) (im (J:=2) hi (by decide) _ (by simp[bp])) (im (J:=2) hi (by decide) _ (by simp[bp])) (im (J:=2) hi (by decide) _ (by simp[bp])) (by simp) (by simp) (by simp) b0 (by omega) c0 b1 c1 (se d 0 s.P.length (bw d s.P.length)) b2 c2 (se d 1 s.P.length (cd d 0 (bw d s.P.length) s.P.length)) M' p t w w' Zg XX M.length (M.length+1) true true (en 0 _ rfl) (en 1 _ rfl) (M.length+2) (M.length+3) (M.length+4) true true true (by rw[c0];exact en 2 _ rfl) (en 3 _ rfl) (en 4 _ rfl);rw[c0] at this;simpa [shB,aZ,AV.aal,AV.ren,aae.ren,dr,iH,jm,eG,bp] using this
theorem OH(M:Mem)(p t:Nat)(o o' :Bool)(hp:M[p]? =some (.cells o 2 (pC s.P)))(ht:M[t]? =some (.cells o' 3 (tC s.T))):
  ∃ev new,mB prog 9 [shB s p t,.agg d.cells,.int .i64 i] M (.agg ev) (M++new)∧iJ s p t (bI d i) M.length new ev∧fZ M.length new ev (bI d i)∧new.length≤5∧(ev.length=32∧ev[1]? =some (.str (bF i)))∧po M new∧AV.aaa (fun b=>decide (b<M.length+5)) ev=true∧sn ev:=by
 have h5:=Nat.mod_lt d.kind (show 0<5 by decide);have h3:=Nat.mod_lt d.K.1 (show 0<3 by decide);have:d.kind%5=0∨d.kind%5=1∨d.kind%5=2∨d.kind%5=3∨d.kind%5=4:=by omega
 rcases this with h | h | h | h | h
 ·have:d.K.1%3=0∨d.K.1%3=1∨d.K.1%3=2:=by omega
  rcases this with g | g | g
  ·exact z8 s d hd i hi h g M p t o o' hp ht
  ·exact Aa s d hd i hi h g M p t o o' hp ht
  ·exact Ab s d hd i hi h g M p t o o' hp ht
 ·exact yD s d hd i hi h M p t o o' hp ht
 ·exact Ad s d hd i hi h M p t o o' hp ht
 ·exact Ac s d hd i hi h M p t o o' hp ht
 ·exact Ae s d hd i hi h M p t o o' hp ht
end
theorem Fg{P:Program}{f:FuncId}{args:List AV}{m m' :Mem}{v:AV}(h:mB P f args m v m'):mB P f args m v (m' ++[.qF]):=by refine⟨h.1,fun base μ w Vs h0 h1 h2=>(h.2 base μ w Vs h0 h1 h2).mono ?_⟩;rintro e w' ⟨V,v',m1,μ',he,hv,hh,hs,rfl,rfl⟩;obtain⟨k1,k2⟩:=hh.qF (μ' 0);exact⟨V,_,_,_,he,hv.mono (by simp) k2.agree,k1,hs.trans (k2.mono hs.len),rfl,rfl⟩
theorem ov{P:Program}{f:FuncId}{args:List AV}{m:Mem}{v:AV}:∀(k:Nat) {m' :Mem},mB P f args m v m' →mB P f args m v (m' ++List.replicate k .qF)
 |0,m',h=>by simpa using h
 |k+1,m',h=>by
  have:=ov k (Fg h)
  rwa [List.append_assoc,List.singleton_append,←List.replicate_succ] at this
theorem LI(s:aaf)(d:aao)(hd:d.Ok)(i:Nat)(hi:i<6)(M:Mem)(p t:Nat)(o o' :Bool)(hp:M[p]? =some (.cells o 2 (pC s.P)))(ht:M[t]? =some (.cells o' 3 (tC s.T))):
  ∃ev x1 x2 x3 x4 x5,mB prog 9 [shB s p t,.agg d.cells,.int .i64 i] M (.agg ev) (M++[x1,x2,x3,x4,x5])∧iJ s p t (bI d i) M.length [x1,x2,x3,x4,x5] ev∧fZ M.length [x1,x2,x3,x4,x5] ev (bI d i)∧(ev.length=32∧ev[1]? =some (.str (bF i)))∧po M [x1,x2,x3,x4,x5]∧AV.aaa (fun b=>decide (b<M.length+5)) ev=true∧sn ev:=by
 obtain⟨ev,new,h1,h2,h3,h4,h5,h6,h7,h8⟩:=OH s d hd i hi M p t o o' hp ht;have e:(new++List.replicate (5-new.length) aae.qF).length=5:=by simp;omega
 have g1:=ov (5-new.length) h1;rw[List.append_assoc] at g1;have hk:∀M',aaz M.length (new++List.replicate (5-new.length) aae.qF) M' →aaz M.length new M' :=fun M' c k x hx=>c k x (by rw[List.getElem?_append_left (List.getElem?_eq_some_iff.1 hx).1];exact hx)
 have g2:iJ s p t (bI d i) M.length (new++List.replicate (5-new.length) aae.qF) ev:=by obtain⟨h2,cc,ho,hu,hx⟩:=h2;exact⟨fun M' w w' a b c=>h2 M' w w' a b (hk M' c),cc,ho,hu,fun M' c=>hx M' (hk M' c)⟩
 have g3:fZ M.length (new++List.replicate (5-new.length) aae.qF) ev (bI d i):=fun M' c=>
  h3 M' fun k x hx=>c k x (by rw[List.getElem?_append_left (List.getElem?_eq_some_iff.1 hx).1];exact hx)
 have g4:po M (new++List.replicate (5-new.length) aae.qF):=by unfold po at h6 ⊢;rw[List.all_append,h6,Bool.true_and,List.all_eq_true];intro x hx;rw[List.eq_of_mem_replicate hx];rfl
 obtain⟨N,hN⟩:∃N,N=new++List.replicate (5-new.length) aae.qF:=⟨_,rfl⟩
 rw[←hN] at e g1 g2 g3 g4
 match N,e,g1,g2,g3,g4 with
 | [x1,x2,x3,x4,x5],_,g1,g2,g3,g4=>exact⟨ev,x1,x2,x3,x4,x5,g1,g2,g3,h5,g4,h7,h8⟩
end Go.Proofs
