/- See R54. -/
import Derived.Test.YtgafjliihahjgaaGreatDoorR32
import Derived.Test.YtgafjliihahjgaaGreatDoorR33
set_option linter.all false
namespace Go.Proofs
open Go.Eng
open Tryz
theorem fI(s:aeE):0<s.P.length∧s.P.length≤1000:=by
 have h:∀k<8,0<(dx k).length∧(dx k).length≤1000:=by decide
 have:=h (s.kind%8) (Nat.mod_lt _ (by decide));unfold aeE.P
 rwa [List.length_map]
theorem fZ{m n:Nat}{v:Z3}(h:eS m v)(hmn:m≤n):eS n v:=by obtain⟨h1,h2,h3⟩:=h;exact⟨by omega,by omega,by omega⟩
theorem NQ(d:aeN)(j k:Nat):0≤KK d j k∧KK d j k≤3:=by unfold KK;have:=Nat.mod_lt (Kp d.K ((j+k)%4)) (show 0<4 by decide);omega
theorem uO(d:aeN)(n:Nat):∀z∈bE d n,z.natAbs≤8:=by intro z hz;simp only[bE,List.mem_map] at hz;obtain⟨k,_,rfl⟩:=hz;exact yR k
theorem FF(d:aeN)(j n:Nat)(L:List Int)(m:Nat)(hL:∀z∈L,z.natAbs≤m)(hn:n≤L.length):∀z∈cg d j L n,z.natAbs≤m+3:=by
 intro z hz;simp only[cg,List.mem_map,List.mem_range] at hz;obtain⟨k,hk,rfl⟩:=hz;have h1:=NQ d j k;have h2:L.getD k 0∈L:=by rw[List.getD_eq_getElem?_getD,List.getElem?_eq_getElem (by omega)];exact List.getElem_mem _
 have:=hL _ h2;omega
theorem rE(d:aeN)(j n:Nat)(L:List Int):∀(i:Nat) z y,L[i]? =some z→(cg d j L n)[i]? =some y→z≤y:=by
 intro i z y hz hy;have h1:=NQ d j i;simp only[cg,List.getElem?_map,Option.map_eq_some_iff] at hy;obtain⟨k,hk,rfl⟩:=hy;have e:k=i:=by rw[List.getElem?_eq_some_iff] at hk;obtain⟨_,h⟩:=hk;rw[List.getElem_range] at h;exact h.symm
 subst e;rw[List.getD_eq_getElem?_getD,hz];simp only[Option.getD_some];omega
theorem hN5(n:Int):(n.tmod 5).natAbs≤1000:=by have: -5<n.tmod 5∧n.tmod 5<5:=nv n 5 (by decide);omega
def shB(s:aeE) (p t:Nat):AV:=.agg [.slice p 0 s.P.length none,.slice t 0 s.T.length none]
def Ts(s:aeE) (U:List (List UInt8)) (b:Nat) (new:Mem) (ev:List AV):Prop:=∃c:Evc,aWg s c∧unE c=U∧∀M',aeZ b new M' →afi M' ev c
def iJ(s:aeE) (p t:Nat) (U:List (List UInt8)) (b:Nat) (new:Mem) (ev:List AV):Prop:=(∀(M' :Mem) (o o' :Bool),M'[p]? =some (.cells o 2 (pC s.P))→M'[t]? =some (.cells o' 3 (tC s.T))→aeZ b new M' →kF prog 61 [shB s p t,.agg ev] M' (.int .i64 0) M')∧Ts s U b new ev
theorem jd{s:aeE}{d:aeN}{i:Nat}{ev:List AV}{new M:Mem}{p t:Nat}(hp:p<M.length)(ht:t<M.length)(hn:new.all (fun s=>s.own||match s with | .kO=>true | _=>false)=true)(h:kF prog 28 [.agg [.slice 0 0 s.P.length none,.slice 1 0 s.T.length none],.agg d.cells,.int .i64 i] [.kO,.kO] (.agg ev) ([.kO,.kO]++new)):
  kF prog 28 [shB s p t,.agg d.cells,.int .i64 i] M (.agg (AV.aeM (aF [p,t] M.length) ev)) (M++new.map (aeD.ren (aF [p,t] M.length))):=by
 have:=kF.frame (M:=M) (new:=new) [p,t] rfl (by simp[hp,ht]) (by rfl) (fun i q hs=>by
  match i with
  |0=>simp at hs;subst hs;trivial
  |1=>simp at hs;subst hs;trivial
  |i+2=>simp at hs) hn h
 simpa [shB,AV.aeM,AV.ren,aF,aeN.cells] using this
section
variable (s:aeE)(d:aeN)(hd:d.Ok)(i:Nat)(hi:i<6)
include s d hd i hi
theorem ym(hk:d.kind%5=1)(M:Mem)(p t:Nat)(o o' :Bool)(hp:M[p]? =some (.cells o 2 (pC s.P)))(ht:M[t]? =some (.cells o' 3 (tC s.T))):
  ∃ev new,kF prog 28 [shB s p t,.agg d.cells,.int .i64 i] M (.agg ev) (M++new)∧iJ s p t (bJ d i) M.length new ev∧gh M.length new ev (bJ d i)∧new.length≤5∧(ev.length=32∧ev[1]? =some (.str (bH i)))∧oW M new∧AV.aeB (fun b=>decide (b<M.length+5)) ev=true∧rL ev:=by
 have l0:=(gL hp);have l1:=(gL ht);obtain⟨hn,hl⟩:=fI s;have h:=jd l0 l1 rfl (xW d hd s.P.length s.T.length i hi hn hl hk);refine⟨_,_,h,⟨fun M' w w' hp' ht' Zc=>?_,?_⟩,?_,by simp,⟨by rfl,by rfl⟩,?_,?_,?_⟩
 rotate_left
 ·exact⟨AH (bH i) (bG d.A) (d.N.tmod 5) (dU (bG d.A) (se d.B)),Aa s (bH i) (bG d.A) (d.N.tmod 5) (dU (bG d.A) (se d.B)) (dM hi) (fZ (bZ _) (by decide)) (ko _) (hN5 d.N) (fZ (kk (bZ d.A) (gd d.B)) (by decide)) (rh _ _) (bZ _) (by have: -5<d.N.tmod 5∧d.N.tmod 5<5:=nv d.N 5 (by decide);omega) (kk (bZ d.A) (gd d.B)),by rw[show bJ d i=[] by simp[bJ,hk]];rfl,fun M' _=>AP (by simp[cb,AH,Evc.cells,AV.aeM,AV.ren]) rfl rfl rfl rfl⟩
 ·rw[show bJ d i=[] by simp[bJ,hk]]
  refine qc fun M=>?_
  simpa [cb,AV.aeM,AV.ren] using mT (bH i) (bG d.A) (d.N.tmod 5) (dU (bG d.A) (se d.B)) M
 ·simp[oW,aeD.own,aeD.y9]
 ·simp[cb,AV.aeM,AV.ren,AV.aeB,AV.y9]
 ·simp[rL,cb,AV.aeM,AV.ren]
 have h5: -5<d.N.tmod 5∧d.N.tmod 5<5:=nv d.N 5 (by decide);have hz:=kk (bZ d.A) (gd d.B);have:=kB s (bH i) (bG d.A) (d.N.tmod 5) (dU (bG d.A) (se d.B)) (dM hi) (fZ (bZ _) (by decide)) (ko _) (by omega) (fZ hz (by decide)) (rh _ _) M' p t w w' hp' ht';simpa [shB,cb,AV.aeM,AV.ren] using this
theorem zR(hk:d.kind%5=3)(M:Mem)(p t:Nat)(o o' :Bool)(hp:M[p]? =some (.cells o 2 (pC s.P)))(ht:M[t]? =some (.cells o' 3 (tC s.T))):
  ∃ev new,kF prog 28 [shB s p t,.agg d.cells,.int .i64 i] M (.agg ev) (M++new)∧iJ s p t (bJ d i) M.length new ev∧gh M.length new ev (bJ d i)∧new.length≤5∧(ev.length=32∧ev[1]? =some (.str (bH i)))∧oW M new∧AV.aeB (fun b=>decide (b<M.length+5)) ev=true∧rL ev:=by
 have l0:=(gL hp);have l1:=(gL ht);obtain⟨hn,hl⟩:=fI s;have h:=jd l0 l1 rfl (zk d hd s.P.length s.T.length i hi hn hl hk);refine⟨_,_,h,⟨fun M' w w' hp' ht' Zc=>?_,?_⟩,?_,by simp,⟨by rfl,by rfl⟩,?_,?_,?_⟩
 rotate_left
 ·exact⟨Mc (bH i) (bG d.A) (d.N.tmod 5) (1+(d.K.1%4:Nat)) (ig i),Cc s (bH i) (bG d.A) (d.N.tmod 5) (1+(d.K.1%4:Nat)) (ig i) (dM hi) (fZ (bZ _) (by decide)) (ko _) (hN5 d.N) (by have:=Nat.mod_lt d.K.1 (show 0<4 by decide);omega) (by have:=Nat.mod_lt d.K.1 (show 0<4 by decide);omega) (xo hi) (bZ _) (by have: -5<d.N.tmod 5∧d.N.tmod 5<5:=nv d.N 5 (by decide);omega) (by have:=Nat.mod_lt d.K.1 (show 0<4 by decide);omega),by rw[show bJ d i=[ig i] by simp[bJ,hk]];rfl,fun M' _=>AP (by simp[di,Mc,Evc.cells,AV.aeM,AV.ren]) rfl rfl rfl rfl⟩
 ·rw[show bJ d i=[ig i] by simp[bJ,hk]]
  simpa [di,AV.aeM,AV.ren] using uH (b:=M.length) (new:=[]) (bH i) (bG d.A) (d.N.tmod 5) (1+(d.K.1%4:Nat)) (ig i)
 ·simp[oW,aeD.own,aeD.y9]
 ·simp[di,AV.aeM,AV.ren,AV.aeB,AV.y9]
 ·simp[rL,di,AV.aeM,AV.ren]
 have h5: -5<d.N.tmod 5∧d.N.tmod 5<5:=nv d.N 5 (by decide);have h4:=Nat.mod_lt d.K.1 (show 0<4 by decide);have:=lL s (bH i) (bG d.A) (d.N.tmod 5) (1+(d.K.1%4:Nat)) (ig i) (dM hi) (fZ (bZ _) (by decide)) (ko _) (by omega) (by omega) (by omega) (xo hi) M' p t w w' hp' ht';simpa [shB,di,AV.aeM,AV.ren] using this
theorem zU(hk:d.kind%5=4)(M:Mem)(p t:Nat)(o o' :Bool)(hp:M[p]? =some (.cells o 2 (pC s.P)))(ht:M[t]? =some (.cells o' 3 (tC s.T))):
  ∃ev new,kF prog 28 [shB s p t,.agg d.cells,.int .i64 i] M (.agg ev) (M++new)∧iJ s p t (bJ d i) M.length new ev∧gh M.length new ev (bJ d i)∧new.length≤5∧(ev.length=32∧ev[1]? =some (.str (bH i)))∧oW M new∧AV.aeB (fun b=>decide (b<M.length+5)) ev=true∧rL ev:=by
 have l0:=(gL hp);have l1:=(gL ht);obtain⟨hn,hl⟩:=fI s;have h:=jd l0 l1 rfl (zm d hd s.P.length s.T.length i hi hn hl hk);refine⟨_,_,h,⟨fun M' w w' hp' ht' Zc=>?_,?_⟩,?_,by simp,⟨by rfl,by rfl⟩,?_,?_,?_⟩
 rotate_left
 ·exact⟨Md (bH i) (bR (d.K.1%6)) (se d.B),Ce s _ _ _ (dM hi) (fZ (gd _) (by decide)) (by have:=Nat.mod_lt d.K.1 (show 0<6 by decide);omega) (gd _),by rw[show bJ d i=[] by simp[bJ,hk]];rfl,fun M' _=>AP (by simp[dB,Md,Evc.cells,AV.aeM,AV.ren]) rfl rfl rfl rfl⟩
 ·rw[show bJ d i=[] by simp[bJ,hk]]
  refine qc fun M=>?_
  simpa [dB,AV.aeM,AV.ren] using oF (bH i) (bR (d.K.1%6)) (se d.B) M
 ·simp[oW,aeD.own,aeD.y9]
 ·simp[dB,AV.aeM,AV.ren,AV.aeB,AV.y9]
 ·simp[rL,dB,AV.aeM,AV.ren]
 have:=lN s (bH i) (d.K.1%6) (se d.B) (dM hi) (fZ (gd _) (by decide)) M' p t w w' hp' ht';simpa [shB,dB,AV.aeM,AV.ren] using this
theorem zT(hk:d.kind%5=2)(M:Mem)(p t:Nat)(o o' :Bool)(hp:M[p]? =some (.cells o 2 (pC s.P)))(ht:M[t]? =some (.cells o' 3 (tC s.T))):
  ∃ev new,kF prog 28 [shB s p t,.agg d.cells,.int .i64 i] M (.agg ev) (M++new)∧iJ s p t (bJ d i) M.length new ev∧gh M.length new ev (bJ d i)∧new.length≤5∧(ev.length=32∧ev[1]? =some (.str (bH i)))∧oW M new∧AV.aeB (fun b=>decide (b<M.length+5)) ev=true∧rL ev:=by
 have l0:=(gL hp);have l1:=(gL ht);obtain⟨hn,hl⟩:=fI s;have h3:=Nat.mod_lt d.K.1 (show 0<3 by decide);have h:=jd l0 l1 rfl (zl d hd s.P.length s.T.length i hi hn hl hk);refine⟨_,_,h,⟨fun M' w w' hp' ht' Zc=>?_,?_⟩,?_,by simp,⟨by rfl,by rfl⟩,?_,?_,?_⟩
 rotate_left
 ·refine⟨JD (bH i) (bG d.A) (kT (bV d (1+d.K.1%3))) (dU (bG d.A) (se d.B)),Cd s _ _ _ d _ (by omega) (by omega) (dM hi) (fZ (bZ _) (by decide)) (ko _) (fZ (kk (bZ d.A) (gd d.B)) (by decide)) (rh _ _) (bZ _) (kk (bZ d.A) (gd d.B)),by rw[show bJ d i=[] by simp[bJ,hk]];rfl,fun M' Zc=>?_⟩
  have:=RV (N:=M') (nm:=bH i) (n:=bG d.A) (s:=dU (bG d.A) (se d.B)) (L:=bV d (1+d.K.1%3)) (b:=M.length) (o:=true) (by rw[cW];omega) (by have:=Zc 0 _ rfl;simpa [aeD.ren,gA] using this);rw[cW] at this;simpa [bO,AV.aeM,AV.ren,aF] using this
 ·rw[show bJ d i=[] by simp[bJ,hk]]
  refine qc fun M' =>?_
  simpa [bO,AV.aeM,AV.ren,aF] using oD (bH i) (bG d.A) (dU (bG d.A) (se d.B)) (.slice M.length 0 (1+d.K.1%3) none) M'
 ·simp[oW,aeD.own,aeD.y9,aeD.ren,gA,Bk]
 ·simp[bO,AV.aeM,AV.ren,aF,AV.aeB,AV.y9]
 ·simp[rL,bO,AV.aeM,AV.ren,aF]
 have hz:=kk (bZ d.A) (gd d.B);have:=lM s (bH i) (bG d.A) (dU (bG d.A) (se d.B)) d (1+d.K.1%3) (by omega) (by omega) (dM hi) (fZ (bZ _) (by decide)) (ko _) (fZ hz (by decide)) (rh _ _) M' p t w w' hp' ht' M.length true (by have:=Zc 0 _ rfl;simpa [aeD.ren,gA] using this);simpa [shB,bO,AV.aeM,AV.ren,aeD.ren,aF,gA] using this
theorem zO(hk:d.kind%5=0)(hJ:d.K.1%3=0)(M:Mem)(p t:Nat)(o o' :Bool)(hp:M[p]? =some (.cells o 2 (pC s.P)))(ht:M[t]? =some (.cells o' 3 (tC s.T))):
  ∃ev new,kF prog 28 [shB s p t,.agg d.cells,.int .i64 i] M (.agg ev) (M++new)∧iJ s p t (bJ d i) M.length new ev∧gh M.length new ev (bJ d i)∧new.length≤5∧(ev.length=32∧ev[1]? =some (.str (bH i)))∧oW M new∧AV.aeB (fun b=>decide (b<M.length+5)) ev=true∧rL ev:=by
 have l0:=(gL hp);have l1:=(gL ht);obtain⟨hn,hl⟩:=fI s;have h:=jd l0 l1 rfl (zh d hd s.P.length s.T.length i hi hn hl hk hJ);have b0:∀z∈(bE d s.P.length),z.natAbs<1000:=fun z hz=>by have:=uO d _ z hz;omega
 have c0:((bE d s.P.length)).length=s.P.length:=dG d _;refine⟨_,_,h,⟨fun M' w w' hp' ht' Zc=>?_,?_⟩,?_,by simp[iI],⟨by rfl,by rfl⟩,?_,?_,?_⟩
 rotate_left
 ·have k0:(hT (bE d s.P.length)).length=s.P.length:=by rw[dh];exact dG d _
  refine⟨FK (bH i) (hT (bE d s.P.length)) (bu i 0) [],B9 s (bH i) [cn i,49] (bE d s.P.length) (dM hi) (ik (J:=0) hi (by decide) _ (by simp[bu]))  b0 (by omega) (by omega) c0 ,by rw[show bJ d i=bu i 0 by simp[bJ,hk,hJ]];rfl,fun M' Zc=>?_⟩;obtain⟨N,hN⟩:∃N:Mem,N=[jx (bE d s.P.length),.cells true 1 [.str [cn i,49]]]:=⟨_,rfl⟩
  have en:∀(k:Nat) x,N[k]? =some x→M'[M.length+k]? =some x:=fun k x h=>Zc k x (by rw[hN] at h;simpa [iI,jx,aeD.ren,AV.aeM,AV.ren,aF,eJ,bu] using h)
  subst hN;have:=Fc (N:=M') (nm:=bH i) (B:=hT (bE d s.P.length)) (U:=bu i 0) (S:=[]) (b:=M.length) (u:=M.length+1) (o:=true) (o2:=true) (by omega) (by simp[bu]) (by have:=en 0 _ rfl;rwa [wF] at this) (en 1 _ rfl) (zb M');rw[k0] at this;simpa [bc,AV.aeM,AV.ren,aF,bu] using this
 ·rw[show bJ d i=bu i 0 by simp[bJ,hk,hJ]]
  have:=iC (b0:=M.length) (new:=[jx (bE d s.P.length),.cells true 1 [.str [cn i,49]]]) (bH i) (.slice M.length 0 s.P.length none) (.kK) (bu i 0) (by simp[bu]) (by simp[bu]) 1 true rfl;simpa [bc,AV.aeM,AV.ren,aeD.ren,aF,iI,jx,eJ,bu] using this
 ·simp[oW,iI,jx,aeD.own,aeD.y9,aeD.ren,AV.aeM,AV.ren,AV.aeB,AV.y9,eJ,Kw,bu]
 ·simp[bc,AV.aeM,AV.ren,aF,AV.aeB,AV.y9]
 ·simp[rL,bc,AV.aeM,AV.ren,aF]
 obtain⟨N,hN⟩:∃N:Mem,N=[jx (bE d s.P.length),.cells true 1 [.str [cn i,49]]]:=⟨_,rfl⟩
 have en:∀(k:Nat) x,N[k]? =some x→M'[M.length+k]? =some x:=fun k x h=>Zc k x (by rw[hN] at h;simpa [iI,jx,aeD.ren,AV.aeM,AV.ren,aF,eJ,bu] using h)
 subst hN;have:=lI s (bH i) [cn i,49] (bE d s.P.length) (dM hi) (ik (J:=0) hi (by decide) _ (by simp[bu]))  b0 (by omega) c0  M' p t w w' hp' ht' M.length (M.length+1) true true (en 0 _ rfl) (en 1 _ rfl);rw[c0] at this;simpa [shB,bc,AV.aeM,AV.ren,aeD.ren,aF,iI,jx,eJ,bu] using this
theorem zP(hk:d.kind%5=0)(hJ:d.K.1%3=1)(M:Mem)(p t:Nat)(o o' :Bool)(hp:M[p]? =some (.cells o 2 (pC s.P)))(ht:M[t]? =some (.cells o' 3 (tC s.T))):
  ∃ev new,kF prog 28 [shB s p t,.agg d.cells,.int .i64 i] M (.agg ev) (M++new)∧iJ s p t (bJ d i) M.length new ev∧gh M.length new ev (bJ d i)∧new.length≤5∧(ev.length=32∧ev[1]? =some (.str (bH i)))∧oW M new∧AV.aeB (fun b=>decide (b<M.length+5)) ev=true∧rL ev:=by
 have l0:=(gL hp);have l1:=(gL ht);obtain⟨hn,hl⟩:=fI s;have h:=jd l0 l1 rfl (zi d hd s.P.length s.T.length i hi hn hl hk hJ);have b0:∀z∈(bE d s.P.length),z.natAbs<1000:=fun z hz=>by have:=uO d _ z hz;omega
 have c0:((bE d s.P.length)).length=s.P.length:=dG d _;have s1:=FF d 0 s.P.length (bE d s.P.length) 8 (uO d s.P.length) (by simp[dG]);have b1:∀z∈(cg d 0 (bE d s.P.length) s.P.length),z.natAbs<1000:=fun z hz=>by have:=s1 z hz;omega
 have c1:((cg d 0 (bE d s.P.length) s.P.length)).length=s.P.length:=eh d _ _ _;refine⟨_,_,h,⟨fun M' w w' hp' ht' Zc=>?_,?_⟩,?_,by simp[iI],⟨by rfl,by rfl⟩,?_,?_,?_⟩
 rotate_left
 ·have k0:(hT (bE d s.P.length)).length=s.P.length:=by rw[dh];exact dG d _
  have k1:(hT (cg d 0 (bE d s.P.length) s.P.length)).length=s.P.length:=by rw[dh];exact eh d _ _ _
  refine⟨FK (bH i) (hT (bE d s.P.length)) (bu i 1) [hT (cg d 0 (bE d s.P.length) s.P.length)],Ca s (bH i) [cn i,49] [cn i,50] (bE d s.P.length) (cg d 0 (bE d s.P.length) s.P.length) (dM hi) (ik (J:=1) hi (by decide) _ (by simp[bu])) (ik (J:=1) hi (by decide) _ (by simp[bu])) (by simp) b0 (by omega) (by omega) c0 b1 c1 (rE d 0 s.P.length (bE d s.P.length)),by rw[show bJ d i=bu i 1 by simp[bJ,hk,hJ]];rfl,fun M' Zc=>?_⟩;obtain⟨N,hN⟩:∃N:Mem,N=[jx (bE d s.P.length),.cells true 1 [.str [cn i,49],.str [cn i,50]],.cells true 1 [.slice (M.length+3) 0 s.P.length none],jx (cg d 0 (bE d s.P.length) s.P.length)]:=⟨_,rfl⟩
  have en:∀(k:Nat) x,N[k]? =some x→M'[M.length+k]? =some x:=fun k x h=>Zc k x (by rw[hN] at h;simpa [iI,jx,aeD.ren,AV.aeM,AV.ren,aF,eJ,bu] using h)
  subst hN;have:=Fc (N:=M') (nm:=bH i) (B:=hT (bE d s.P.length)) (U:=bu i 1) (S:=[hT (cg d 0 (bE d s.P.length) s.P.length)]) (b:=M.length) (u:=M.length+1) (o:=true) (o2:=true) (by omega) (by simp[bu]) (by have:=en 0 _ rfl;rwa [wF] at this) (en 1 _ rfl) (Xa (c:=M.length+2) (r1:=M.length+3) (o:=true) (o1:=true) (by rw[k1];exact en 2 _ rfl) (by have:=en 3 _ rfl;rwa [wF] at this) (by omega));rw[k0] at this;simpa [bc,AV.aeM,AV.ren,aF,bu] using this
 ·rw[show bJ d i=bu i 1 by simp[bJ,hk,hJ]]
  have:=iC (b0:=M.length) (new:=[jx (bE d s.P.length),.cells true 1 [.str [cn i,49],.str [cn i,50]],.cells true 1 [.slice (M.length+3) 0 s.P.length none],jx (cg d 0 (bE d s.P.length) s.P.length)]) (bH i) (.slice M.length 0 s.P.length none) (.slice (M.length+2) 0 1 none) (bu i 1) (by simp[bu]) (by simp[bu]) 1 true rfl;simpa [bc,AV.aeM,AV.ren,aeD.ren,aF,iI,jx,eJ,bu] using this
 ·simp[oW,iI,jx,aeD.own,aeD.y9,aeD.ren,AV.aeM,AV.ren,aF,AV.aeB,AV.y9,eJ,Kw,bu]
 ·simp[bc,AV.aeM,AV.ren,aF,AV.aeB,AV.y9]
 ·simp[rL,bc,AV.aeM,AV.ren,aF]
 obtain⟨N,hN⟩:∃N:Mem,N=[jx (bE d s.P.length),.cells true 1 [.str [cn i,49],.str [cn i,50]],.cells true 1 [.slice (M.length+3) 0 s.P.length none],jx (cg d 0 (bE d s.P.length) s.P.length)]:=⟨_,rfl⟩
 have en:∀(k:Nat) x,N[k]? =some x→M'[M.length+k]? =some x:=fun k x h=>Zc k x (by rw[hN] at h;simpa [iI,jx,aeD.ren,AV.aeM,AV.ren,aF,eJ,bu] using h)
 subst hN;have:=lJ s (bH i) [cn i,49] [cn i,50] (bE d s.P.length) (cg d 0 (bE d s.P.length) s.P.length) (dM hi) (ik (J:=1) hi (by decide) _ (by simp[bu])) (ik (J:=1) hi (by decide) _ (by simp[bu])) (by simp) b0 (by omega) c0 b1 c1 (rE d 0 s.P.length (bE d s.P.length)) M' p t w w' hp' ht' M.length (M.length+1) true true (en 0 _ rfl) (en 1 _ rfl) (M.length+2) (M.length+3) true true (by rw[c0];exact en 2 _ rfl) (en 3 _ rfl);rw[c0] at this;simpa [shB,bc,AV.aeM,AV.ren,aeD.ren,aF,iI,jx,eJ,bu] using this
theorem zQ(hk:d.kind%5=0)(hJ:d.K.1%3=2)(M:Mem)(p t:Nat)(o o' :Bool)(hp:M[p]? =some (.cells o 2 (pC s.P)))(ht:M[t]? =some (.cells o' 3 (tC s.T))):
  ∃ev new,kF prog 28 [shB s p t,.agg d.cells,.int .i64 i] M (.agg ev) (M++new)∧iJ s p t (bJ d i) M.length new ev∧gh M.length new ev (bJ d i)∧new.length≤5∧(ev.length=32∧ev[1]? =some (.str (bH i)))∧oW M new∧AV.aeB (fun b=>decide (b<M.length+5)) ev=true∧rL ev:=by
 have l0:=(gL hp);have l1:=(gL ht);obtain⟨hn,hl⟩:=fI s;have h:=jd l0 l1 rfl (zj d hd s.P.length s.T.length i hi hn hl hk hJ);have b0:∀z∈(bE d s.P.length),z.natAbs<1000:=fun z hz=>by have:=uO d _ z hz;omega
 have c0:((bE d s.P.length)).length=s.P.length:=dG d _;have s1:=FF d 0 s.P.length (bE d s.P.length) 8 (uO d s.P.length) (by simp[dG]);have b1:∀z∈(cg d 0 (bE d s.P.length) s.P.length),z.natAbs<1000:=fun z hz=>by have:=s1 z hz;omega
 have c1:((cg d 0 (bE d s.P.length) s.P.length)).length=s.P.length:=eh d _ _ _;have s2:=FF d 1 s.P.length (cg d 0 (bE d s.P.length) s.P.length) 11 (s1) (by simp[eh]);have b2:∀z∈(cg d 1 (cg d 0 (bE d s.P.length) s.P.length) s.P.length),z.natAbs<1000:=fun z hz=>by have:=s2 z hz;omega
 have c2:((cg d 1 (cg d 0 (bE d s.P.length) s.P.length) s.P.length)).length=s.P.length:=eh d _ _ _;refine⟨_,_,h,⟨fun M' w w' hp' ht' Zc=>?_,?_⟩,?_,by simp[iI],⟨by rfl,by rfl⟩,?_,?_,?_⟩
 rotate_left
 ·have k0:(hT (bE d s.P.length)).length=s.P.length:=by rw[dh];exact dG d _
  have k1:(hT (cg d 0 (bE d s.P.length) s.P.length)).length=s.P.length:=by rw[dh];exact eh d _ _ _
  have k2:(hT (cg d 1 (cg d 0 (bE d s.P.length) s.P.length) s.P.length)).length=s.P.length:=by rw[dh];exact eh d _ _ _
  refine⟨FK (bH i) (hT (bE d s.P.length)) (bu i 2) [hT (cg d 0 (bE d s.P.length) s.P.length),hT (cg d 1 (cg d 0 (bE d s.P.length) s.P.length) s.P.length)],Cb s (bH i) [cn i,49] [cn i,50] [cn i,51] (bE d s.P.length) (cg d 0 (bE d s.P.length) s.P.length) (cg d 1 (cg d 0 (bE d s.P.length) s.P.length) s.P.length) (dM hi) (ik (J:=2) hi (by decide) _ (by simp[bu])) (ik (J:=2) hi (by decide) _ (by simp[bu])) (ik (J:=2) hi (by decide) _ (by simp[bu])) (by simp) (by simp) (by simp) b0 (by omega) (by omega) c0 b1 c1 (rE d 0 s.P.length (bE d s.P.length)) b2 c2 (rE d 1 s.P.length (cg d 0 (bE d s.P.length) s.P.length)),by rw[show bJ d i=bu i 2 by simp[bJ,hk,hJ]];rfl,fun M' Zc=>?_⟩;obtain⟨N,hN⟩:∃N:Mem,N=[jx (bE d s.P.length),.cells true 1 [.str [cn i,49],.str [cn i,50],.str [cn i,51]],.cells true 1 [.slice (M.length+3) 0 s.P.length none,.slice (M.length+4) 0 s.P.length none],jx (cg d 0 (bE d s.P.length) s.P.length),jx (cg d 1 (cg d 0 (bE d s.P.length) s.P.length) s.P.length)]:=⟨_,rfl⟩
  have en:∀(k:Nat) x,N[k]? =some x→M'[M.length+k]? =some x:=fun k x h=>Zc k x (by rw[hN] at h;simpa [iI,jx,aeD.ren,AV.aeM,AV.ren,aF,eJ,bu] using h)
  subst hN;have:=Fc (N:=M') (nm:=bH i) (B:=hT (bE d s.P.length)) (U:=bu i 2) (S:=[hT (cg d 0 (bE d s.P.length) s.P.length),hT (cg d 1 (cg d 0 (bE d s.P.length) s.P.length) s.P.length)]) (b:=M.length) (u:=M.length+1) (o:=true) (o2:=true) (by omega) (by simp[bu]) (by have:=en 0 _ rfl;rwa [wF] at this) (en 1 _ rfl) (Xb (c:=M.length+2) (r1:=M.length+3) (r2:=M.length+4) (o:=true) (o1:=true) (o2:=true) (by rw[k1,k2];exact en 2 _ rfl) (by have:=en 3 _ rfl;rwa [wF] at this) (by have:=en 4 _ rfl;rwa [wF] at this) (by omega) (by omega));rw[k0] at this;simpa [bc,AV.aeM,AV.ren,aF,bu] using this
 ·rw[show bJ d i=bu i 2 by simp[bJ,hk,hJ]]
  have:=iC (b0:=M.length) (new:=[jx (bE d s.P.length),.cells true 1 [.str [cn i,49],.str [cn i,50],.str [cn i,51]],.cells true 1 [.slice (M.length+3) 0 s.P.length none,.slice (M.length+4) 0 s.P.length none],jx (cg d 0 (bE d s.P.length) s.P.length),jx (cg d 1 (cg d 0 (bE d s.P.length) s.P.length) s.P.length)]) (bH i) (.slice M.length 0 s.P.length none) (.slice (M.length+2) 0 2 none) (bu i 2) (by simp[bu]) (by simp[bu]) 1 true rfl;simpa [bc,AV.aeM,AV.ren,aeD.ren,aF,iI,jx,eJ,bu] using this
 ·simp[oW,iI,jx,aeD.own,aeD.y9,aeD.ren,AV.aeM,AV.ren,aF,AV.aeB,AV.y9,eJ,Kw,bu]
 ·simp[bc,AV.aeM,AV.ren,aF,AV.aeB,AV.y9]
 ·simp[rL,bc,AV.aeM,AV.ren,aF]
 obtain⟨N,hN⟩:∃N:Mem,N=[jx (bE d s.P.length),.cells true 1 [.str [cn i,49],.str [cn i,50],.str [cn i,51]],.cells true 1 [.slice (M.length+3) 0 s.P.length none,.slice (M.length+4) 0 s.P.length none],jx (cg d 0 (bE d s.P.length) s.P.length),jx (cg d 1 (cg d 0 (bE d s.P.length) s.P.length) s.P.length)]:=⟨_,rfl⟩
 have en:∀(k:Nat) x,N[k]? =some x→M'[M.length+k]? =some x:=fun k x h=>Zc k x (by rw[hN] at h;simpa [iI,jx,aeD.ren,AV.aeM,AV.ren,aF,eJ,bu] using h)
 subst hN;have:=lK s (bH i) [cn i,49] [cn i,50] [cn i,51] (bE d s.P.length) (cg d 0 (bE d s.P.length) s.P.length) (cg d 1 (cg d 0 (bE d s.P.length) s.P.length) s.P.length) (dM hi) (ik (J:=2) hi (by decide) _ (by simp[bu])) (ik (J:=2) hi (by decide) _ (by simp[bu])) (ik (J:=2) hi (by decide) _ (by simp[bu])) (by simp) (by simp) (by simp) b0 (by omega) c0 b1 c1 (rE d 0 s.P.length (bE d s.P.length)) b2 c2 (rE d 1 s.P.length (cg d 0 (bE d s.P.length) s.P.length)) M' p t w w' hp' ht' M.length (M.length+1) true true (en 0 _ rfl) (en 1 _ rfl) (M.length+2) (M.length+3) (M.length+4) true true true (by rw[c0];exact en 2 _ rfl) (en 3 _ rfl) (en 4 _ rfl);rw[c0] at this;simpa [shB,bc,AV.aeM,AV.ren,aeD.ren,aF,iI,jx,eJ,bu] using this
theorem OE(M:Mem)(p t:Nat)(o o' :Bool)(hp:M[p]? =some (.cells o 2 (pC s.P)))(ht:M[t]? =some (.cells o' 3 (tC s.T))):
  ∃ev new,kF prog 28 [shB s p t,.agg d.cells,.int .i64 i] M (.agg ev) (M++new)∧iJ s p t (bJ d i) M.length new ev∧gh M.length new ev (bJ d i)∧new.length≤5∧(ev.length=32∧ev[1]? =some (.str (bH i)))∧oW M new∧AV.aeB (fun b=>decide (b<M.length+5)) ev=true∧rL ev:=by
 have h5:=Nat.mod_lt d.kind (show 0<5 by decide);have h3:=Nat.mod_lt d.K.1 (show 0<3 by decide);have:d.kind%5=0∨d.kind%5=1∨d.kind%5=2∨d.kind%5=3∨d.kind%5=4:=by omega
 rcases this with h | h | h | h | h
 ·have:d.K.1%3=0∨d.K.1%3=1∨d.K.1%3=2:=by omega
  rcases this with g | g | g
  ·exact zO s d hd i hi h g M p t o o' hp ht
  ·exact zP s d hd i hi h g M p t o o' hp ht
  ·exact zQ s d hd i hi h g M p t o o' hp ht
 ·exact ym s d hd i hi h M p t o o' hp ht
 ·exact zT s d hd i hi h M p t o o' hp ht
 ·exact zR s d hd i hi h M p t o o' hp ht
 ·exact zU s d hd i hi h M p t o o' hp ht
end
theorem EV{P:Program}{f:FuncId}{args:List AV}{m m' :Mem}{v:AV}(h:kF P f args m v m'):kF P f args m v (m' ++[.kO]):=by refine⟨h.1,fun base μ w Vs h0 h1 h2=>(h.2 base μ w Vs h0 h1 h2).mono ?_⟩;rintro e w' ⟨V,v',m1,μ',he,hv,hh,hs,rfl,rfl⟩;obtain⟨k1,k2⟩:=hh.kO (μ' 0);exact⟨V,_,_,_,he,hv.mono (by simp) k2.agree,k1,hs.trans (k2.mono hs.len),rfl,rfl⟩
theorem fT{P:Program}{f:FuncId}{args:List AV}{m:Mem}{v:AV}:∀(k:Nat) {m' :Mem},kF P f args m v m' →kF P f args m v (m' ++List.replicate k .kO)
 |0,m',h=>by simpa using h
 |k+1,m',h=>by
  have:=fT k (EV h)
  rwa [List.append_assoc,List.singleton_append,←List.replicate_succ] at this
theorem Lm(s:aeE)(d:aeN)(hd:d.Ok)(i:Nat)(hi:i<6)(M:Mem)(p t:Nat)(o o' :Bool)(hp:M[p]? =some (.cells o 2 (pC s.P)))(ht:M[t]? =some (.cells o' 3 (tC s.T))):
  ∃ev x1 x2 x3 x4 x5,kF prog 28 [shB s p t,.agg d.cells,.int .i64 i] M (.agg ev) (M++[x1,x2,x3,x4,x5])∧iJ s p t (bJ d i) M.length [x1,x2,x3,x4,x5] ev∧gh M.length [x1,x2,x3,x4,x5] ev (bJ d i)∧(ev.length=32∧ev[1]? =some (.str (bH i)))∧oW M [x1,x2,x3,x4,x5]∧AV.aeB (fun b=>decide (b<M.length+5)) ev=true∧rL ev:=by
 obtain⟨ev,new,h1,h2,h3,h4,h5,h6,h7,h8⟩:=OE s d hd i hi M p t o o' hp ht;have e:(new++List.replicate (5-new.length) aeD.kO).length=5:=by simp;omega
 have g1:=fT (5-new.length) h1;rw[List.append_assoc] at g1;have hk:∀M',aeZ M.length (new++List.replicate (5-new.length) aeD.kO) M' →aeZ M.length new M' :=fun M' c k x hx=>c k x (by rw[List.getElem?_append_left (gL hx)];exact hx)
 have g2:iJ s p t (bJ d i) M.length (new++List.replicate (5-new.length) aeD.kO) ev:=by obtain⟨h2,cc,ho,hu,hx⟩:=h2;exact⟨fun M' w w' a b c=>h2 M' w w' a b (hk M' c),cc,ho,hu,fun M' c=>hx M' (hk M' c)⟩
 have g3:gh M.length (new++List.replicate (5-new.length) aeD.kO) ev (bJ d i):=fun M' c=>
  h3 M' fun k x hx=>c k x (by rw[List.getElem?_append_left (gL hx)];exact hx)
 have g4:oW M (new++List.replicate (5-new.length) aeD.kO):=by unfold oW at h6 ⊢;rw[List.all_append,h6,Bool.true_and,List.all_eq_true];intro x hx;rw[List.eq_of_mem_replicate hx];rfl
 obtain⟨N,hN⟩:∃N,N=new++List.replicate (5-new.length) aeD.kO:=⟨_,rfl⟩
 rw[←hN] at e g1 g2 g3 g4
 match N,e,g1,g2,g3,g4 with
 | [x1,x2,x3,x4,x5],_,g1,g2,g3,g4=>exact⟨ev,x1,x2,x3,x4,x5,g1,g2,g3,h5,g4,h7,h8⟩
end Go.Proofs
