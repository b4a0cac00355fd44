/- See N58. -/
import Derived.Test.YtmhkeaphiadacaaGreatDoorN50
import Derived.Test.YtmhkeaphiadacaaGreatDoorN48
set_option linter.all false
namespace Go.Proofs
open Go.Eng
theorem ns{n:Nat}{L:List (List UInt8)}(h:L.length=n):n=0→stC L=[]:=fun e=>by
 have:L=[]:=List.eq_nil_of_length_eq_zero (by omega)
 rw[this];rfl
theorem Nu{n:Nat}{L:List (List UInt8×List UInt8)}(h:L.length=n):n=0→kC L=[]:=fun e=>by
 have:L=[]:=List.eq_nil_of_length_eq_zero (by omega)
 rw[this];rfl
theorem zD{N:Mem}{q i:Nat}{E:AV}{e:List AV}{evs:List (List AV)}{N2:Mem}(hq:N[q]? =some (.cells true 32 e)) (he:e.length=32) (hck:e.all AV.cellOk=true) (hi:i≤10) (hl:evs.flatten.length=i*32)
  (hE:(i=0∧E=.nilslice∧N2=N)∨∃kr,E=.slice kr 0 i none∧0<i∧N[kr]? =some (.cells true 32 evs.flatten)∧N2=N.set kr .absent):
  cU (az Tryz.prog) N 39 39 E (.slice q 0 1 none)=some (.slice N.length 0 (i+1) none,N2++[.cells true 32 (evs.flatten++e)]):=by
 have hs:cw (az Tryz.prog) N 32 39 (.slice q 0 1 none)=some (1,e):=by
  have:e.take 32=e:=List.take_of_length_le (by omega)
  simp[cw,hq,he,this]
 rcases hE with⟨rfl,rfl,rfl⟩ | ⟨kr,rfl,h0,hr,rfl⟩
 ·have:evs.flatten=[]:=List.eq_nil_of_length_eq_zero (by omega)
  rw[this]
  simp[-cw,-List.all_eq_true,-AV.cellOk,cU,hs,hck,ra,nl]
 ·have h1:(i+1)*504≤140737488355328:=by omega
  have h2:i+1≤140737488355328:=by omega
  have h3:evs.flatten.take (i*32)=evs.flatten:=List.take_of_length_le (by omega)
  have h4:i*32≤evs.flatten.length:=by omega
  obtain⟨Fl,hFl⟩:∃Fl,Fl=evs.flatten:=⟨_,rfl⟩
  rw[←hFl] at hr h3 h4 ⊢
  simp[-cw,-List.all_eq_true,-AV.cellOk,cU,hs,hck,hr,h1,h2,h3,h4,ra,nl]
theorem Evc.len(c:Evc) (b u s kn:AV):(c.cells b u s kn).length=32:=rfl
theorem Evc.all(c:Evc) {b u s kn:AV}(hb:b.cellOk=true) (hu:u.cellOk=true) (hs:s.cellOk=true) (hk:kn.cellOk=true):(c.cells b u s kn).all AV.cellOk=true:=by
 simp only[Evc.cells,List.all_cons,List.all_nil,hb,hu,hs,hk]
 rfl
theorem Evc.refsL(c:Evc) {f:Nat→Bool}{b u s kn:AV}(hb:b.refsOk f=true) (hu:u.refsOk f=true) (hs:s.refsOk f=true) (hk:kn.refsOk f=true):AV.refsOkL f (c.cells b u s kn)=true:=by
 simp only[Evc.cells,AV.refsOkL,AV.refsOk,hb,hu,hs,hk,Bool.and_self]
theorem EvAt.refs{N:Mem}{e:List AV}{c:Evc}(h:EvAt N e c) (j:Nat):AV.refsOkL (fun a=>decide (a<N.length+j)) e=true:=by
 obtain⟨b,u,s,kn,rfl,h1,h2,⟨_,_,h3,_⟩,h4⟩:=h
 exact c.refsL (h1.refs j) (h2.refs j) (h3.refs j) (h4.refs j)
theorem iF{f:Nat→Bool}:∀{evs:List (List AV)},(∀e∈evs,AV.refsOkL f e=true)→AV.refsOkL f evs.flatten=true
 | [],_=>rfl
 |e::l,h=>by
  rw[List.flatten_cons,dQ,h e (by simp),iF (fun x hx=>h x (by simp[hx]))];rfl
set_option maxRecDepth 16384 in
set_option maxHeartbeats 8000000 in
theorem Dl{M:Mem}{l:AV}{cs:List Evc}(H:EvsAt M l cs) (hok:∀c∈cs,c.Ok) (hl10:cs.length≤10) {N0:Mem}{kc:Nat}{pv tv:AV}(hN0:∃Y,N0=M++Y) (hkM:M.length≤kc) (hk0:kc<N0.length) (cpv:pv.cellOk=true) (ctv:tv.cellOk=true)
  {N:Mem}{i K m1:Nat}{E:AV}{evs:List (List AV)}(I:CpI N0 kc pv tv cs N i E evs) (hlt:i<cs.length) {b bi:Code}(hb:am Tryz.f39=[b,bi]) {env0:Env}{d:Bool}(h26:ac env0 26=l) (h27:ac env0 27=.int .i64 cs.length) (h5:ac env0 5=.ptr kc 0):
  ∃N' E' evs' s',aO (az Tryz.prog) eI (dR cR) (K+4) 75 M.length true b ⟨ay [28,28,28] (ad b) env0 ((28,.int .i64 (i:Int))::env0),N,d⟩=some (.normal,s')∧nO [28,28,28] (ad b) env0 m1 s' =⟨ay [28,28,28] (ad b) env0 ((28,.int .i64 ((i+1:Nat):Int))::env0),N',d⟩∧CpI N0 kc pv tv cs N' (i+1) E' evs' :=by
 obtain⟨evs0,l1,r1,c1⟩:=H
 obtain⟨Y,rfl⟩:=hN0
 obtain⟨e,he⟩:∃e,evs0[i]? =some e:=⟨_,List.getElem?_eq_getElem (by omega)⟩
 obtain⟨c,hc⟩:∃c,cs[i]? =some c:=⟨_,List.getElem?_eq_getElem hlt⟩
 have hco:=hok c (List.mem_of_getElem? hc)
 have hev:∀(k:Nat) x,evs0[k]? =some x→x.length=32:=fun k x hx=>by
  have:=(List.getElem?_eq_some_iff.1 hx).1
  exact(c1 k x _ hx (List.getElem?_eq_getElem (by omega))).l32
 have heN:EvAt N e c:=((c1 i e c he hc).more Y).upd I.keep
 have hll:=I.len
 have hkN:kc<N.length:=by omega
 have ckE:E.cellOk=true:=by rcases I.row with⟨_,rfl⟩ | ⟨kr,rfl,_⟩<;>rfl
 have hwr:(cX E).any (fun b=>decide (b<M.length))=false:=by
  rcases I.row with⟨_,rfl⟩ | ⟨kr,rfl,_,hk,_⟩
  ·rfl
  ·simp only[List.length_append] at hk
   simp[cX];omega
 have hevs:∀x∈evs,x.length=32:=fun x hx=>by
  obtain⟨k,hk⟩:=List.getElem?_of_mem hx
  have h1:=(List.getElem?_eq_some_iff.1 hk).1
  rw[I.evl] at h1
  exact(I.con k x _ hk (List.getElem?_eq_getElem (by omega))).l32
 have hfl:evs.flatten.length=i*32:=by rw[uN hevs,I.evl]
 obtain⟨b1,o1,D1,hlv,hb1,hD,hD2⟩:∃(b1:Nat) (o1:Bool) (D1:List AV),l=.slice b1 0 cs.length none∧N[b1]? =some (.cells o1 32 D1)∧(D1.drop (i*32)).take 32=e∧i*32+32≤D1.length:=by
  rcases r1 with⟨h0,_⟩ | ⟨b1,o1,D1,h1,_,h3,h4⟩
  ·omega
  ·obtain⟨g1,g2⟩:=PD (fun x hx=>(List.getElem?_of_mem hx).elim fun k hk=>hev k x hk) he
   have hlb:=(List.getElem?_eq_some_iff.1 h3).1
   refine⟨b1,o1,D1,h1,?_,?_,?_⟩
   ·rw[I.same b1 (by rw[List.length_append];omega) (by omega),List.getElem?_append_left hlb];exact h3
   ·rw[←h4,List.drop_take,List.take_take,show min 32 (cs.length*32-i*32)=32 by omega] at g1
    exact g1
   ·rw[←h4,List.length_take] at g2;omega
 obtain⟨N2,hN2⟩:∃N2:Mem,(i=0∧E=.nilslice∧N2=N)∨∃kr,E=.slice kr 0 i none∧0<i∧(M++Y).length≤kr∧N[kr]? =some (.cells true 32 evs.flatten)∧N2=N.set kr .absent:=by
  rcases I.row with⟨h0,hE⟩ | ⟨kr,hE,h0,hk,hr⟩
  ·exact⟨N,.inl ⟨h0,hE,rfl⟩⟩
  ·exact⟨N.set kr .absent,.inr ⟨kr,hE,h0,hk,hr,rfl⟩⟩
 have hN2l:N2.length=N.length:=by rcases hN2 with⟨_,_,rfl⟩ | ⟨kr,_,_,_,_,rfl⟩<;>simp
 have hN2c:N2[kc]? =some (.cells true 0 [pv,tv,.str ak,E]):=by
  rcases hN2 with⟨_,_,rfl⟩ | ⟨kr,_,_,hk,_,rfl⟩
  ·exact I.cell
  ·rw[List.getElem?_set_ne (by omega)];exact I.cell
 have hap:∀(Z:Mem) (k q:Nat) (e' :List AV),Z.length=k→(N++Z)[q]? =some (.cells true 32 e')→e'.length=32→e'.all AV.cellOk=true→cU (az Tryz.prog) (N++Z) 39 39 E (.slice q 0 1 none)=some (.slice (N.length+k) 0 (i+1) none,N2++(Z++[.cells true 32 (evs.flatten++e')])):=fun Z k q e' hk hq h1 h2=>by
  rw[←hk,←List.length_append,←List.append_assoc]
  refine zD (N2:=N2++Z) hq h1 h2 (by omega) hfl ?_
  rcases hN2 with⟨h0,hE,rfl⟩ | ⟨kr,hE,h0,hk,hr,rfl⟩
  ·exact .inl ⟨h0,hE,rfl⟩
  ·have hkr:=(List.getElem?_eq_some_iff.1 hr).1
   exact .inr ⟨kr,hE,h0,by rw[List.getElem?_append_left hkr];exact hr,by rw[List.set_append_left _ _ hkr]⟩
 have fin:∀(Z:Mem) (p m:Nat) (e' :List AV),Z.length=m→Z.all (fun x=>bG x&&x.refsOk (fun b=>decide (b<N.length+m)))=true→Z[p]? =some (.cells true 32 (evs.flatten++e'))→EvAt (N2.set kc (.cells true 0 [pv,tv,.str ak,.slice (N.length+p) 0 (i+1) none])++Z) e' c→
   CpI (M++Y) kc pv tv cs (N2.set kc (.cells true 0 [pv,tv,.str ak,.slice (N.length+p) 0 (i+1) none])++Z) (i+1) (.slice (N.length+p) 0 (i+1) none) (evs++[e']):=fun Z p m e' hm hok hZ he' =>by
  subst hm
  refine I.step (Z:=Z) hk0 hc _ (N.length+p) ⟨fun h0=>?_,fun kr hE=>?_⟩ ⟨by omega,?_⟩ he' hok
  ·rcases hN2 with⟨_,_,rfl⟩ | ⟨kr,_,h1,_⟩
   ·rfl
   ·omega
  ·rcases hN2 with⟨_,h,_⟩ | ⟨kr',h,_,_,_,rfl⟩
   ·rw[h] at hE;cases hE
   ·rw[h] at hE;cases hE;rfl
  ·rw[List.getElem?_append_right (by rw[List.length_set,hN2l];omega),List.length_set,hN2l,Nat.add_sub_cancel_left];exact hZ
 have hER:∀m,AV.refsOkL (fun b=>decide (b<N.length+m)) evs.flatten=true:=fun m=>iF fun x hx=>by
  obtain⟨k,hk⟩:=List.getElem?_of_mem hx
  have h1:=(List.getElem?_eq_some_iff.1 hk).1
  rw[I.evl] at h1
  exact(I.con k x _ hk (List.getElem?_eq_getElem (by omega))).refs m
 have hat:∀(s:Slot) (Z:Mem) (k:Nat),(N2.set kc s++Z)[N.length+k]? =Z[k]? :=fun s Z k=>by
  rw[List.getElem?_append_right (by rw[List.length_set,hN2l];omega),List.length_set,hN2l,Nat.add_sub_cancel_left]
 obtain⟨b0,u0,s0,kn0,rfl,hB,hU,⟨vs,lvs,hvs,hvc⟩,hK⟩:=heN
 have hSle:=hco.S
 have hU' :=hU
 have n1:(stC c.B).length=c.B.length*1:=by rw[br,Nat.mul_one]
 have n2:(stC c.U).length=c.U.length*1:=by rw[br,Nat.mul_one]
 have n3:(kC c.K).length=c.K.length*2:=by rw[gr,Nat.mul_comm]
 by_cases hS0:c.S.length=0
 ·have hSe:c.S=[]:=List.eq_nil_of_length_eq_zero hS0
  rw[hSe] at lvs hvs hvc
  obtain rfl:s0=.nilslice:=hvs.nil0 rfl
  obtain⟨s',k1,k2⟩:=Mr (m1:=m1) (K:=K) hlt hl10 hlv hb1 hD hD2 hkN hkM I.cell ⟨hN2l,hN2c⟩ hB hU hK hco  ckE cpv ctv hwr (hap _ 8 _ _ rfl (fQ N _ 7) rfl (Evc.all _ (iA _ _) (iA _ _) rfl (iA _ _))) hb h26 h27 h5 (d:=d)
  have hA2:AV.refsOkL (fun b=>decide (b<N.length+9)) (c.cells (clV (N.length+1) c.B.length) (clV (N.length+3) c.U.length) .nilslice (clV (N.length+5) c.K.length))=true:=c.refsL (cA (by omega)) (cA (by omega)) rfl (cA (by omega))
  exact⟨_,_,_,s',k1,k2,fin _ 8 9 (c.cells (clV (N.length+1) c.B.length) (clV (N.length+3) c.U.length) .nilslice (clV (N.length+5) c.K.length)) rfl (by simp only[List.all_cons,List.all_nil,dJ,eD,cW,pO,kQ,AD,AC,dQ,hER,hA2,AV.refsOkL,Bool.and_self]) rfl ⟨_,_,_,_,rfl,wd (by rw[show N.length+1+1=N.length+2 from rfl,hat];rfl) (ns rfl),wd (by rw[show N.length+3+1=N.length+4 from rfl,hat];rfl) (ns rfl),by rw[hSe];exact wL _,wd (by rw[show N.length+5+1=N.length+6 from rfl,hat];rfl) (Nu rfl)⟩⟩
 by_cases hS1:c.S.length=1
 ·obtain⟨L1,hSe⟩:∃L1,c.S=[L1]:=by
    match hm:c.S,hS1 with
    | [L1],_=>exact⟨L1,rfl⟩
  rw[hSe] at lvs hvs hvc
  obtain⟨v1,rfl⟩:∃v1,vs=[v1]:=by
    match vs,lvs with
    | [v1],_=>exact⟨v1,rfl⟩
  obtain⟨bs,os,rfl,hbs⟩:=hvs.pos (by show 0<1;omega)
  obtain⟨s',k1,k2⟩:=Ms (m1:=m1) (K:=K) hlt hl10 hlv hb1 hD hD2 hkN hkM I.cell ⟨hN2l,hN2c⟩ hB hU hK hco (hvc 0 v1 L1 rfl rfl) (hco.SL L1 (by rw[hSe];simp)) hbs ckE cpv ctv hwr (hap _ 12 _ _ rfl (fQ N _ 11) rfl (Evc.all _ (iA _ _) (iA _ _) rfl (iA _ _))) hb h26 h27 h5 (d:=d)
  have hA2:AV.refsOkL (fun b=>decide (b<N.length+13)) (c.cells (clV (N.length+1) c.B.length) (clV (N.length+3) c.U.length) (.slice (N.length+8) 0 1 none) (clV (N.length+9) c.K.length))=true:=c.refsL (cA (by omega)) (cA (by omega)) (by simp only[AV.refsOk,decide_eq_true_eq];omega) (cA (by omega))
  have hV1:(clV (N.length+5) L1.length).refsOk (fun b=>decide (b<N.length+13))=true:=cA (by omega)
  exact⟨_,_,_,s',k1,k2,fin _ 12 13 (c.cells (clV (N.length+1) c.B.length) (clV (N.length+3) c.U.length) (.slice (N.length+8) 0 1 none) (clV (N.length+9) c.K.length)) rfl (by simp only[List.all_cons,List.all_nil,dJ,eD,cW,pO,kQ,AD,AC,dQ,hER,hA2,hV1,AV.refsOkL,Bool.and_self]) rfl ⟨_,_,_,_,rfl,wd (by rw[show N.length+1+1=N.length+2 from rfl,hat];rfl) (ns rfl),wd (by rw[show N.length+3+1=N.length+4 from rfl,hat];rfl) (ns rfl),by rw[hSe];exact⟨[clV (N.length+5) L1.length],rfl,.inr ⟨N.length+8,true,rfl,by simp,by rw[hat];rfl⟩,fun k x L hx hL=>by
    match k,hx,hL with
    |0,hx,hL=>simp at hx hL;subst hx hL;exact wd (by rw[show N.length+5+1=N.length+6 from rfl,hat];rfl) (ns rfl)
    |k+1,hx,hL=>simp at hx⟩,wd (by rw[show N.length+9+1=N.length+10 from rfl,hat];rfl) (Nu rfl)⟩⟩
 have hS2:c.S.length=2:=by omega
 obtain⟨L1,L2,hSe⟩:∃L1 L2,c.S=[L1,L2]:=by
   match hm:c.S,hS2 with
   | [L1,L2],_=>exact⟨L1,L2,rfl⟩
 rw[hSe] at lvs hvs hvc
 obtain⟨v1,v2,rfl⟩:∃v1 v2,vs=[v1,v2]:=by
   match vs,lvs with
   | [v1,v2],_=>exact⟨v1,v2,rfl⟩
 obtain⟨bs,os,rfl,hbs⟩:=hvs.pos (by show 0<2;omega)
 obtain⟨s',k1,k2⟩:=Mt (m1:=m1) (K:=K) hlt hl10 hlv hb1 hD hD2 hkN hkM I.cell ⟨hN2l,hN2c⟩ hB hU hK hco (hvc 0 v1 L1 rfl rfl) (hco.SL L1 (by rw[hSe];simp)) (hvc 1 v2 L2 rfl rfl) (hco.SL L2 (by rw[hSe];simp)) hbs ckE cpv ctv hwr (hap _ 16 _ _ rfl (fQ N _ 15) rfl (Evc.all _ (iA _ _) (iA _ _) rfl (iA _ _))) hb h26 h27 h5 (d:=d)
 have hA2:AV.refsOkL (fun b=>decide (b<N.length+17)) (c.cells (clV (N.length+1) c.B.length) (clV (N.length+3) c.U.length) (.slice (N.length+12) 0 2 none) (clV (N.length+13) c.K.length))=true:=c.refsL (cA (by omega)) (cA (by omega)) (by simp only[AV.refsOk,decide_eq_true_eq];omega) (cA (by omega))
 have hV1:(clV (N.length+5) L1.length).refsOk (fun b=>decide (b<N.length+17))=true:=cA (by omega)
 have hV2:(clV (N.length+9) L2.length).refsOk (fun b=>decide (b<N.length+17))=true:=cA (by omega)
 exact⟨_,_,_,s',k1,k2,fin _ 16 17 (c.cells (clV (N.length+1) c.B.length) (clV (N.length+3) c.U.length) (.slice (N.length+12) 0 2 none) (clV (N.length+13) c.K.length)) rfl (by simp only[List.all_cons,List.all_nil,dJ,eD,cW,pO,kQ,AD,AC,dQ,hER,hA2,hV1,hV2,AV.refsOkL,Bool.and_self]) rfl ⟨_,_,_,_,rfl,wd (by rw[show N.length+1+1=N.length+2 from rfl,hat];rfl) (ns rfl),wd (by rw[show N.length+3+1=N.length+4 from rfl,hat];rfl) (ns rfl),by rw[hSe];exact⟨[clV (N.length+5) L1.length,clV (N.length+9) L2.length],rfl,.inr ⟨N.length+12,true,rfl,by simp,by rw[hat];rfl⟩,fun k x L hx hL=>by
   match k,hx,hL with
   |0,hx,hL=>simp at hx hL;subst hx hL;exact wd (by rw[show N.length+5+1=N.length+6 from rfl,hat];rfl) (ns rfl)
   |1,hx,hL=>simp at hx hL;subst hx hL;exact wd (by rw[show N.length+9+1=N.length+10 from rfl,hat];rfl) (ns rfl)
   |k+2,hx,hL=>simp at hx⟩,wd (by rw[show N.length+13+1=N.length+14 from rfl,hat];rfl) (Nu rfl)⟩⟩
set_option maxHeartbeats 4000000 in
theorem Dk{M:Mem}{l:AV}{cs:List Evc}(H:EvsAt M l cs) (hok:∀c∈cs,c.Ok) (hl10:cs.length≤10) {N0:Mem}{kc:Nat}{pv tv:AV}(hN0:∃Y,N0=M++Y) (hkM:M.length≤kc) (hcell:N0[kc]? =some (.cells true 0 [pv,tv,.str ak,.nilslice])) (cpv:pv.cellOk=true) (ctv:tv.cellOk=true) {b bi:Code}(hb:am Tryz.f39=[b,bi]):
  ∃F:Env→Bool→Env×Mem×(AV×List (List AV)),∀env0 d,(ac env0 26=l∧ac env0 27=.int .i64 cs.length∧ac env0 5=.ptr kc 0∧ac env0 28=.int .i64 0)→
   aO (az Tryz.prog) eI (dR cR) 20 75 M.length true (.loop b) ⟨env0,N0,d⟩=some (.exit 0,⟨(F env0 d).1,(F env0 d).2.1,d⟩)∧(CpI N0 kc pv tv cs (F env0 d).2.1 cs.length (F env0 d).2.2.1 (F env0 d).2.2.2∧ac (F env0 d).1 4=ac env0 4∧ac (F env0 d).1 5=.ptr kc 0):=by
 have hk0:=(List.getElem?_eq_some_iff.1 hcell).1
 refine ng (L:=[28,28,28]) (by simp[am,aJ,Tryz.f39] at hb;rw[←hb.1];rfl) (fun env0=>ac env0 26=l∧ac env0 27=.int .i64 cs.length∧ac env0 5=.ptr kc 0∧ac env0 28=.int .i64 0) (fun env0 env' N' (x:AV×List (List AV))=>CpI N0 kc pv tv cs N' cs.length x.1 x.2∧ac env' 4=ac env0 4∧ac env' 5=.ptr kc 0) ?_
 rintro env0 d ⟨h26,h27,h5,h28⟩
 have hn:ay [28,28,28] (ad b) env0 ((28,.int .i64 ((0:Nat):Int))::env0)=ay [28,28,28] (ad b) env0 env0:=by simp[ay,h28]
 rw[←hn]
 refine lU (α:=Nat×Mem×AV×List (List AV)) (fun a=>⟨ay [28,28,28] (ad b) env0 ((28,.int .i64 (a.1:Int))::env0),a.2.1,d⟩) (fun a=>cs.length-a.1)
  (fun a=>a.1≤cs.length∧CpI N0 kc pv tv cs a.2.1 a.1 a.2.2.1 a.2.2.2) (.exit 0) d (fun env' N' =>∃x:AV×List (List AV),CpI N0 kc pv tv cs N' cs.length x.1 x.2∧ac env' 4=ac env0 4∧ac env' 5=.ptr kc 0) (by simp) ?_ 20 (0,N0,.nilslice,[])
  ⟨by simp,⟨Nat.le_refl _,fun _ _ _=>rfl,hcell,rfl,.inl ⟨rfl,rfl⟩,fun k e c h=>by simp at h,Keep3.refl _,fun k x hk h=>absurd (List.getElem?_eq_some_iff.1 h).1 (Nat.not_lt.2 hk)⟩⟩ (by simp only;omega)
 rintro ⟨i,N,E,evs⟩ ⟨hi,I⟩
 simp only at hi I
 clear hn
 by_cases hlt:i<cs.length
 ·left
  obtain⟨N',E',evs',s',k1,k2,k3⟩:=Dl (K:=16) (m1:=N0.length) H hok hl10 hN0 hkM hk0 cpv ctv I hlt hb h26 h27 h5 (d:=d)
  exact⟨(i+1,N',E',evs'),s',k1,k2,⟨by simp only;omega,k3⟩,by simp only;omega⟩
 ·right
  have e:i=cs.length:=by omega
  subst e
  have:∃env',aO (az Tryz.prog) eI (dR cR) 20 75 M.length true b ⟨ay [28,28,28] (ad b) env0 ((28,.int .i64 (cs.length:Int))::env0),N,d⟩=some (.exit 0,⟨env',N,d⟩)∧ac env' 4=ac env0 4∧ac env' 5=.ptr kc 0:=by
   clear I H hcell
   simp[am,aJ,Tryz.f39] at hb
   obtain⟨hb,_⟩:=hb
   subst hb
   simp[h27,h5]
  obtain⟨env',k1,k2,k3⟩:=this
  exact⟨env',N,k1,(E,evs),I,k2,k3⟩
set_option maxRecDepth 16384 in
set_option maxHeartbeats 8000000 in
theorem Ie{O:Oracle}{M:Mem}{pv tv ev l pv' tv' :AV}{XP XT:Slot}{n:Nat}{F:Env→Bool→Env×Mem×(AV×List (List AV))}{b bi:Code}(hb:am Tryz.f39=[b,bi])
  (cp:pv.cellOk=true) (ct:tv.cellOk=true) (ce:ev.cellOk=true) (rp:∀j,AV.refsOk (fun a=>decide (a<M.length+j)) pv=true) (rt:∀j,AV.refsOk (fun a=>decide (a<M.length+j)) tv=true)
  (cpq:pv'.cellOk=true) (kpq:pv'.known=true) (lpq:pv'.cells=[pv']) (rpq:∀j,M.length+5≤j→AV.refsOk (fun a=>decide (a<j)) pv' =true)
  (ctq:tv'.cellOk=true) (ktq:tv'.known=true) (ltq:tv'.cells=[tv']) (rtq:∀j,M.length+7≤j→AV.refsOk (fun a=>decide (a<j)) tv' =true)
  (oXP:bG XP=true) (fXP:∀f,Slot.refsOk f XP=true) (oXT:bG XT=true) (fXT:∀f,Slot.refsOk f XT=true)
  (hlen:∀N,gI (az Tryz.prog) 39 N l=some (.int .i64 n))
  (eP:O (.fn 69) [pv] (M++[.cells true 0 [pv,tv,.str ak,ev],.cells true 0 [.nilslice,.nilslice,.str [],.nilslice],.cells true 0 [.nilslice,.nilslice,.str ak,.nilslice]])=some ⟨pv',none,[.absent,XP]⟩)
  (eT:O (.fn 70) [tv] (M++[.cells true 0 [pv,tv,.str ak,ev],.cells true 0 [.nilslice,.nilslice,.str [],.nilslice],.cells true 0 [.nilslice,.nilslice,.str ak,.nilslice],.absent,XP])=some ⟨tv',none,[.absent,XT]⟩)
  (hF1:∀env0 d,(ac env0 26=l∧ac env0 27=.int .i64 n∧ac env0 5=.ptr (M.length+2) 0∧ac env0 28=.int .i64 0)→aO (az Tryz.prog) eI O 20 75 M.length true (.loop b) ⟨env0,M++[.cells true 0 [pv,tv,.str ak,ev],.cells true 0 [.nilslice,.nilslice,.str [],.nilslice],.cells true 0 [pv',tv',.str ak,.nilslice],.absent,XP,.absent,XT],d⟩=some (.exit 0,⟨(F env0 d).1,(F env0 d).2.1,d⟩))
  (hF2:∀env0 d,(ac env0 26=l∧ac env0 27=.int .i64 n∧ac env0 5=.ptr (M.length+2) 0∧ac env0 28=.int .i64 0)→(F env0 d).2.1[M.length+2]? =some (.cells true 0 [pv',tv',.str ak,(F env0 d).2.2.1]))
  (hF3:∀env0 d,(ac env0 26=l∧ac env0 27=.int .i64 n∧ac env0 5=.ptr (M.length+2) 0∧ac env0 28=.int .i64 0)→(F env0 d).2.1[M.length+1]? =some (.cells true 0 [.nilslice,.nilslice,.str [],.nilslice]))
  (hF4:∀env0 d,(ac env0 26=l∧ac env0 27=.int .i64 n∧ac env0 5=.ptr (M.length+2) 0∧ac env0 28=.int .i64 0)→(F env0 d).2.2.1.cellOk=true)
  (hF5:∀env0 d,(ac env0 26=l∧ac env0 27=.int .i64 n∧ac env0 5=.ptr (M.length+2) 0∧ac env0 28=.int .i64 0)→ac (F env0 d).1 4=ac env0 4)
  (hF6:∀env0 d,(ac env0 26=l∧ac env0 27=.int .i64 n∧ac env0 5=.ptr (M.length+2) 0∧ac env0 28=.int .i64 0)→ac (F env0 d).1 5=.ptr (M.length+2) 0)
  (hF7:∀env0 d,(ac env0 26=l∧ac env0 27=.int .i64 n∧ac env0 5=.ptr (M.length+2) 0∧ac env0 28=.int .i64 0)→M.length+1<(F env0 d).2.1.length):
  ∃env0 d,(ac env0 26=l∧ac env0 27=.int .i64 n∧ac env0 5=.ptr (M.length+2) 0∧ac env0 28=.int .i64 0)∧aT (az Tryz.prog) eI (aI Tryz.prog) O 20 39 [.agg [pv,tv,.str ak,ev],l] M=some (.agg [pv',tv',.str ak,(F env0 d).2.2.1],(F env0 d).2.1.set (M.length+1) (.cells true 0 [pv',tv',.str ak,(F env0 d).2.2.1])):=by
 have hG:aI Tryz.prog 39=some Tryz.f39:=by kernel_rfl
 obtain⟨os',hops⟩:∃os',aG Tryz.f39=os' :=⟨_,rfl⟩
 have hbs' :=aV hops (ls:=[[0,1,3,7,0,16,48,127,15,271,1023,2047,4095,8191],[0,1,3,7,0,16,48,127,127,383,1023,2047,4095,8191]]) (by kernel_rfl)
 simp only[aG,bC,Tryz.f39,List.nil_append,List.append_nil,List.cons_append] at hops
 subst hops
 simp only[List.map_cons,List.map_nil,List.cons.injEq,and_true] at hbs'
 obtain⟨hb0,_⟩:=hbs'
 simp[am,aJ,Tryz.f39] at hb
 obtain⟨hb,_⟩:=hb
 subst hb
 have hjl:∀j,(M.length+j<M.length)=False:=fun j=>fm _ _
 have rp_3:=rp 3
 have rp_5:=rp 5
 have rp_7:=rp 7
 have rt_3:=rt 3
 have rt_5:=rt 5
 have rt_7:=rt 7
 have rt_s:AV.refsOk (fun b=> !decide (M.length+3≤b)|| !decide (b<M.length+5)) tv=true:=AV.refsOk_mono (fun b hb=>by
  simp only[decide_eq_true_eq] at hb
  have:¬M.length+3≤b:=by omega
  simp[this]) tv (rt 0)
 have hF8:∀env0 d,(ac env0 26=l∧ac env0 27=.int .i64 n∧ac env0 5=.ptr (M.length+2) 0∧ac env0 28=.int .i64 0)→∀s,((F env0 d).2.1.set (M.length+1) s)[M.length+1]? =some s:=fun env0 d h s=>List.getElem?_set_self (hF7 env0 d h)
 have rpq_5:=rpq (M.length+5) (by omega)
 have rpq_7:=rpq (M.length+7) (by omega)
 have rtq_7:=rtq (M.length+7) (by omega)
 have h:∃r,aT (az Tryz.prog) eI (aI Tryz.prog) O 20 39 [.agg [pv,tv,.str ak,ev],l] M=some r∧∃env0 d,(ac env0 26=l∧ac env0 27=.int .i64 n∧ac env0 5=.ptr (M.length+2) 0∧ac env0 28=.int .i64 0)∧r=(.agg [pv',tv',.str ak,(F env0 d).2.2.1],(F env0 d).2.1.set (M.length+1) (.cells true 0 [pv',tv',.str ak,(F env0 d).2.2.1])):=by
  simp[-Bool.exists_bool,-getElem?_pos,-AV.cellOk,-AV.known,-AV.cells,-cX,-bc,-aU,-aF,-AV.refsOk,-Slot.refsOk,-List.all_eq_true,vS,rS,mS,cM,cu hb0,dT,cL,gC,dO,cf,nL,bef,Nat.testBit,bB,ar,-gI,hlen,aT,hG,Tryz.f39,eP,eT,cp,ct,ce,rp_3,rp_5,rp_7,rt_3,rt_5,rt_7,rt_s,cpq,kpq,lpq,rpq_5,rpq_7,ctq,ktq,ltq,rtq_7,oXP,fXP,oXT,fXT,hjl,hF1,hF2,hF3,hF4,hF5,hF6,hF8]
  refine⟨_,⟨?_,?_,?_,?_⟩,_,rfl,rfl⟩<;>rfl
 obtain⟨r,h1,env0,d,h2,rfl⟩:=h
 exact⟨env0,d,h2,h1⟩
def HcAt(N:Mem) (h:List AV) (s:Sheet) (cs:List Evc):Prop:=∃pv tv ev,h=[pv,tv,.str ak,ev]∧RowAt N pv 2 s.P.length (pC s.P)∧RowAt N tv 3 s.T.length (tC s.T)∧EvsAt N ev cs
theorem HcAt.more{N:Mem}{h:List AV}{s:Sheet}{cs:List Evc}(H:HcAt N h s cs) (Z:Mem):HcAt (N++Z) h s cs:=by
 obtain⟨pv,tv,ev,h1,h2,h3,h4⟩:=H
 exact⟨pv,tv,ev,h1,h2.more Z,h3.more Z,h4.more Z⟩
theorem EvsAt.ck{N:Mem}{v:AV}{cs:List Evc}(h:EvsAt N v cs):v.cellOk=true:=by
 obtain⟨evs,_,h,_⟩:=h
 rcases h with⟨_,_,rfl | ⟨b,rfl⟩⟩ | ⟨b,o,D,rfl,_⟩<;>rfl
theorem Gd{m:Mem}{v w:AV}{P:List P2}(hl:P.length≤1000) (hv:RowAt m v 2 P.length (pC P)) (hw:RowAt m w 2 P.length (pC P)):ACallsTo Tryz.prog 46 [v,w] m (.bool true) m:=by
 rw[Hh,←iD] at hv hw
 exact Qd (by rw[iD];exact hl) hv hw
def gV(pv pv' tv tv' ev ev' :AV) (B:Bool) (m:Mem) (c:Go.Eng.Callee) (a:List AV) (N:Mem) (r:CallRes):Prop:=(∃Z,N=m++Z)∧((c=.fn 46∧a=[pv,pv']∧r=⟨.bool true,none,[]⟩)∨(c=.fn 47∧a=[tv,tv']∧r=⟨.bool true,none,[]⟩)∨(c=.fn 48∧a=[ev,ev',.func 49 []]∧r=⟨.bool B,none,[]⟩))
section
variable {pv pv' tv tv' ev ev' :AV}{B:Bool}{m:Mem}
theorem FA(Z:Mem):dR (gV pv pv' tv tv' ev ev' B m) (.fn 46) [pv,pv'] (m++Z)=some ⟨.bool true,none,[]⟩:=
 cv (S:=gV pv pv' tv tv' ev ev' B m) ⟨⟨Z,rfl⟩,.inl ⟨rfl,rfl,rfl⟩⟩ fun r' h=>by
  rcases h.2 with⟨_,_,h⟩ | ⟨h,_⟩ | ⟨h,_⟩
  ·exact h
  ·cases h
  ·cases h
theorem FB(Z:Mem):dR (gV pv pv' tv tv' ev ev' B m) (.fn 47) [tv,tv'] (m++Z)=some ⟨.bool true,none,[]⟩:=
 cv (S:=gV pv pv' tv tv' ev ev' B m) ⟨⟨Z,rfl⟩,.inr (.inl ⟨rfl,rfl,rfl⟩)⟩ fun r' h=>by
  rcases h.2 with⟨h,_⟩ | ⟨_,_,h⟩ | ⟨h,_⟩
  ·cases h
  ·exact h
  ·cases h
theorem FC(Z:Mem):dR (gV pv pv' tv tv' ev ev' B m) (.fn 48) [ev,ev',.func 49 []] (m++Z)=some ⟨.bool B,none,[]⟩:=
 cv (S:=gV pv pv' tv tv' ev ev' B m) ⟨⟨Z,rfl⟩,.inr (.inr ⟨rfl,rfl,rfl⟩)⟩ fun r' h=>by
  rcases h.2 with⟨h,_⟩ | ⟨h,_⟩ | ⟨_,_,h⟩
  ·cases h
  ·cases h
  ·exact h
end
noncomputable def bW:Array Oper:=match Tryz.f17.body with
 |some (.seq _ (.seq (.region _ ops _) _))=>ops
 |_=> #[]
noncomputable def xE:Array Oper:=match Tryz.f17.body with
 |some (.seq (.region _ ops _) _)=>ops
 |_=> #[]
noncomputable def ob:List Oper:=(bW.toList.drop 0).take 6
noncomputable def oc:List Oper:=(bW.toList.drop 6).take 9
noncomputable def og:List Oper:=(bW.toList.drop 15).take 9
noncomputable def oh:List Oper:=(bW.toList.drop 24).take 7
theorem Fz:bW.toList=ob++(oc++(og++(oh))):=by kernel_rfl
set_option maxRecDepth 4000 in
theorem IC{O:Oracle}{m0:Nat}{ops:Array Oper}{env:Env}{mem:Mem}{d B:Bool}{p q:Nat}{pv tv ev pv' tv' ev' :AV}(h2:ac env 2=.ptr p 0) (h3:ac env 3=.ptr q 0) (hp:mem[p]? =some (.cells true 0 [pv,tv,.str ak,ev])) (hq:mem[q]? =some (.cells true 0 [pv',tv',.str ak,ev'])):
  ∃env',bt (az Tryz.prog) O 35 m0 ops ob ⟨env,mem,d⟩=some ⟨env',mem,d⟩∧ac env' 2=.ptr p 0∧ac env' 3=.ptr q 0∧ac env' 10=.bool true:=by
 simp[ob,bW,Tryz.f17,h2,h3,hp,hq]
set_option maxRecDepth 4000 in
theorem ID{O:Oracle}{m0:Nat}{ops:Array Oper}{env:Env}{mem:Mem}{d B:Bool}{p q:Nat}{pv tv ev pv' tv' ev' :AV}(h2:ac env 2=.ptr p 0) (h3:ac env 3=.ptr q 0) (hp:mem[p]? =some (.cells true 0 [pv,tv,.str ak,ev])) (hq:mem[q]? =some (.cells true 0 [pv',tv',.str ak,ev'])) (hg:(ops[5]?).bind (fun x=>x.dst)=some 10) (h1:ac env 10=.bool true) (hO1:O (.fn 46) [pv,pv'] mem=some ⟨.bool true,none,[]⟩):
  ∃env',bt (az Tryz.prog) O 35 m0 ops oc ⟨env,mem,d⟩=some ⟨env',mem,d⟩∧ac env' 2=.ptr p 0∧ac env' 3=.ptr q 0∧ac env' 19=.bool true:=by
 simp[oc,bW,Tryz.f17,h2,h3,hp,hq,hg,h1,hO1]
set_option maxRecDepth 4000 in
theorem IE{O:Oracle}{m0:Nat}{ops:Array Oper}{env:Env}{mem:Mem}{d B:Bool}{p q:Nat}{pv tv ev pv' tv' ev' :AV}(h2:ac env 2=.ptr p 0) (h3:ac env 3=.ptr q 0) (hp:mem[p]? =some (.cells true 0 [pv,tv,.str ak,ev])) (hq:mem[q]? =some (.cells true 0 [pv',tv',.str ak,ev'])) (hg:(ops[14]?).bind (fun x=>x.dst)=some 19) (h1:ac env 19=.bool true) (hO2:O (.fn 47) [tv,tv'] mem=some ⟨.bool true,none,[]⟩):
  ∃env',bt (az Tryz.prog) O 35 m0 ops og ⟨env,mem,d⟩=some ⟨env',mem,d⟩∧ac env' 2=.ptr p 0∧ac env' 3=.ptr q 0∧ac env' 28=.bool true:=by
 simp[og,bW,Tryz.f17,h2,h3,hp,hq,hg,h1,hO2]
set_option maxRecDepth 4000 in
theorem IF{O:Oracle}{m0:Nat}{ops:Array Oper}{env:Env}{mem:Mem}{d B:Bool}{p q:Nat}{pv tv ev pv' tv' ev' :AV}(h2:ac env 2=.ptr p 0) (h3:ac env 3=.ptr q 0) (hp:mem[p]? =some (.cells true 0 [pv,tv,.str ak,ev])) (hq:mem[q]? =some (.cells true 0 [pv',tv',.str ak,ev'])) (hg:(ops[23]?).bind (fun x=>x.dst)=some 28) (h1:ac env 28=.bool true) (hO3:O (.fn 48) [ev,ev',.func 49 []] mem=some ⟨.bool B,none,[]⟩):
  ∃env',bt (az Tryz.prog) O 35 m0 ops oh ⟨env,mem,d⟩=some ⟨env',mem,d⟩∧ac env' 2=.ptr p 0∧ac env' 3=.ptr q 0∧ac env' 4=.bool B:=by
 simp[oh,bW,Tryz.f17,h2,h3,hp,hq,hg,h1,hO3]
theorem KS{O:Oracle}{m0:Nat}{env:Env}{mem:Mem}{d B:Bool}{p q:Nat}{pv tv ev pv' tv' ev' :AV}(h2:ac env 2=.ptr p 0) (h3:ac env 3=.ptr q 0) (hp:mem[p]? =some (.cells true 0 [pv,tv,.str ak,ev])) (hq:mem[q]? =some (.cells true 0 [pv',tv',.str ak,ev'])) (hO1:O (.fn 46) [pv,pv'] mem=some ⟨.bool true,none,[]⟩) (hO2:O (.fn 47) [tv,tv'] mem=some ⟨.bool true,none,[]⟩) (hO3:O (.fn 48) [ev,ev',.func 49 []] mem=some ⟨.bool B,none,[]⟩):
  ∃env',bt (az Tryz.prog) O 35 m0 bW bW.toList ⟨env,mem,d⟩=some ⟨env',mem,d⟩∧ac env' 4=.bool B:=by
 have g1:(bW[5]?).bind (fun x=>x.dst)=some 10:=by kernel_rfl
 have g2:(bW[14]?).bind (fun x=>x.dst)=some 19:=by kernel_rfl
 have g3:(bW[23]?).bind (fun x=>x.dst)=some 28:=by kernel_rfl
 obtain⟨e0,r0,h2_0,h3_0,b0⟩:=IC (O:=O) (m0:=m0) (ops:=bW) (d:=d) (B:=B) h2 h3 hp hq
 obtain⟨e1,r1,h2_1,h3_1,b1⟩:=ID (O:=O) (m0:=m0) (ops:=bW) (d:=d) (B:=B) h2_0 h3_0 hp hq g1 b0 hO1
 obtain⟨e2,r2,h2_2,h3_2,b2⟩:=IE (O:=O) (m0:=m0) (ops:=bW) (d:=d) (B:=B) h2_1 h3_1 hp hq g2 b1 hO2
 obtain⟨e3,r3,h2_3,h3_3,b3⟩:=IF (O:=O) (m0:=m0) (ops:=bW) (d:=d) (B:=B) h2_2 h3_2 hp hq g3 b2 hO3
 exact⟨e3,by rw[Fz];exact aZ r0 (aZ r1 (aZ r2 (r3))),b3⟩
set_option maxRecDepth 8192 in
theorem tN{m:Mem}{h h' :List AV}{s:Sheet}{cs ds:List Evc}(H:HcAt m h s cs) (H' :HcAt m h' s ds) (hok:∀c∈cs,c.Ok) (hl:cs.length≤1000) (B:Bool) (hB:B=true∧cs=ds∨B=false∧cs.length≠ds.length):
  ACallsTo Tryz.prog 17 [.agg h,.agg h'] m (.bool B) m:=by
 have hG:aI Tryz.prog 17=some Tryz.f17:=by kernel_rfl
 obtain⟨hn,hn2⟩:=eJ s
 have ht2:s.T.length≤1000:=by
  have:∀k<8,(ba k).length≤1000:=by decide
  exact this _ (Nat.mod_lt _ (by decide))
 obtain⟨pv,tv,ev,rfl,p1,t1,e1⟩:=H
 obtain⟨pv',tv',ev',rfl,p2,t2,e2⟩:=H'
 have hOk:OracleOk Tryz.prog (dR (gV pv pv' tv tv' ev ev' B m)):=kH fun c a N r hr=>by
  obtain⟨⟨Z,rfl⟩,hr⟩:=hr
  rcases hr with⟨rfl,rfl,rfl⟩ | ⟨rfl,rfl,rfl⟩ | ⟨rfl,rfl,rfl⟩
  ·exact ap (by simpa using Gd hn2 (p1.more Z) (p2.more Z))
  ·exact ap (by simpa using MM ht2 (t1.more Z) (t2.more Z))
  ·rcases hB with⟨rfl,rfl⟩ | ⟨rfl,hne⟩
   ·exact ap (by simpa using F9 (e1.more Z) (e2.more Z) hok hl)
   ·exact ap (by simpa using xP (e1.more Z) (e2.more Z) hne)
 have c1:=p1.ck
 have c2:=t1.ck
 have c3:=e1.ck
 have c4:=p2.ck
 have c5:=t2.ck
 have c6:=e2.ck
 have f1:=FA (pv:=pv) (pv' :=pv') (tv:=tv) (tv' :=tv') (ev:=ev) (ev' :=ev') (B:=B) (m:=m) [.cells true 0 [pv,tv,.str ak,ev],.cells true 0 [pv',tv',.str ak,ev']]
 have f2:=FB (pv:=pv) (pv' :=pv') (tv:=tv) (tv' :=tv') (ev:=ev) (ev' :=ev') (B:=B) (m:=m) [.cells true 0 [pv,tv,.str ak,ev],.cells true 0 [pv',tv',.str ak,ev']]
 have f3:=FC (pv:=pv) (pv' :=pv') (tv:=tv) (tv' :=tv') (ev:=ev) (ev' :=ev') (B:=B) (m:=m) [.cells true 0 [pv,tv,.str ak,ev],.cells true 0 [pv',tv',.str ak,ev']]
 obtain⟨O,hOe⟩:∃O,O=dR (gV pv pv' tv tv' ev ev' B m):=⟨_,rfl⟩
 rw[←hOe] at hOk f1 f2 f3
 clear hOe p1 p2 t1 t2 e1 e2 hB
 obtain⟨ops,hops⟩:∃o,o=bW:=⟨_,rfl⟩
 obtain⟨F,hF⟩:=kX (p:=fun e (_:Bool)=>ac e 2=.ptr m.length 0∧ac e 3=.ptr (m.length+1) 0) (q:=fun env (_:Bool) env' =>bt (az Tryz.prog) O 35 m.length ops ops.toList ⟨env,(m++[.cells true 0 [pv,tv,.str ak,ev],.cells true 0 [pv',tv',.str ak,ev']]),false⟩=some ⟨env',(m++[.cells true 0 [pv,tv,.str ak,ev],.cells true 0 [pv',tv',.str ak,ev']]),false⟩∧ac env' 4=.bool B) (fun env _ h=>by
  subst hops
  have hp:((m++[.cells true 0 [pv,tv,.str ak,ev],.cells true 0 [pv',tv',.str ak,ev']]))[m.length]? =some (.cells true 0 [pv,tv,.str ak,ev]):=by simp
  have hq:((m++[.cells true 0 [pv,tv,.str ak,ev],.cells true 0 [pv',tv',.str ak,ev']]))[m.length+1]? =some (.cells true 0 [pv',tv',.str ak,ev']):=by simp
  exact KS h.1 h.2 hp hq f1 f2 f3)
 have hF1:=fun env h2 h3=>(hF env false ⟨h2,h3⟩).1
 have hF2:=fun env h2 h3=>(hF env false ⟨h2,h3⟩).2
 have hr:ab (az Tryz.prog) (fun _=>[]) (aI Tryz.prog) O 1 17 [.agg [pv,tv,.str ak,ev],.agg [pv',tv',.str ak,ev']] m=some ⟨.bool B,none,[]⟩:=by
  have hb:Tryz.f17.body=some (.seq (.region 0 xE false) (.seq (.region 1 ops false) .ret)):=by rw[hops];kernel_rfl
  unfold ab
  rw[hG]
  dsimp only
  rw[hb]
  dsimp only
  simp[-AV.cellOk,gW,qo,qi,kN,qj,qm,c1,c2,c3,c4,c5,c6,hF1,hF2,xE,Tryz.f17]
 have:=(ae aa (ai _) hOk (aj _) hr).1
 simpa [CallRes.mem] using this
noncomputable def bY:Array Oper:=match Tryz.f14.body with
 |some (.seq _ (.seq (.region _ ops _) _))=>ops
 |_=> #[]
noncomputable def xU:Array Oper:=match Tryz.f14.body with
 |some (.seq (.region _ ops _) _)=>ops
 |_=> #[]
noncomputable def ou:List Oper:=(bY.toList.drop 0).take 8
noncomputable def ov:List Oper:=(bY.toList.drop 8).take 9
noncomputable def oz:List Oper:=(bY.toList.drop 17).take 7
noncomputable def oA:List Oper:=(bY.toList.drop 24).take 7
theorem Gh:bY.toList=ou++(ov++(oz++(oA))):=by kernel_rfl
set_option maxRecDepth 4000 in
theorem IU{O:Oracle}{m0:Nat}{ops:Array Oper}{env:Env}{mem:Mem}{d B:Bool}{p q:Nat}{pv tv ev pv' tv' ev' :AV}(h2:ac env 2=.ptr p 0) (h3:ac env 3=.ptr q 0) (hp:mem[p]? =some (.cells true 0 [pv,tv,.str ak,ev])) (hq:mem[q]? =some (.cells true 0 [pv',tv',.str ak,ev'])) (hO1:O (.fn 46) [pv,pv'] mem=some ⟨.bool true,none,[]⟩):
  ∃env',bt (az Tryz.prog) O 35 m0 ops ou ⟨env,mem,d⟩=some ⟨env',mem,d⟩∧ac env' 2=.ptr p 0∧ac env' 3=.ptr q 0∧ac env' 12=.bool true:=by
 simp[ou,bY,Tryz.f14,h2,h3,hp,hq,hO1]
set_option maxRecDepth 4000 in
theorem IV{O:Oracle}{m0:Nat}{ops:Array Oper}{env:Env}{mem:Mem}{d B:Bool}{p q:Nat}{pv tv ev pv' tv' ev' :AV}(h2:ac env 2=.ptr p 0) (h3:ac env 3=.ptr q 0) (hp:mem[p]? =some (.cells true 0 [pv,tv,.str ak,ev])) (hq:mem[q]? =some (.cells true 0 [pv',tv',.str ak,ev'])) (hg:(ops[7]?).bind (fun x=>x.dst)=some 12) (h1:ac env 12=.bool true) (hO2:O (.fn 47) [tv,tv'] mem=some ⟨.bool true,none,[]⟩):
  ∃env',bt (az Tryz.prog) O 35 m0 ops ov ⟨env,mem,d⟩=some ⟨env',mem,d⟩∧ac env' 2=.ptr p 0∧ac env' 3=.ptr q 0∧ac env' 21=.bool true:=by
 simp[ov,bY,Tryz.f14,h2,h3,hp,hq,hg,h1,hO2]
set_option maxRecDepth 4000 in
theorem IW{O:Oracle}{m0:Nat}{ops:Array Oper}{env:Env}{mem:Mem}{d B:Bool}{p q:Nat}{pv tv ev pv' tv' ev' :AV}(h2:ac env 2=.ptr p 0) (h3:ac env 3=.ptr q 0) (hp:mem[p]? =some (.cells true 0 [pv,tv,.str ak,ev])) (hq:mem[q]? =some (.cells true 0 [pv',tv',.str ak,ev'])) (hg:(ops[16]?).bind (fun x=>x.dst)=some 21) (h1:ac env 21=.bool true):
  ∃env',bt (az Tryz.prog) O 35 m0 ops oz ⟨env,mem,d⟩=some ⟨env',mem,d⟩∧ac env' 2=.ptr p 0∧ac env' 3=.ptr q 0∧ac env' 28=.bool true:=by
 simp[oz,bY,Tryz.f14,h2,h3,hp,hq,hg,h1]
set_option maxRecDepth 4000 in
theorem IX{O:Oracle}{m0:Nat}{ops:Array Oper}{env:Env}{mem:Mem}{d B:Bool}{p q:Nat}{pv tv ev pv' tv' ev' :AV}(h2:ac env 2=.ptr p 0) (h3:ac env 3=.ptr q 0) (hp:mem[p]? =some (.cells true 0 [pv,tv,.str ak,ev])) (hq:mem[q]? =some (.cells true 0 [pv',tv',.str ak,ev'])) (hg:(ops[23]?).bind (fun x=>x.dst)=some 28) (h1:ac env 28=.bool true) (hO3:O (.fn 48) [ev,ev',.func 49 []] mem=some ⟨.bool B,none,[]⟩):
  ∃env',bt (az Tryz.prog) O 35 m0 ops oA ⟨env,mem,d⟩=some ⟨env',mem,d⟩∧ac env' 2=.ptr p 0∧ac env' 3=.ptr q 0∧ac env' 4=.bool B:=by
 simp[oA,bY,Tryz.f14,h2,h3,hp,hq,hg,h1,hO3]
theorem Ln{O:Oracle}{m0:Nat}{env:Env}{mem:Mem}{d B:Bool}{p q:Nat}{pv tv ev pv' tv' ev' :AV}(h2:ac env 2=.ptr p 0) (h3:ac env 3=.ptr q 0) (hp:mem[p]? =some (.cells true 0 [pv,tv,.str ak,ev])) (hq:mem[q]? =some (.cells true 0 [pv',tv',.str ak,ev'])) (hO1:O (.fn 46) [pv,pv'] mem=some ⟨.bool true,none,[]⟩) (hO2:O (.fn 47) [tv,tv'] mem=some ⟨.bool true,none,[]⟩) (hO3:O (.fn 48) [ev,ev',.func 49 []] mem=some ⟨.bool B,none,[]⟩):
  ∃env',bt (az Tryz.prog) O 35 m0 bY bY.toList ⟨env,mem,d⟩=some ⟨env',mem,d⟩∧ac env' 4=.bool B:=by
 have g1:(bY[7]?).bind (fun x=>x.dst)=some 12:=by kernel_rfl
 have g2:(bY[16]?).bind (fun x=>x.dst)=some 21:=by kernel_rfl
 have g3:(bY[23]?).bind (fun x=>x.dst)=some 28:=by kernel_rfl
 obtain⟨e0,r0,h2_0,h3_0,b0⟩:=IU (O:=O) (m0:=m0) (ops:=bY) (d:=d) (B:=B) h2 h3 hp hq hO1
 obtain⟨e1,r1,h2_1,h3_1,b1⟩:=IV (O:=O) (m0:=m0) (ops:=bY) (d:=d) (B:=B) h2_0 h3_0 hp hq g1 b0 hO2
 obtain⟨e2,r2,h2_2,h3_2,b2⟩:=IW (O:=O) (m0:=m0) (ops:=bY) (d:=d) (B:=B) h2_1 h3_1 hp hq g2 b1
 obtain⟨e3,r3,h2_3,h3_3,b3⟩:=IX (O:=O) (m0:=m0) (ops:=bY) (d:=d) (B:=B) h2_2 h3_2 hp hq g3 b2 hO3
 exact⟨e3,by rw[Gh];exact aZ r0 (aZ r1 (aZ r2 (r3))),b3⟩
set_option maxRecDepth 8192 in
theorem qB{m:Mem}{h h' :List AV}{s:Sheet}{cs ds:List Evc}(H:HcAt m h s cs) (H' :HcAt m h' s ds) (hok:∀c∈cs,c.Ok) (hl:cs.length≤1000) (B:Bool) (hB:B=true∧cs=ds∨B=false∧cs.length≠ds.length):
  ACallsTo Tryz.prog 14 [.agg h,.agg h'] m (.bool B) m:=by
 have hG:aI Tryz.prog 14=some Tryz.f14:=by kernel_rfl
 obtain⟨hn,hn2⟩:=eJ s
 have ht2:s.T.length≤1000:=by
  have:∀k<8,(ba k).length≤1000:=by decide
  exact this _ (Nat.mod_lt _ (by decide))
 obtain⟨pv,tv,ev,rfl,p1,t1,e1⟩:=H
 obtain⟨pv',tv',ev',rfl,p2,t2,e2⟩:=H'
 have hOk:OracleOk Tryz.prog (dR (gV pv pv' tv tv' ev ev' B m)):=kH fun c a N r hr=>by
  obtain⟨⟨Z,rfl⟩,hr⟩:=hr
  rcases hr with⟨rfl,rfl,rfl⟩ | ⟨rfl,rfl,rfl⟩ | ⟨rfl,rfl,rfl⟩
  ·exact ap (by simpa using Gd hn2 (p1.more Z) (p2.more Z))
  ·exact ap (by simpa using MM ht2 (t1.more Z) (t2.more Z))
  ·rcases hB with⟨rfl,rfl⟩ | ⟨rfl,hne⟩
   ·exact ap (by simpa using F9 (e1.more Z) (e2.more Z) hok hl)
   ·exact ap (by simpa using xP (e1.more Z) (e2.more Z) hne)
 have c1:=p1.ck
 have c2:=t1.ck
 have c3:=e1.ck
 have c4:=p2.ck
 have c5:=t2.ck
 have c6:=e2.ck
 have f1:=FA (pv:=pv) (pv' :=pv') (tv:=tv) (tv' :=tv') (ev:=ev) (ev' :=ev') (B:=B) (m:=m) [.cells true 0 [pv,tv,.str ak,ev],.cells true 0 [pv',tv',.str ak,ev']]
 have f2:=FB (pv:=pv) (pv' :=pv') (tv:=tv) (tv' :=tv') (ev:=ev) (ev' :=ev') (B:=B) (m:=m) [.cells true 0 [pv,tv,.str ak,ev],.cells true 0 [pv',tv',.str ak,ev']]
 have f3:=FC (pv:=pv) (pv' :=pv') (tv:=tv) (tv' :=tv') (ev:=ev) (ev' :=ev') (B:=B) (m:=m) [.cells true 0 [pv,tv,.str ak,ev],.cells true 0 [pv',tv',.str ak,ev']]
 obtain⟨O,hOe⟩:∃O,O=dR (gV pv pv' tv tv' ev ev' B m):=⟨_,rfl⟩
 rw[←hOe] at hOk f1 f2 f3
 clear hOe p1 p2 t1 t2 e1 e2 hB
 obtain⟨ops,hops⟩:∃o,o=bY:=⟨_,rfl⟩
 obtain⟨F,hF⟩:=kX (p:=fun e (_:Bool)=>ac e 2=.ptr m.length 0∧ac e 3=.ptr (m.length+1) 0) (q:=fun env (_:Bool) env' =>bt (az Tryz.prog) O 35 m.length ops ops.toList ⟨env,(m++[.cells true 0 [pv,tv,.str ak,ev],.cells true 0 [pv',tv',.str ak,ev']]),false⟩=some ⟨env',(m++[.cells true 0 [pv,tv,.str ak,ev],.cells true 0 [pv',tv',.str ak,ev']]),false⟩∧ac env' 4=.bool B) (fun env _ h=>by
  subst hops
  have hp:((m++[.cells true 0 [pv,tv,.str ak,ev],.cells true 0 [pv',tv',.str ak,ev']]))[m.length]? =some (.cells true 0 [pv,tv,.str ak,ev]):=by simp
  have hq:((m++[.cells true 0 [pv,tv,.str ak,ev],.cells true 0 [pv',tv',.str ak,ev']]))[m.length+1]? =some (.cells true 0 [pv',tv',.str ak,ev']):=by simp
  exact Ln h.1 h.2 hp hq f1 f2 f3)
 have hF1:=fun env h2 h3=>(hF env false ⟨h2,h3⟩).1
 have hF2:=fun env h2 h3=>(hF env false ⟨h2,h3⟩).2
 have hr:ab (az Tryz.prog) (fun _=>[]) (aI Tryz.prog) O 1 14 [.agg [pv,tv,.str ak,ev],.agg [pv',tv',.str ak,ev']] m=some ⟨.bool B,none,[]⟩:=by
  have hb:Tryz.f14.body=some (.seq (.region 0 xU false) (.seq (.region 1 ops false) .ret)):=by rw[hops];kernel_rfl
  unfold ab
  rw[hG]
  dsimp only
  rw[hb]
  dsimp only
  simp[-AV.cellOk,gW,qo,qi,kN,qj,qm,c1,c2,c3,c4,c5,c6,hF1,hF2,xU,Tryz.f14]
 have:=(ae aa (ai _) hOk (aj _) hr).1
 simpa [CallRes.mem] using this
theorem uv(M:Mem):ACallsTo Tryz.prog 13 [.agg [.nilslice,.nilslice,.str [],.nilslice]] M (.bool true) M:=by
 have hG:aI Tryz.prog 13=some Tryz.f13:=by kernel_rfl
 have w0:IntKind.i64.wrap 0=0:=rfl
 refine aw (af _) (lv:=fun _=>[]) (K:=1) rfl rfl ?_ M
 simp[ab,hG,Tryz.f13,w0]
end Go.Proofs
namespace Go.Proofs
open Go.Eng
def evZ:List AV:=[.int .i64 0,.str [],.nilslice,.nilslice,.nilslice,.str [],.str [],.str [],.str [],.str [],.str [],.str [],.str [],.str [],.str [],.nilslice,.str [],.str [],.str [],.str [],.str [],.str [],.str [],.str [],.str [],.int .i64 0,.int .i64 0,.int .i64 0,.int .i64 0,.str [],.str [],.str []]
theorem CX(M:Mem):ACallsTo Tryz.prog 74 [.nilslice,.int .i64 0] M .nilslice M:=by
 have hG:aI Tryz.prog 74=some Tryz.f74:=by kernel_rfl
 have w0:IntKind.i64.wrap 0=0:=rfl
 refine aw (af _) (lv:=fun _=>[]) (K:=1) rfl rfl ?_ M
 simp[ab,hG,Tryz.f74,w0]
set_option maxHeartbeats 1600000 in
theorem HP(n:Nat) (h0:0<n) (hn:n≤1000) (M:Mem):∃Z,ACallsTo Tryz.prog 74 [.nilslice,.int .i64 n] M (.slice M.length 0 0 none) (M++[.cells true 32 Z]):=by
 have hG:aI Tryz.prog 74=some Tryz.f74:=by kernel_rfl
 have w0:IntKind.i64.wrap 0=0:=rfl
 have w1:IntKind.i64.wrap (n:Int)=(n:Int):=al (by omega) (by omega)
 have c1:¬(n:Int)<0:=by omega
 have c2:(0:Int)<(n:Int):=by omega
 have c3:(n:Int)*504≤140737488355328:=by omega
 have c4:(n:Int)≤140737488355328:=by omega
 have zl:(ef evZ n).length=n*32:=by rw[eH];rfl
 unfold evZ at zl
 have h:∃Z,aT (az Tryz.prog) (fun _=>[]) (aI Tryz.prog) aE 1 74 [.nilslice,.int .i64 n] M=some (.slice M.length 0 0 none,M++[.cells true 32 Z]):=by
  refine⟨ef evZ n,?_⟩
  unfold evZ
  simp[aT,hG,Tryz.f74,w0,w1,h0,c1,c2,c3,c4,pr,zl,-ef,qR]
 obtain⟨Z,h⟩:=h
 exact⟨Z,aP aa (ai _) (af _) (aj _) h⟩
theorem mZ{f:FuncId}{a:List AV}{m new:Mem}{v:AV}(h:ACallsTo Tryz.prog f a m v (m++new)):OracleOk Tryz.prog (cg [(f,a,m,⟨v,none,new⟩)]):=dn fun y hy=>by
 simp only[List.mem_cons,List.not_mem_nil,or_false] at hy
 subst hy
 exact⟨by simpa [CallRes.mem] using h,by simp⟩
def ru(c:Code):List Nat:=if (ad c).contains 27 then [27,27,27,6] else [11,11,11,3]
set_option maxRecDepth 8192 in
set_option maxHeartbeats 4000000 in
theorem Bm{M:Mem}{bx:Nat}{o:Bool}{v1 v2:AV}{n1 n2:Nat}{C1 C2:List AV}(hb:M[bx]? =some (.cells o 1 [v1,v2])) (s1:∀Z,cw (az Tryz.prog) (M++Z) 32 39 v1=some (n1,C1)) (s2:∀Z,cw (az Tryz.prog) (M++Z) 32 39 v2=some (n2,C2))
  (l1:∀N,gI (az Tryz.prog) 39 N v1=some (.int .i64 n1)) (l2:∀N,gI (az Tryz.prog) 39 N v2=some (.int .i64 n2)) (a1:C1.all AV.cellOk=true) (a2:C2.all AV.cellOk=true) (L1:C1.length=n1*32) (h10:n1+n2≤10):
  ∃v nw,ACallsTo Tryz.prog 40 [.slice bx 0 2 none] M v (M++nw)∧((n1+n2=0∧v=.nilslice∧nw=[])∨(0<n1+n2∧v=.slice (M.length+2) 0 (n1+n2) none∧nw=[.absent,.absent,.cells true 32 (C1++C2)])):=by
 have hG:aI Tryz.prog 40=some Tryz.f40:=by kernel_rfl
 have w0:IntKind.i64.wrap 0=0:=rfl
 have w1:IntKind.i64.wrap 1=1:=rfl
 have w2:IntKind.i64.wrap 2=2:=rfl
 have lb:=(List.getElem?_eq_some_iff.1 hb).1
 have hb' :∀Z,(M++Z)[bx]? =some (.cells o 1 [v1,v2]):=fun Z=>by rw[List.getElem?_append_left lb];exact hb
 have lx:∀N,gI (az Tryz.prog) 156 N (.slice bx 0 2 none)=some (.int .i64 2):=fun N=>by simp
 by_cases h0:n1+n2=0
 ·obtain rfl:n1=0:=by omega
  obtain rfl:n2=0:=by omega
  have hg:ACallsTo Tryz.prog 74 [.nilslice,.int .i64 0] M .nilslice (M++[]):=by rw[List.append_nil];exact CX M
  have hO:=mZ hg
  obtain⟨O,hOd⟩:∃O,O=cg [(74,[.nilslice,.int .i64 0],M,⟨.nilslice,none,[]⟩)]:=⟨_,rfl⟩
  rw[←hOd] at hO
  have o1:O (.fn 74) [.nilslice,.int .i64 0] M=some ⟨.nilslice,none,[]⟩:=by rw[hOd];exact be
  have s1' :=s1 []
  have s2' :=s2 []
  rw[List.append_nil] at s1' s2'
  obtain rfl:C1=[]:=List.eq_nil_of_length_eq_zero (by omega)
  have h:aT (az Tryz.prog) ru (aI Tryz.prog) O 4 40 [.slice bx 0 2 none] M=some (.nilslice,M):=by
   clear hO hOd s1 s2
   simp only[Int.natCast_zero] at l1 l2
   simp[aT,hG,Tryz.f40,aC,dS,ru,w0,w1,w2,hb,-cw,s1',s2',-gI,lx,l1,l2,a2,o1,-List.all_eq_true,-AV.cellOk]
  exact⟨.nilslice,[],by simpa using aP aa (ai _) hO (aj _) h,.inl ⟨rfl,rfl,rfl⟩⟩
 ·obtain⟨Z,hZ⟩:=HP (n1+n2) (by omega) (by omega) M
  have hO:=mZ hZ
  obtain⟨O,hOd⟩:∃O,O=cg [(74,[.nilslice,.int .i64 ((n1+n2:Nat):Int)],M,⟨.slice M.length 0 0 none,none,[.cells true 32 Z]⟩)]:=⟨_,rfl⟩
  rw[←hOd] at hO
  have o1:O (.fn 74) [.nilslice,.int .i64 ((n1:Int)+(n2:Int))] M=some ⟨.slice M.length 0 0 none,none,[.cells true 32 Z]⟩:=by
   have:((n1+n2:Nat):Int)=(n1:Int)+(n2:Int):=by push_cast;rfl
   rw[hOd,←this];exact be
  have wa:IntKind.i64.wrap (n1:Int)=(n1:Int):=al (by omega) (by omega)
  have wab:IntKind.i64.wrap ((n1:Int)+(n2:Int))=(n1:Int)+(n2:Int):=al (by omega) (by omega)
  have na:¬(n1:Int)<0:=by omega
  have nab:¬(n1:Int)+(n2:Int)<0:=by omega
  have t1:C1.take (n1*32)=C1:=List.take_of_length_le (by omega)
  have b1:n1*504≤140737488355328:=by omega
  have b2:n1≤140737488355328:=by omega
  have b3:(n1+n2)*504≤140737488355328:=by omega
  have b4:n1+n2≤140737488355328:=by omega
  have L1' :n1*32≤C1.length:=by omega
  have h:aT (az Tryz.prog) ru (aI Tryz.prog) O 4 40 [.slice bx 0 2 none] M=some (.slice (M.length+2) 0 (n1+n2) none,M++[.absent,.absent,.cells true 32 (C1++C2)]):=by
   clear hO hOd hZ
   simp[aT,hG,Tryz.f40,aC,dS,ru,w0,w1,w2,wa,wab,na,nab,hb,hb',-cw,s1,s2,-gI,lx,l1,l2,a1,a2,o1,t1,b1,b2,b3,b4,L1',-List.all_eq_true,-AV.cellOk,fQ,qR,yK,J6]
  exact⟨_,_,aP aa (ai _) hO (aj _) h,.inr ⟨by omega,rfl,rfl⟩⟩
theorem EvRow.src{T:TypeId→Option TyI}{t2:TypeId}{N:Mem}{v:AV}{n:Nat}{C:List AV}(h:EvRow N v n C) (hC:C.length=n*32):∀Z,cw T (N++Z) 32 t2 v=some (n,C):=fun Z=>by
 rcases h with⟨rfl,rfl,rfl | ⟨b,rfl⟩⟩ | ⟨b,o,D,rfl,h0,hb,ht⟩
 ·rfl
 ·unfold cw
  simp only
  split
  ·rename_i own es cs _
   simp
  ·rfl
 ·have hb' :(N++Z)[b]? =some (.cells o 32 D):=by rw[List.getElem?_append_left (List.getElem?_eq_some_iff.1 hb).1];exact hb
  have hl:n*32≤D.length:=by rw[←ht,List.length_take] at hC;omega
  simp[cw,hb',hl,ht]
end Go.Proofs
