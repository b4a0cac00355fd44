/- See N58. -/
import Derived.Test.YtmhkeaphiadacaaGreatDoorN51
import Derived.Test.YtmhkeaphiadacaaGreatDoorN52
set_option linter.all false
namespace Go.Proofs
open Go.Eng
structure Tryz.HstC (s:Sheet) (p t q:Nat) (evs:List (List AV)) (cs:List Evc) (M:Mem):Prop where
 hp:∃o,M[p]? =some (.cells o 2 (pC s.P))
 ht:∃o,M[t]? =some (.cells o 3 (tC s.T))
 hq:evs≠[]→∃o,M[q]? =some (.cells o 32 evs.flatten)
 len:evs.length=cs.length
 small:cs.length≤4
 good:∀c∈cs,Tryz.Good s c
 con:∀(i:Nat) ev c,evs[i]? =some ev→cs[i]? =some c→EvAt M ev c
theorem yj{α β:Type}{P:Nat→α→β→Prop}:∀(l:List α),(∀(i:Nat) a,l[i]? =some a→∃b,P i a b)→∃bs:List β,bs.length=l.length∧∀(i:Nat) a b,l[i]? =some a→bs[i]? =some b→P i a b
 | [],_=>⟨[],rfl,fun i a b h=>by simp at h⟩
 |x::l,h=>by
  obtain⟨b,hb⟩:=h 0 x rfl
  obtain⟨bs,h1,h2⟩:=yj (P:=fun i=>P (i+1)) l fun i a hi=>h (i+1) a (by simpa using hi)
  refine⟨b::bs,by simp[h1],fun i a c hi hc=>?_⟩
  cases i with
  |zero=>simp at hi hc;subst hi hc;exact hb
  |succ i=>exact h2 i a c (by simpa using hi) (by simpa using hc)
section
variable {s:Sheet}{p t q:Nat}{evs:List (List AV)}{cs:List Evc}{M:Mem}
theorem Tryz.HstC.more(H:Tryz.HstC s p t q evs cs M) (Z:Mem):Tryz.HstC s p t q evs cs (M++Z) where
 hp:=by obtain⟨o,h⟩:=H.hp;exact⟨o,by rw[List.getElem?_append_left (List.getElem?_eq_some_iff.1 h).1];exact h⟩
 ht:=by obtain⟨o,h⟩:=H.ht;exact⟨o,by rw[List.getElem?_append_left (List.getElem?_eq_some_iff.1 h).1];exact h⟩
 hq:=fun he=>by obtain⟨o,h⟩:=H.hq he;exact⟨o,by rw[List.getElem?_append_left (List.getElem?_eq_some_iff.1 h).1];exact h⟩
 len:=H.len
 small:=H.small
 good:=H.good
 con:=fun i ev c h1 h2=>(H.con i ev c h1 h2).more Z
theorem Tryz.HstC.at(H:Tryz.HstC s p t q evs cs M):Tryz.HstAt s p t q evs (cs.map unE) M where
 hp:=H.hp
 ht:=H.ht
 hq:=H.hq
 len:=by rw[List.length_map,H.len]
 small:=by rw[H.len];exact H.small
 con:=fun i ev U h1 h2=>by
  rw[List.getElem?_map,Option.map_eq_some_iff] at h2
  obtain⟨c,h3,h4⟩:=h2
  exact⟨c,H.good c (List.mem_of_getElem? h3),h4,fun X=>(H.con i ev c h1 h3).more X⟩
theorem Tryz.HstAt.toC{us:List (List (List UInt8))}(H:Tryz.HstAt s p t q evs us M):∃cs,us=cs.map unE∧Tryz.HstC s p t q evs cs M:=by
 obtain⟨cs,h1,h2⟩:=yj (P:=fun i ev c=>Tryz.Good s c∧(∀U,us[i]? =some U→unE c=U)∧EvAt M ev c) evs fun i ev hi=>by
  have hl:=(List.getElem?_eq_some_iff.1 hi).1
  have hl' :i<us.length:=by rw[H.len];exact hl
  have hu:us[i]? =some us[i]:=List.getElem?_eq_getElem hl'
  obtain⟨c,g1,g2,g3⟩:=H.con i ev _ hi hu
  exact⟨c,g1,fun U hU=>by rw[hu] at hU;cases hU;exact g2,by simpa using g3 []⟩
 have hat:∀(i:Nat) c,cs[i]? =some c→∃ev,evs[i]? =some ev:=fun i c hc=>⟨_,List.getElem?_eq_getElem (by rw[←h1];exact(List.getElem?_eq_some_iff.1 hc).1)⟩
 refine⟨cs,?_,H.hp,H.ht,H.hq,h1.symm,by rw[h1];exact H.small,fun c hc=>?_,fun i ev c a b=>(h2 i ev c a b).2.2⟩
 ·refine List.ext_getElem? fun i=>?_
  rw[List.getElem?_map]
  cases hc:cs[i]? with
  |none=>
   have:=List.getElem?_eq_none_iff.1 hc
   rw[Option.map_none,List.getElem?_eq_none_iff,H.len,←h1];exact this
  |some c=>
   obtain⟨ev,he⟩:=hat i c hc
   have hl:=(List.getElem?_eq_some_iff.1 he).1
   have hl' :i<us.length:=by rw[H.len];exact hl
   have hu:us[i]? =some us[i]:=List.getElem?_eq_getElem hl'
   rw[hu,Option.map_some,(h2 i ev c he hc).2.1 _ hu]
 ·obtain⟨i,hi⟩:=List.getElem?_of_mem hc
  obtain⟨ev,he⟩:=hat i c hi
  exact(h2 i ev c he hi).1
theorem Tryz.HstC.l32(H:Tryz.HstC s p t q evs cs M):∀e∈evs,e.length=32:=H.at.l32
theorem Tryz.HstC.cok(H:Tryz.HstC s p t q evs cs M):∀e∈evs,∀x∈e,x.cellOk=true:=H.at.cok
theorem Tryz.HstC.flat(H:Tryz.HstC s p t q evs cs M):evs.flatten.length=cs.length*32:=by rw[uN H.l32,H.len]
theorem Jd{evs:List (List AV)}(h:∀e∈evs,∀x∈e,x.cellOk=true):evs.flatten.all AV.cellOk=true:=by
 rw[List.all_eq_true]
 intro x hx
 obtain⟨e,he,hxe⟩:=List.mem_flatten.1 hx
 exact h e he x hxe
theorem Tryz.HstC.rowEv(H:Tryz.HstC s p t q evs cs M):EvRow M (evV q cs.length) cs.length evs.flatten:=by
 by_cases h0:cs.length=0
 ·left
  have:evs=[]:=List.eq_nil_of_length_eq_zero (by rw[H.len];exact h0)
  exact⟨h0,by rw[this];rfl,.inl (by unfold evV;rw[if_pos h0])⟩
 ·right
  obtain⟨o,h⟩:=H.hq (by rintro rfl;have:=H.len;simp at this;omega)
  exact⟨q,o,evs.flatten,by unfold evV;rw[if_neg h0],by omega,h,List.take_of_length_le (by rw[H.flat];omega)⟩
theorem Tryz.HstC.evsAt(H:Tryz.HstC s p t q evs cs M):EvsAt M (evV q cs.length) cs:=⟨evs,H.len,H.rowEv,H.con⟩
theorem Tryz.HstC.rowP(H:Tryz.HstC s p t q evs cs M):RowAt M (.slice p 0 s.P.length none) 2 s.P.length (pC s.P):=by
 obtain⟨o,h⟩:=H.hp
 exact .inr ⟨p,o,rfl,(eJ s).1,h⟩
theorem NY(s:Sheet):0<s.T.length:=by
 have:∀k<8,0<(ba k).length:=by decide
 exact this _ (Nat.mod_lt _ (by decide))
theorem Tryz.HstC.rowT(H:Tryz.HstC s p t q evs cs M):RowAt M (.slice t 0 s.T.length none) 3 s.T.length (tC s.T):=by
 obtain⟨o,h⟩:=H.ht
 exact .inr ⟨t,o,rfl,NY s,h⟩
theorem Tryz.HstC.hc(H:Tryz.HstC s p t q evs cs M):HcAt M (aq s p t q cs.length) s cs:=⟨_,_,_,rfl,H.rowP,H.rowT,H.evsAt⟩
end
theorem AX(L:List P2):∀f,AV.refsOkL f (pC L)=true:=fun f=>by rw[Hh];exact Nv f _
theorem pW:∀(f:Nat→Bool) (L:List Tr),AV.refsOkL f (tC L)=true
 |f,[]=>rfl
 |f,k::l=>by simp[tC,AV.refsOkL,AV.refsOk,pW f l]
def OkN(T:Nat) (new:Mem):Prop:=∀f:Nat→Bool,(∀b,b<T→f b=true)→new.all (fun x=>bG x&&x.refsOk f)=true
theorem OkN.of{T:Nat}{new:Mem}(h:∀x∈new,bG x=true∧x.refsOk (fun b=>decide (b<T))=true):OkN T new:=fun f hf=>List.all_eq_true.2 fun x hx=>by
 obtain⟨a,b⟩:=h x hx
 rw[a,Bool.true_and]
 exact Slot.refsOk_mono (fun k hk=>hf k (of_decide_eq_true hk)) x b
def RefT(T:Nat) (vs:List AV):Prop:=∀f:Nat→Bool,(∀b,b<T→f b=true)→AV.refsOkL f vs=true
theorem RefT.of{T:Nat}{vs:List AV}(h:AV.refsOkL (fun b=>decide (b<T)) vs=true):RefT T vs:=fun f hf=>AV.refsOkL_mono (fun k hk=>hf k (of_decide_eq_true hk)) vs h
theorem Tryz.HstC.refs{s:Sheet}{p t q:Nat}{evs:List (List AV)}{cs:List Evc}{M:Mem}(H:Tryz.HstC s p t q evs cs M):RefT M.length (aq s p t q cs.length):=by
 refine .of ?_
 have a:=H.rowP.refs 0
 have b:=H.rowT.refs 0
 have c:(evV q cs.length).refsOk (fun b=>decide (b<M.length))=true:=by
  unfold evV
  split
  ·rfl
  ·rename_i h0
   obtain⟨o,h⟩:=H.hq (by rintro rfl;have:=H.len;simp at this;omega)
   have:=(List.getElem?_eq_some_iff.1 h).1
   simp only[AV.refsOk,decide_eq_true_eq];exact this
 rw[Nat.add_zero] at a b
 unfold aq
 simp only[AV.refsOkL,a,b,c,A6,Bool.and_self]
def qOf:AV→Nat
 |.slice kr _ _ _=>kr
 |_=>0
set_option maxRecDepth 4096 in
theorem uu{s:Sheet}{p t:Nat}{M:Mem}{l ev:AV}{cs:List Evc}(hp:∃o,M[p]? =some (.cells o 2 (pC s.P))) (ht:∃o,M[t]? =some (.cells o 3 (tC s.T))) (cev:ev.cellOk=true) (rev:ev.refsOk (fun b=>decide (b<M.length))=true) (H:EvsAt M l cs) (good:∀c∈cs,Tryz.Good s c) (small:cs.length≤4):
  ∃q evs new,ACallsTo Tryz.prog 39 [.agg [.slice p 0 s.P.length none,.slice t 0 s.T.length none,.str ak,ev],l] M (.agg (aq s (M.length+4) (M.length+6) q cs.length)) (M++new)∧Tryz.HstC s (M.length+4) (M.length+6) q evs cs (M++new)∧OkN (M.length+new.length) new:=by
 obtain⟨o1,hp⟩:=hp
 obtain⟨o2,ht⟩:=ht
 have lp:=(eJ s).1
 have lt:=NY s
 have rP:RowAt M (.slice p 0 s.P.length none) 2 s.P.length (pC s.P):=.inr ⟨p,o1,rfl,lp,hp⟩
 have rT:RowAt M (.slice t 0 s.T.length none) 3 s.T.length (tC s.T):=.inr ⟨t,o2,rfl,lt,ht⟩
 have lP:(pC s.P).length=s.P.length*2:=by rw[Hh,gr,iD,Nat.mul_comm]
 have lT:(tC s.T).length=s.T.length*3:=by rw[sO,Nat.mul_comm]
 have hn2:=(eJ s).2
 have ht2:s.T.length≤1000:=by
  have:∀k<8,(ba k).length≤1000:=by decide
  exact this _ (Nat.mod_lt _ (by decide))
 obtain⟨pv,hpv⟩:∃pv,pv=clV (M.length+3) s.P.length:=⟨_,rfl⟩
 obtain⟨tv,htv⟩:∃tv,tv=clV (M.length+5) s.T.length:=⟨_,rfl⟩
 obtain⟨XP,hXP⟩:∃X,X=clX 2 s.P.length (pC s.P):=⟨_,rfl⟩
 obtain⟨XT,hXT⟩:∃X,X=clX 3 s.T.length (tC s.T):=⟨_,rfl⟩
 have eP:=Of (rP.more [.cells true 0 [.slice p 0 s.P.length none,.slice t 0 s.T.length none,.str ak,ev],.cells true 0 [.nilslice,.nilslice,.str [],.nilslice],.cells true 0 [.nilslice,.nilslice,.str ak,.nilslice]]) lP hn2 (by rw[Hh];exact G3 _)
 have eT:=Og (rT.more [.cells true 0 [.slice p 0 s.P.length none,.slice t 0 s.T.length none,.str ak,ev],.cells true 0 [.nilslice,.nilslice,.str [],.nilslice],.cells true 0 [.nilslice,.nilslice,.str ak,.nilslice],.absent,XP]) lT ht2 (PZ _)
 have e3:(M++[Slot.cells true 0 [.slice p 0 s.P.length none,.slice t 0 s.T.length none,.str ak,ev],.cells true 0 [.nilslice,.nilslice,.str [],.nilslice],.cells true 0 [.nilslice,.nilslice,.str ak,.nilslice]]).length=M.length+3:=by simp
 have e5:(M++[Slot.cells true 0 [.slice p 0 s.P.length none,.slice t 0 s.T.length none,.str ak,ev],.cells true 0 [.nilslice,.nilslice,.str [],.nilslice],.cells true 0 [.nilslice,.nilslice,.str ak,.nilslice],.absent,XP]).length=M.length+5:=by simp
 rw[e3,←hpv,←hXP] at eP
 rw[e5,←htv,←hXT] at eT
 obtain⟨N0,hN0⟩:∃N0,N0=M++[Slot.cells true 0 [.slice p 0 s.P.length none,.slice t 0 s.T.length none,.str ak,ev],.cells true 0 [.nilslice,.nilslice,.str [],.nilslice],.cells true 0 [pv,tv,.str ak,.nilslice],.absent,XP,.absent,XT]:=⟨_,rfl⟩
 have hcell:N0[M.length+2]? =some (.cells true 0 [pv,tv,.str ak,.nilslice]):=by rw[hN0,fQ];rfl
 have hz:N0[M.length+1]? =some (.cells true 0 [.nilslice,.nilslice,.str [],.nilslice]):=by rw[hN0,fQ];rfl
 have hl0:N0.length=M.length+7:=by rw[hN0];simp
 obtain⟨b,bi,hb⟩:∃b bi,am Tryz.f39=[b,bi]:=⟨_,_,rfl⟩
 have cpq:pv.cellOk=true:=by rw[hpv];exact iA _ _
 have ctq:tv.cellOk=true:=by rw[htv];exact iA _ _
 obtain⟨F,hF⟩:=Dk H (fun c hc=>(good c hc).ok) (by omega) ⟨_,hN0⟩ (show M.length≤M.length+2 by omega) hcell cpq ctq hb
 have hlen:∀N,gI (az Tryz.prog) 39 N l=some (.int .i64 cs.length):=by
  obtain⟨evs0,l1,r1,_⟩:=H
  exact gf r1
 have hE:∀{N i E evs},CpI N0 (M.length+2) pv tv cs N i E evs→E.cellOk=true:=fun I=>by
  rcases I.row with⟨_,rfl⟩ | ⟨_,rfl,_⟩<;>rfl
 obtain⟨env0,d,hpre,hr⟩:=Ie (F:=F) hb (rfl:(AV.slice p 0 s.P.length none).cellOk=true) (rfl:(AV.slice t 0 s.T.length none).cellOk=true) cev rP.refs rT.refs cpq (by rw[hpv];exact uJ _ _) (by rw[hpv];exact uI _ _) (fun j hj=>by rw[hpv];exact cA (by omega)) ctq (by rw[htv];exact uJ _ _) (by rw[htv];exact uI _ _) (fun j hj=>by rw[htv];exact cA (by omega))
  (by rw[hXP];exact kQ _ _ _) (by rw[hXP];exact pE (AX _)) (by rw[hXT];exact kQ _ _ _) (by rw[hXT];exact pE (fun f=>pW f _)) hlen eP eT (by rw[←hN0];exact fun env0 d h=>(hF env0 d h).1) (fun env0 d h=>(hF env0 d h).2.1.cell) (fun env0 d h=>by rw[(hF env0 d h).2.1.same _ (by omega) (by omega)];exact hz)
  (fun env0 d h=>hE (hF env0 d h).2.1) (fun env0 d h=>(hF env0 d h).2.2.1) (fun env0 d h=>(hF env0 d h).2.2.2) (fun env0 d h=>by have:=(hF env0 d h).2.1.len;omega)
 have I:=(hF env0 d hpre).2.1
 have hsound:=aP aa (ai _) KM (aj _) hr
 obtain⟨E,hEe⟩:∃E,E=(F env0 d).2.2.1:=⟨_,rfl⟩
 obtain⟨evs,hevs⟩:∃x,x=(F env0 d).2.2.2:=⟨_,rfl⟩
 obtain⟨N,hN⟩:∃x,x=(F env0 d).2.1:=⟨_,rfl⟩
 rw[←hEe,←hN] at hsound
 rw[←hEe,←hevs,←hN] at I
 obtain⟨N',hN'⟩:∃x,x=N.set (M.length+1) (.cells true 0 [pv,tv,.str ak,E]):=⟨_,rfl⟩
 rw[←hN'] at hsound
 have hNz:N[M.length+1]? =some (.cells true 0 [.nilslice,.nilslice,.str [],.nilslice]):=by rw[I.same _ (by omega) (by omega)];exact hz
 have hk:Keep3 N N' :=by rw[hN'];exact Keep3.set hNz (.inl rfl) _
 have hpre' :∃new,N' =M++new:=by
  refine⟨N'.drop M.length,?_⟩
  refine List.ext_getElem? fun i=>?_
  by_cases hi:i<M.length
  ·rw[List.getElem?_append_left hi,hN',List.getElem?_set_ne (by omega),I.same i (by omega) (by omega),hN0,List.getElem?_append_left hi]
  ·rw[List.getElem?_append_right (by omega),List.getElem?_drop]
   congr 1;omega
 obtain⟨new,hnew⟩:=hpre'
 have hv:AV.agg [pv,tv,.str ak,E]=.agg (aq s (M.length+4) (M.length+6) (qOf E) cs.length):=by
  have e1:pv=.slice (M.length+4) 0 s.P.length none:=by rw[hpv];unfold clV;rw[if_neg (by omega)]
  have e2:tv=.slice (M.length+6) 0 s.T.length none:=by rw[htv];unfold clV;rw[if_neg (by omega)]
  rw[e1,e2]
  rcases I.row with⟨h0,rfl⟩ | ⟨kr,rfl,h0,_⟩
  ·unfold aq evV;rw[if_pos h0]
  ·unfold aq evV;rw[if_neg (by omega)];rfl
 rw[hv,hnew] at hsound
 have lenN:N'.length=N.length:=by rw[hN',List.length_set]
 have hge:M.length+7≤N.length:=by have:=I.len;omega
 have hall:∀(k:Nat) x,M.length≤k→N'[k]? =some x→bG x=true∧x.refsOk (fun b=>decide (b<N'.length))=true:=by
  intro k x hk hx
  rw[lenN]
  have hE' :E.refsOk (fun b=>decide (b<N.length))=true:=by
   rcases I.row with⟨_,rfl⟩ | ⟨kr,rfl,_,_,hr⟩
   ·rfl
   ·simp only[AV.refsOk,decide_eq_true_eq];exact(List.getElem?_eq_some_iff.1 hr).1
  have pvr:pv.refsOk (fun b=>decide (b<N.length))=true:=by rw[hpv];exact cA (by omega)
  have tvr:tv.refsOk (fun b=>decide (b<N.length))=true:=by rw[htv];exact cA (by omega)
  have fin:∀y,y=Slot.cells true 0 [pv,tv,.str ak,E]→bG y=true∧y.refsOk (fun b=>decide (b<N.length))=true:=by
   rintro y rfl
   exact⟨rfl,by simp only[cW,AV.refsOkL,A6,pvr,tvr,hE',Bool.and_self]⟩
  by_cases k1:k=M.length+1
  ·subst k1
   rw[hN',List.getElem?_set_self (by omega)] at hx
   exact fin x (Option.some.inj hx).symm
  rw[hN',List.getElem?_set_ne (by omega)] at hx
  by_cases k2:k=M.length+2
  ·subst k2
   rw[I.cell] at hx
   exact fin x (Option.some.inj hx).symm
  by_cases k0:k<N0.length
  ·rw[I.same k k0 k2,hN0] at hx
   obtain⟨j,rfl⟩:∃j,k=M.length+j:=⟨k-M.length,by omega⟩
   rw[fQ] at hx
   match j,hx with
   |0,hx=>
    cases hx
    have lp1:=(List.getElem?_eq_some_iff.1 hp).1
    have lt1:=(List.getElem?_eq_some_iff.1 ht).1
    have r1:ev.refsOk (fun b=>decide (b<N.length))=true:=AV.refsOk_mono (fun b hb=>by simp only[decide_eq_true_eq] at hb ⊢;omega) ev rev
    have r2:(decide (p<N.length))=true:=by simp only[decide_eq_true_eq];omega
    have r3:(decide (t<N.length))=true:=by simp only[decide_eq_true_eq];omega
    exact⟨rfl,by simp only[cW,AV.refsOkL,AV.refsOk,r1,r2,r3,Bool.and_self]⟩
   |1,_=>omega
   |2,_=>omega
   |3,hx=>cases hx;exact⟨rfl,rfl⟩
   |4,hx=>cases hx;rw[hXP];exact⟨kQ _ _ _,pE (AX _) _⟩
   |5,hx=>cases hx;exact⟨rfl,rfl⟩
   |6,hx=>cases hx;rw[hXT];exact⟨kQ _ _ _,pE (fun f=>pW f _) _⟩
   |j+7,hx=>simp at hx
  ·exact I.ok k x (by omega) hx
 refine⟨_,evs,new,hsound,?_,.of fun x hx=>?_⟩
 rotate_left
 ·obtain⟨i,hi⟩:=List.getElem?_of_mem hx
  have:=hall (M.length+i) x (by omega) (by rw[hnew,fQ];exact hi)
  rwa [hnew,List.length_append] at this
 rw[←hnew]
 have row1:∀(k es:Nat) (C:List AV),es=1∨es=2∨es=3→k<N0.length→N0[k]? =some (.cells true es C)→N'[k]? =some (.cells true es C):=fun k es C he hk1 h=>hk k true es C he (by rw[I.same k hk1 (by rintro rfl;rw[hcell] at h;cases h;omega)];exact h)
 refine⟨⟨true,row1 _ _ _ (.inr (.inl rfl)) (by omega) ?_⟩,⟨true,row1 _ _ _ (.inr (.inr rfl)) (by omega) ?_⟩,fun hne=>?_,I.evl,small,good,fun i ev c h1 h2=>(I.con i ev c h1 h2).upd hk⟩
 ·rw[hN0,fQ,hXP];unfold clX;rw[if_neg (by omega)];rfl
 ·rw[hN0,fQ,hXT];unfold clX;rw[if_neg (by omega)];rfl
 ·rcases I.row with⟨h0,rfl⟩ | ⟨kr,rfl,h0,hge,hr⟩
  ·exact absurd (List.eq_nil_of_length_eq_zero (by rw[I.evl];exact h0)) hne
  ·exact⟨true,show N'[kr]? =some (.cells true 32 evs.flatten) by rw[hN',List.getElem?_set_ne (by omega)];exact hr⟩
end Go.Proofs
namespace Go.Proofs
open Go.Eng
section
variable {s:Sheet}{p t q:Nat}{evs:List (List AV)}{cs:List Evc}{M:Mem}
theorem Tryz.HstC.set0{N:Mem}(H:Tryz.HstC s p t q evs cs N) {k:Nat}{o:Bool}{D:List AV}(h:N[k]? =some (.cells o 0 D)) (x:Slot):Tryz.HstC s p t q evs cs (N.set k x) where
 hp:=by
  obtain⟨w,e⟩:=H.hp
  exact⟨w,by rw[List.getElem?_set_ne (by rintro rfl;rw[h] at e;cases e)];exact e⟩
 ht:=by
  obtain⟨w,e⟩:=H.ht
  exact⟨w,by rw[List.getElem?_set_ne (by rintro rfl;rw[h] at e;cases e)];exact e⟩
 hq:=fun hne=>by
  obtain⟨w,e⟩:=H.hq hne
  exact⟨w,by rw[List.getElem?_set_ne (by rintro rfl;rw[h] at e;cases e)];exact e⟩
 len:=H.len
 small:=H.small
 good:=H.good
 con:=fun i ev c h1 h2=>(H.con i ev c h1 h2).upd (Keep3.set h (.inl rfl) x)
end
structure Tryz.SrcEv (M:Mem) (v:AV) (evs:List (List AV)):Prop where
 s:∀Z,cw (az Tryz.prog) (M++Z) 32 39 v=some (evs.length,evs.flatten)
 l:∀N,gI (az Tryz.prog) 39 N v=some (.int .i64 evs.length)
theorem Tryz.SrcEv.of{M:Mem}{v:AV}{n:Nat}{evs:List (List AV)}(h:EvRow M v n evs.flatten) (hn:evs.length=n) (h32:∀e∈evs,e.length=32):Tryz.SrcEv M v evs where
 s:=by rw[hn];exact h.src (by rw[uN h32,hn])
 l:=fun N=>by rw[hn];exact gf h N
theorem Tryz.SrcEv.more{M:Mem}{v:AV}{evs:List (List AV)}(h:Tryz.SrcEv M v evs) (X:Mem):Tryz.SrcEv (M++X) v evs where
 s:=fun Z=>by rw[List.append_assoc];exact h.s _
 l:=h.l
theorem zj{M:Mem}{bx:Nat}{o:Bool}{v1 v2:AV}{e1 e2:List (List AV)}{c1 c2:List Evc}(hb:M[bx]? =some (.cells o 1 [v1,v2])) (S1:Tryz.SrcEv M v1 e1) (S2:Tryz.SrcEv M v2 e2) (n1:e1.length=c1.length) (n2:e2.length=c2.length)
  (k1:∀(i:Nat) e c,e1[i]? =some e→c1[i]? =some c→EvAt M e c) (k2:∀(i:Nat) e c,e2[i]? =some e→c2[i]? =some c→EvAt M e c) (h10:c1.length+c2.length≤10):
  ∃v nw,ACallsTo Tryz.prog 40 [.slice bx 0 2 none] M v (M++nw)∧EvsAt (M++nw) v (c1++c2)∧
   ((c1.length+c2.length=0∧v=.nilslice∧nw=[])∨(0<c1.length+c2.length∧v=.slice (M.length+2) 0 (c1.length+c2.length) none∧∃C,nw=[.absent,.absent,.cells true 32 C]∧RefT M.length C)):=by
 have hat:∀(us:List (List AV)) (cs:List Evc),us.length=cs.length→(∀(i:Nat) e c,us[i]? =some e→cs[i]? =some c→EvAt M e c)→∀x∈us,∃c,EvAt M x c:=fun us cs hl h x hx=>by
  obtain⟨i,hi⟩:=List.getElem?_of_mem hx
  have:=(List.getElem?_eq_some_iff.1 hi).1
  exact⟨_,h i x _ hi (List.getElem?_eq_getElem (by omega))⟩
 have h1:=hat e1 c1 n1 k1
 have h2:=hat e2 c2 n2 k2
 have w1:∀x∈e1,x.length=32:=fun x hx=>(h1 x hx).elim fun c h=>h.l32
 have w2:∀x∈e2,x.length=32:=fun x hx=>(h2 x hx).elim fun c h=>h.l32
 have hcon:∀(Z:Mem) (i:Nat) e c,(e1++e2)[i]? =some e→(c1++c2)[i]? =some c→EvAt (M++Z) e c:=fun Z i e c he hc=>by
  by_cases hi:i<e1.length
  ·rw[List.getElem?_append_left hi] at he
   rw[List.getElem?_append_left (by omega)] at hc
   exact(k1 i e c he hc).more Z
  ·rw[List.getElem?_append_right (by omega)] at he
   rw[List.getElem?_append_right (by omega),←n1] at hc
   exact(k2 _ e c he hc).more Z
 obtain⟨v,nw,hc,h⟩:=Bm hb S1.s S2.s S1.l S2.l (Jd fun x hx=>(h1 x hx).elim fun c h=>h.cok) (Jd fun x hx=>(h2 x hx).elim fun c h=>h.cok) (uN w1) (by omega)
 refine⟨v,nw,hc,?_,?_⟩
 ·refine⟨e1++e2,by rw[List.length_append,List.length_append,n1,n2],?_,hcon nw⟩
  rcases h with⟨h0,rfl,rfl⟩ | ⟨h0,rfl,rfl⟩
  ·left
   have a:e1=[]:=List.eq_nil_of_length_eq_zero (by omega)
   have b:e2=[]:=List.eq_nil_of_length_eq_zero (by omega)
   exact⟨by rw[List.length_append];omega,by rw[a,b];rfl,.inl rfl⟩
  ·right
   refine⟨M.length+2,true,e1.flatten++e2.flatten,by rw[List.length_append,n1,n2],by rw[List.length_append];omega,by rw[fQ];rfl,?_⟩
   rw[List.flatten_append]
   exact List.take_of_length_le (by rw[List.length_append,List.length_append,uN w1,uN w2];omega)
 ·rcases h with⟨h0,rfl,rfl⟩ | ⟨h0,rfl,rfl⟩
  ·exact .inl ⟨by omega,rfl,rfl⟩
  ·refine .inr ⟨by omega,by rw[n1,n2],_,rfl,.of ?_⟩
   rw[dQ,iF fun x hx=>(h1 x hx).elim fun c h=>by simpa using h.refs 0,iF fun x hx=>(h2 x hx).elim fun c h=>by simpa using h.refs 0]
   rfl
end Go.Proofs
namespace Go.Proofs
open Go.Eng
theorem GT{f g:FuncId}{a b:List AV}{m m' :Mem}{r:CallRes}{L:List (FuncId×List AV×Mem×CallRes)}(h:m'.length≠m.length):cg ((f,a,m,r)::L) (.fn g) b m' =cg L (.fn g) b m' :=by
 rw[cg,if_neg (fun e=>h (congrArg List.length e.2.2))]
theorem ag{f g:FuncId}{a b:List AV}{m m' :Mem}{r:CallRes}{L:List (FuncId×List AV×Mem×CallRes)}(h:f≠g):cg ((f,a,m,r)::L) (.fn g) b m' =cg L (.fn g) b m' :=by
 rw[cg,if_neg (fun e=>h (by have:=e.1;cases this;rfl))]
theorem gq(q n:Nat):(evV q n).known=true:=by unfold evV;split<;>rfl
def dM:List AV:=[.nilslice,.nilslice,.str [],.nilslice]
section
variable {s:Sheet}{p t q:Nat}{evs:List (List AV)}{cs:List Evc}{M:Mem}
theorem Tryz.HstC.chk(H:Tryz.HstC s p t q evs cs M):ACallsTo Tryz.prog 20 [.agg (aq s p t q cs.length)] M (.int .i64 (bif AE [ak] (cs.map unE) then 9 else 0)) M:=by
 have:=Bw H.at
 rwa [H.len] at this
theorem Tryz.HstC.src(H:Tryz.HstC s p t q evs cs M):Tryz.SrcEv M (evV q cs.length) evs:=.of H.rowEv H.len H.l32
theorem Tryz.HstC.refE(H:Tryz.HstC s p t q evs cs M) (f:Nat→Bool) (hf:∀b,b<M.length→f b=true):(evV q cs.length).refsOk f=true:=by
 have:=H.refs f hf
 simp only[aq,AV.refsOkL,Bool.and_eq_true] at this
 exact this.2.2.2.1
end
end Go.Proofs
