/- See M58. -/
import Derived.Test.YtmhkeaphiadacaaGreatDoorM51
import Derived.Test.YtmhkeaphiadacaaGreatDoorM52
set_option linter.all false
namespace Go.Proofs
open Go.Eng
structure Tryz.HstC (s:Sheet) (p t q:Nat) (evs:List (List AV)) (cs:List Evc) (M:Mem):Prop where
 hp:∃o,M[p]? =some (.cells o 2 (pC s.P))
 ht:∃o,M[t]? =some (.cells o 3 (tC s.T))
 hq:evs≠[]→∃o,M[q]? =some (.cells o 32 evs.flatten)
 len:evs.length=cs.length
 small:cs.length≤4
 good:∀c∈cs,Tryz.Good s c
 con:∀(i:Nat) ev c,evs[i]? =some ev→cs[i]? =some c→EvAt M ev c
theorem vZ{α β:Type}{P:Nat→α→β→Prop}:∀(l:List α),(∀(i:Nat) a,l[i]? =some a→∃b,P i a b)→∃bs:List β,bs.length=l.length∧∀(i:Nat) a b,l[i]? =some a→bs[i]? =some b→P i a b
 | [],_=>⟨[],rfl,fun i a b h=>by simp at h⟩
 |x::l,h=>by
  obtain⟨b,hb⟩:=h 0 x rfl
  obtain⟨bs,h1,h2⟩:=vZ (P:=fun i=>P (i+1)) l fun i a hi=>h (i+1) a (by simpa using hi)
  refine⟨b::bs,by simp[h1],fun i a c hi hc=>?_⟩
  cases i with
  |zero=>simp at hi hc;subst hi hc;exact hb
  |succ i=>exact h2 i a c (by simpa using hi) (by simpa using hc)
section
variable {s:Sheet}{p t q:Nat}{evs:List (List AV)}{cs:List Evc}{M:Mem}
theorem Tryz.HstC.more(H:Tryz.HstC s p t q evs cs M) (Z:Mem):Tryz.HstC s p t q evs cs (M++Z) where
 hp:=by obtain⟨o,h⟩:=H.hp;exact⟨o,by rw[List.getElem?_append_left (List.getElem?_eq_some_iff.1 h).1];exact h⟩
 ht:=by obtain⟨o,h⟩:=H.ht;exact⟨o,by rw[List.getElem?_append_left (List.getElem?_eq_some_iff.1 h).1];exact h⟩
 hq:=fun he=>by obtain⟨o,h⟩:=H.hq he;exact⟨o,by rw[List.getElem?_append_left (List.getElem?_eq_some_iff.1 h).1];exact h⟩
 len:=H.len
 small:=H.small
 good:=H.good
 con:=fun i ev c h1 h2=>(H.con i ev c h1 h2).more Z
theorem Tryz.HstC.at(H:Tryz.HstC s p t q evs cs M):Tryz.HstAt s p t q evs (cs.map unE) M where
 hp:=H.hp
 ht:=H.ht
 hq:=H.hq
 len:=by rw[List.length_map,H.len]
 small:=by rw[H.len];exact H.small
 con:=fun i ev U h1 h2=>by
  rw[List.getElem?_map,Option.map_eq_some_iff] at h2
  obtain⟨c,h3,h4⟩:=h2
  exact⟨c,H.good c (List.mem_of_getElem? h3),h4,fun X=>(H.con i ev c h1 h3).more X⟩
theorem Tryz.HstAt.toC{us:List (List (List UInt8))}(H:Tryz.HstAt s p t q evs us M):∃cs,us=cs.map unE∧Tryz.HstC s p t q evs cs M:=by
 obtain⟨cs,h1,h2⟩:=vZ (P:=fun i ev c=>Tryz.Good s c∧(∀U,us[i]? =some U→unE c=U)∧EvAt M ev c) evs fun i ev hi=>by
  have hl:=(List.getElem?_eq_some_iff.1 hi).1
  have hl' :i<us.length:=by rw[H.len];exact hl
  have hu:us[i]? =some us[i]:=List.getElem?_eq_getElem hl'
  obtain⟨c,g1,g2,g3⟩:=H.con i ev _ hi hu
  exact⟨c,g1,fun U hU=>by rw[hu] at hU;cases hU;exact g2,by simpa using g3 []⟩
 have hat:∀(i:Nat) c,cs[i]? =some c→∃ev,evs[i]? =some ev:=fun i c hc=>⟨_,List.getElem?_eq_getElem (by rw[←h1];exact(List.getElem?_eq_some_iff.1 hc).1)⟩
 refine⟨cs,?_,H.hp,H.ht,H.hq,h1.symm,by rw[h1];exact H.small,fun c hc=>?_,fun i ev c a b=>(h2 i ev c a b).2.2⟩
 ·refine List.ext_getElem? fun i=>?_
  rw[List.getElem?_map]
  cases hc:cs[i]? with
  |none=>
   have:=List.getElem?_eq_none_iff.1 hc
   rw[Option.map_none,List.getElem?_eq_none_iff,H.len,←h1];exact this
  |some c=>
   obtain⟨ev,he⟩:=hat i c hc
   have hl:=(List.getElem?_eq_some_iff.1 he).1
   have hl' :i<us.length:=by rw[H.len];exact hl
   have hu:us[i]? =some us[i]:=List.getElem?_eq_getElem hl'
   rw[hu,Option.map_some,(h2 i ev c he hc).2.1 _ hu]
 ·obtain⟨i,hi⟩:=List.getElem?_of_mem hc
  obtain⟨ev,he⟩:=hat i c hi
  exact(h2 i ev c he hi).1
theorem Tryz.HstC.l32(H:Tryz.HstC s p t q evs cs M):∀e∈evs,e.length=32:=H.at.l32
theorem Tryz.HstC.cok(H:Tryz.HstC s p t q evs cs M):∀e∈evs,∀x∈e,x.cellOk=true:=H.at.cok
theorem Tryz.HstC.flat(H:Tryz.HstC s p t q evs cs M):evs.flatten.length=cs.length*32:=by rw[tS H.l32,H.len]
theorem IA{evs:List (List AV)}(h:∀e∈evs,∀x∈e,x.cellOk=true):evs.flatten.all AV.cellOk=true:=by
 rw[List.all_eq_true]
 intro x hx
 obtain⟨e,he,hxe⟩:=List.mem_flatten.1 hx
 exact h e he x hxe
theorem Tryz.HstC.rowEv(H:Tryz.HstC s p t q evs cs M):EvRow M (evV q cs.length) cs.length evs.flatten:=by
 by_cases h0:cs.length=0
 ·left
  have:evs=[]:=List.eq_nil_of_length_eq_zero (by rw[H.len];exact h0)
  exact⟨h0,by rw[this];rfl,.inl (by unfold evV;rw[if_pos h0])⟩
 ·right
  obtain⟨o,h⟩:=H.hq (by rintro rfl;have:=H.len;simp at this;omega)
  exact⟨q,o,evs.flatten,by unfold evV;rw[if_neg h0],by omega,h,List.take_of_length_le (by rw[H.flat];omega)⟩
theorem Tryz.HstC.evsAt(H:Tryz.HstC s p t q evs cs M):EvsAt M (evV q cs.length) cs:=⟨evs,H.len,H.rowEv,H.con⟩
theorem Tryz.HstC.rowP(H:Tryz.HstC s p t q evs cs M):RowAt M (.slice p 0 s.P.length none) 2 s.P.length (pC s.P):=by
 obtain⟨o,h⟩:=H.hp
 exact .inr ⟨p,o,rfl,(fk s).1,h⟩
theorem LZ(s:Sheet):0<s.T.length:=by
 have:∀k<8,0<(aV k).length:=by decide
 exact this _ (Nat.mod_lt _ (by decide))
theorem Tryz.HstC.rowT(H:Tryz.HstC s p t q evs cs M):RowAt M (.slice t 0 s.T.length none) 3 s.T.length (tC s.T):=by
 obtain⟨o,h⟩:=H.ht
 exact .inr ⟨t,o,rfl,LZ s,h⟩
theorem Tryz.HstC.hc(H:Tryz.HstC s p t q evs cs M):HcAt M (aG s p t q cs.length) s cs:=⟨_,_,_,rfl,H.rowP,H.rowT,H.evsAt⟩
end
theorem z6(L:List P2):∀f,AV.refsOkL f (pC L)=true:=fun f=>by rw[Gk];exact Mz f _
theorem pw:∀(f:Nat→Bool) (L:List Tr),AV.refsOkL f (tC L)=true
 |f,[]=>rfl
 |f,k::l=>by simp[tC,AV.refsOkL,AV.refsOk,pw f l]
def OkN(T:Nat) (new:Mem):Prop:=∀f:Nat→Bool,(∀b,b<T→f b=true)→new.all (fun x=>br x&&x.refsOk f)=true
theorem OkN.of{T:Nat}{new:Mem}(h:∀x∈new,br x=true∧x.refsOk (fun b=>decide (b<T))=true):OkN T new:=fun f hf=>List.all_eq_true.2 fun x hx=>by
 obtain⟨a,b⟩:=h x hx
 rw[a,Bool.true_and]
 exact Slot.refsOk_mono (fun k hk=>hf k (of_decide_eq_true hk)) x b
def RefT(T:Nat) (vs:List AV):Prop:=∀f:Nat→Bool,(∀b,b<T→f b=true)→AV.refsOkL f vs=true
theorem RefT.of{T:Nat}{vs:List AV}(h:AV.refsOkL (fun b=>decide (b<T)) vs=true):RefT T vs:=fun f hf=>AV.refsOkL_mono (fun k hk=>hf k (of_decide_eq_true hk)) vs h
theorem Tryz.HstC.refs{s:Sheet}{p t q:Nat}{evs:List (List AV)}{cs:List Evc}{M:Mem}(H:Tryz.HstC s p t q evs cs M):RefT M.length (aG s p t q cs.length):=by
 refine .of ?_
 have a:=H.rowP.refs 0
 have b:=H.rowT.refs 0
 have c:(evV q cs.length).refsOk (fun b=>decide (b<M.length))=true:=by
  unfold evV
  split
  ·rfl
  ·rename_i h0
   obtain⟨o,h⟩:=H.hq (by rintro rfl;have:=H.len;simp at this;omega)
   have:=(List.getElem?_eq_some_iff.1 h).1
   simp only[AV.refsOk,decide_eq_true_eq];exact this
 rw[Nat.add_zero] at a b
 unfold aG
 simp only[AV.refsOkL,a,b,c,zV,Bool.and_self]
def qOf:AV→Nat
 |.slice kr _ _ _=>kr
 |_=>0
set_option maxRecDepth 4096 in
theorem uy{s:Sheet}{p t:Nat}{M:Mem}{l ev:AV}{cs:List Evc}(hp:∃o,M[p]? =some (.cells o 2 (pC s.P))) (ht:∃o,M[t]? =some (.cells o 3 (tC s.T))) (cev:ev.cellOk=true) (rev:ev.refsOk (fun b=>decide (b<M.length))=true) (H:EvsAt M l cs) (good:∀c∈cs,Tryz.Good s c) (small:cs.length≤4):
  ∃q evs new,ACallsTo Tryz.prog 39 [.agg [.slice p 0 s.P.length none,.slice t 0 s.T.length none,.str ak,ev],l] M (.agg (aG s (M.length+4) (M.length+6) q cs.length)) (M++new)∧Tryz.HstC s (M.length+4) (M.length+6) q evs cs (M++new)∧OkN (M.length+new.length) new:=by
 obtain⟨o1,hp⟩:=hp
 obtain⟨o2,ht⟩:=ht
 have lp:=(fk s).1
 have lt:=LZ s
 have rP:RowAt M (.slice p 0 s.P.length none) 2 s.P.length (pC s.P):=.inr ⟨p,o1,rfl,lp,hp⟩
 have rT:RowAt M (.slice t 0 s.T.length none) 3 s.T.length (tC s.T):=.inr ⟨t,o2,rfl,lt,ht⟩
 have lP:(pC s.P).length=s.P.length*2:=by rw[Gk,gt,ib,Nat.mul_comm]
 have lT:(tC s.T).length=s.T.length*3:=by rw[rY,Nat.mul_comm]
 have hn2:=(fk s).2
 have ht2:s.T.length≤1000:=by
  have:∀k<8,(aV k).length≤1000:=by decide
  exact this _ (Nat.mod_lt _ (by decide))
 obtain⟨pv,hpv⟩:∃pv,pv=clV (M.length+3) s.P.length:=⟨_,rfl⟩
 obtain⟨tv,htv⟩:∃tv,tv=clV (M.length+5) s.T.length:=⟨_,rfl⟩
 obtain⟨XP,hXP⟩:∃X,X=clX 2 s.P.length (pC s.P):=⟨_,rfl⟩
 obtain⟨XT,hXT⟩:∃X,X=clX 3 s.T.length (tC s.T):=⟨_,rfl⟩
 have eP:=Oa (rP.more [.cells true 0 [.slice p 0 s.P.length none,.slice t 0 s.T.length none,.str ak,ev],.cells true 0 [.nilslice,.nilslice,.str [],.nilslice],.cells true 0 [.nilslice,.nilslice,.str ak,.nilslice]]) lP hn2 (by rw[Gk];exact EZ _)
 have eT:=OV (rT.more [.cells true 0 [.slice p 0 s.P.length none,.slice t 0 s.T.length none,.str ak,ev],.cells true 0 [.nilslice,.nilslice,.str [],.nilslice],.cells true 0 [.nilslice,.nilslice,.str ak,.nilslice],.absent,XP]) lT ht2 (Pq _)
 have e3:(M++[Slot.cells true 0 [.slice p 0 s.P.length none,.slice t 0 s.T.length none,.str ak,ev],.cells true 0 [.nilslice,.nilslice,.str [],.nilslice],.cells true 0 [.nilslice,.nilslice,.str ak,.nilslice]]).length=M.length+3:=by simp
 have e5:(M++[Slot.cells true 0 [.slice p 0 s.P.length none,.slice t 0 s.T.length none,.str ak,ev],.cells true 0 [.nilslice,.nilslice,.str [],.nilslice],.cells true 0 [.nilslice,.nilslice,.str ak,.nilslice],.absent,XP]).length=M.length+5:=by simp
 rw[e3,←hpv,←hXP] at eP
 rw[e5,←htv,←hXT] at eT
 obtain⟨N0,hN0⟩:∃N0,N0=M++[Slot.cells true 0 [.slice p 0 s.P.length none,.slice t 0 s.T.length none,.str ak,ev],.cells true 0 [.nilslice,.nilslice,.str [],.nilslice],.cells true 0 [pv,tv,.str ak,.nilslice],.absent,XP,.absent,XT]:=⟨_,rfl⟩
 have hcell:N0[M.length+2]? =some (.cells true 0 [pv,tv,.str ak,.nilslice]):=by rw[hN0,dx];rfl
 have hz:N0[M.length+1]? =some (.cells true 0 [.nilslice,.nilslice,.str [],.nilslice]):=by rw[hN0,dx];rfl
 have hl0:N0.length=M.length+7:=by rw[hN0];simp
 obtain⟨b,bi,hb⟩:∃b bi,am Tryz.f39=[b,bi]:=⟨_,_,rfl⟩
 have cpq:pv.cellOk=true:=by rw[hpv];exact gV _ _
 have ctq:tv.cellOk=true:=by rw[htv];exact gV _ _
 obtain⟨F,hF⟩:=GV H (fun c hc=>(good c hc).ok) (by omega) ⟨_,hN0⟩ (show M.length≤M.length+2 by omega) hcell cpq ctq hb
 have hlen:∀N,nl (aA Tryz.prog) 39 N l=some (.int .i64 cs.length):=by
  obtain⟨evs0,l1,r1,_⟩:=H
  exact gh r1
 have hE:∀{N i E evs},CpI N0 (M.length+2) pv tv cs N i E evs→E.cellOk=true:=fun I=>by
  rcases I.row with⟨_,rfl⟩ | ⟨_,rfl,_⟩<;>rfl
 obtain⟨env0,d,hpre,hr⟩:=Hr (F:=F) hb (rfl:(AV.slice p 0 s.P.length none).cellOk=true) (rfl:(AV.slice t 0 s.T.length none).cellOk=true) cev rP.refs rT.refs cpq (by rw[hpv];exact tT _ _) (by rw[hpv];exact uK _ _) (fun j hj=>by rw[hpv];exact cq (by omega)) ctq (by rw[htv];exact tT _ _) (by rw[htv];exact uK _ _) (fun j hj=>by rw[htv];exact cq (by omega))
  (by rw[hXP];exact kI _ _ _) (by rw[hXP];exact pg (z6 _)) (by rw[hXT];exact kI _ _ _) (by rw[hXT];exact pg (fun f=>pw f _)) hlen eP eT (by rw[←hN0];exact fun env0 d h=>(hF env0 d h).1) (fun env0 d h=>(hF env0 d h).2.1.cell) (fun env0 d h=>by rw[(hF env0 d h).2.1.same _ (by omega) (by omega)];exact hz)
  (fun env0 d h=>hE (hF env0 d h).2.1) (fun env0 d h=>(hF env0 d h).2.2.1) (fun env0 d h=>(hF env0 d h).2.2.2) (fun env0 d h=>by have:=(hF env0 d h).2.1.len;omega)
 have I:=(hF env0 d hpre).2.1
 have hsound:=aP aa (aj _) J1 (al _) hr
 obtain⟨E,hEe⟩:∃E,E=(F env0 d).2.2.1:=⟨_,rfl⟩
 obtain⟨evs,hevs⟩:∃x,x=(F env0 d).2.2.2:=⟨_,rfl⟩
 obtain⟨N,hN⟩:∃x,x=(F env0 d).2.1:=⟨_,rfl⟩
 rw[←hEe,←hN] at hsound
 rw[←hEe,←hevs,←hN] at I
 obtain⟨N',hN'⟩:∃x,x=N.set (M.length+1) (.cells true 0 [pv,tv,.str ak,E]):=⟨_,rfl⟩
 rw[←hN'] at hsound
 have hNz:N[M.length+1]? =some (.cells true 0 [.nilslice,.nilslice,.str [],.nilslice]):=by rw[I.same _ (by omega) (by omega)];exact hz
 have hk:Keep3 N N' :=by rw[hN'];exact Keep3.set hNz (.inl rfl) _
 have hpre' :∃new,N' =M++new:=by
  refine⟨N'.drop M.length,?_⟩
  refine List.ext_getElem? fun i=>?_
  by_cases hi:i<M.length
  ·rw[List.getElem?_append_left hi,hN',List.getElem?_set_ne (by omega),I.same i (by omega) (by omega),hN0,List.getElem?_append_left hi]
  ·rw[List.getElem?_append_right (by omega),List.getElem?_drop]
   congr 1;omega
 obtain⟨new,hnew⟩:=hpre'
 have hv:AV.agg [pv,tv,.str ak,E]=.agg (aG s (M.length+4) (M.length+6) (qOf E) cs.length):=by
  have e1:pv=.slice (M.length+4) 0 s.P.length none:=by rw[hpv];unfold clV;rw[if_neg (by omega)]
  have e2:tv=.slice (M.length+6) 0 s.T.length none:=by rw[htv];unfold clV;rw[if_neg (by omega)]
  rw[e1,e2]
  rcases I.row with⟨h0,rfl⟩ | ⟨kr,rfl,h0,_⟩
  ·unfold aG evV;rw[if_pos h0]
  ·unfold aG evV;rw[if_neg (by omega)];rfl
 rw[hv,hnew] at hsound
 have lenN:N'.length=N.length:=by rw[hN',List.length_set]
 have hge:M.length+7≤N.length:=by have:=I.len;omega
 have hall:∀(k:Nat) x,M.length≤k→N'[k]? =some x→br x=true∧x.refsOk (fun b=>decide (b<N'.length))=true:=by
  intro k x hk hx
  rw[lenN]
  have hE' :E.refsOk (fun b=>decide (b<N.length))=true:=by
   rcases I.row with⟨_,rfl⟩ | ⟨kr,rfl,_,_,hr⟩
   ·rfl
   ·simp only[AV.refsOk,decide_eq_true_eq];exact(List.getElem?_eq_some_iff.1 hr).1
  have pvr:pv.refsOk (fun b=>decide (b<N.length))=true:=by rw[hpv];exact cq (by omega)
  have tvr:tv.refsOk (fun b=>decide (b<N.length))=true:=by rw[htv];exact cq (by omega)
  have fin:∀y,y=Slot.cells true 0 [pv,tv,.str ak,E]→br y=true∧y.refsOk (fun b=>decide (b<N.length))=true:=by
   rintro y rfl
   exact⟨rfl,by simp only[cA,AV.refsOkL,zV,pvr,tvr,hE',Bool.and_self]⟩
  by_cases k1:k=M.length+1
  ·subst k1
   rw[hN',List.getElem?_set_self (by omega)] at hx
   exact fin x (Option.some.inj hx).symm
  rw[hN',List.getElem?_set_ne (by omega)] at hx
  by_cases k2:k=M.length+2
  ·subst k2
   rw[I.cell] at hx
   exact fin x (Option.some.inj hx).symm
  by_cases k0:k<N0.length
  ·rw[I.same k k0 k2,hN0] at hx
   obtain⟨j,rfl⟩:∃j,k=M.length+j:=⟨k-M.length,by omega⟩
   rw[dx] at hx
   match j,hx with
   |0,hx=>
    cases hx
    have lp1:=(List.getElem?_eq_some_iff.1 hp).1
    have lt1:=(List.getElem?_eq_some_iff.1 ht).1
    have r1:ev.refsOk (fun b=>decide (b<N.length))=true:=AV.refsOk_mono (fun b hb=>by simp only[decide_eq_true_eq] at hb ⊢;omega) ev rev
    have r2:(decide (p<N.length))=true:=by simp only[decide_eq_true_eq];omega
    have r3:(decide (t<N.length))=true:=by simp only[decide_eq_true_eq];omega
    exact⟨rfl,by simp only[cA,AV.refsOkL,AV.refsOk,r1,r2,r3,Bool.and_self]⟩
   |1,_=>omega
   |2,_=>omega
   |3,hx=>cases hx;exact⟨rfl,rfl⟩
   |4,hx=>cases hx;rw[hXP];exact⟨kI _ _ _,pg (z6 _) _⟩
   |5,hx=>cases hx;exact⟨rfl,rfl⟩
   |6,hx=>cases hx;rw[hXT];exact⟨kI _ _ _,pg (fun f=>pw f _) _⟩
   |j+7,hx=>simp at hx
  ·exact I.ok k x (by omega) hx
 refine⟨_,evs,new,hsound,?_,.of fun x hx=>?_⟩
 rotate_left
 ·obtain⟨i,hi⟩:=List.getElem?_of_mem hx
  have:=hall (M.length+i) x (by omega) (by rw[hnew,dx];exact hi)
  rwa [hnew,List.length_append] at this
 rw[←hnew]
 have row1:∀(k es:Nat) (C:List AV),es=1∨es=2∨es=3→k<N0.length→N0[k]? =some (.cells true es C)→N'[k]? =some (.cells true es C):=fun k es C he hk1 h=>hk k true es C he (by rw[I.same k hk1 (by rintro rfl;rw[hcell] at h;cases h;omega)];exact h)
 refine⟨⟨true,row1 _ _ _ (.inr (.inl rfl)) (by omega) ?_⟩,⟨true,row1 _ _ _ (.inr (.inr rfl)) (by omega) ?_⟩,fun hne=>?_,I.evl,small,good,fun i ev c h1 h2=>(I.con i ev c h1 h2).upd hk⟩
 ·rw[hN0,dx,hXP];unfold clX;rw[if_neg (by omega)];rfl
 ·rw[hN0,dx,hXT];unfold clX;rw[if_neg (by omega)];rfl
 ·rcases I.row with⟨h0,rfl⟩ | ⟨kr,rfl,h0,hge,hr⟩
  ·exact absurd (List.eq_nil_of_length_eq_zero (by rw[I.evl];exact h0)) hne
  ·exact⟨true,show N'[kr]? =some (.cells true 32 evs.flatten) by rw[hN',List.getElem?_set_ne (by omega)];exact hr⟩
end Go.Proofs
namespace Go.Proofs
open Go.Eng
section
variable {s:Sheet}{p t q:Nat}{evs:List (List AV)}{cs:List Evc}{M:Mem}
theorem Tryz.HstC.set0{N:Mem}(H:Tryz.HstC s p t q evs cs N) {k:Nat}{o:Bool}{D:List AV}(h:N[k]? =some (.cells o 0 D)) (x:Slot):Tryz.HstC s p t q evs cs (N.set k x) where
 hp:=by
  obtain⟨w,e⟩:=H.hp
  exact⟨w,by rw[List.getElem?_set_ne (by rintro rfl;rw[h] at e;cases e)];exact e⟩
 ht:=by
  obtain⟨w,e⟩:=H.ht
  exact⟨w,by rw[List.getElem?_set_ne (by rintro rfl;rw[h] at e;cases e)];exact e⟩
 hq:=fun hne=>by
  obtain⟨w,e⟩:=H.hq hne
  exact⟨w,by rw[List.getElem?_set_ne (by rintro rfl;rw[h] at e;cases e)];exact e⟩
 len:=H.len
 small:=H.small
 good:=H.good
 con:=fun i ev c h1 h2=>(H.con i ev c h1 h2).upd (Keep3.set h (.inl rfl) x)
end
structure Tryz.SrcEv (M:Mem) (v:AV) (evs:List (List AV)):Prop where
 s:∀Z,co (aA Tryz.prog) (M++Z) 32 39 v=some (evs.length,evs.flatten)
 l:∀N,nl (aA Tryz.prog) 39 N v=some (.int .i64 evs.length)
theorem Tryz.SrcEv.of{M:Mem}{v:AV}{n:Nat}{evs:List (List AV)}(h:EvRow M v n evs.flatten) (hn:evs.length=n) (h32:∀e∈evs,e.length=32):Tryz.SrcEv M v evs where
 s:=by rw[hn];exact h.src (by rw[tS h32,hn])
 l:=fun N=>by rw[hn];exact gh h N
theorem Tryz.SrcEv.more{M:Mem}{v:AV}{evs:List (List AV)}(h:Tryz.SrcEv M v evs) (X:Mem):Tryz.SrcEv (M++X) v evs where
 s:=fun Z=>by rw[List.append_assoc];exact h.s _
 l:=h.l
theorem pN{M:Mem}{bx:Nat}{o:Bool}{v1 v2:AV}{e1 e2:List (List AV)}{c1 c2:List Evc}(hb:M[bx]? =some (.cells o 1 [v1,v2])) (S1:Tryz.SrcEv M v1 e1) (S2:Tryz.SrcEv M v2 e2) (n1:e1.length=c1.length) (n2:e2.length=c2.length)
  (k1:∀(i:Nat) e c,e1[i]? =some e→c1[i]? =some c→EvAt M e c) (k2:∀(i:Nat) e c,e2[i]? =some e→c2[i]? =some c→EvAt M e c) (h10:c1.length+c2.length≤10):
  ∃v nw,ACallsTo Tryz.prog 40 [.slice bx 0 2 none] M v (M++nw)∧EvsAt (M++nw) v (c1++c2)∧
   ((c1.length+c2.length=0∧v=.nilslice∧nw=[])∨(0<c1.length+c2.length∧v=.slice (M.length+2) 0 (c1.length+c2.length) none∧∃C,nw=[.absent,.absent,.cells true 32 C]∧RefT M.length C)):=by
 have hat:∀(us:List (List AV)) (cs:List Evc),us.length=cs.length→(∀(i:Nat) e c,us[i]? =some e→cs[i]? =some c→EvAt M e c)→∀x∈us,∃c,EvAt M x c:=fun us cs hl h x hx=>by
  obtain⟨i,hi⟩:=List.getElem?_of_mem hx
  have:=(List.getElem?_eq_some_iff.1 hi).1
  exact⟨_,h i x _ hi (List.getElem?_eq_getElem (by omega))⟩
 have h1:=hat e1 c1 n1 k1
 have h2:=hat e2 c2 n2 k2
 have w1:∀x∈e1,x.length=32:=fun x hx=>(h1 x hx).elim fun c h=>h.l32
 have w2:∀x∈e2,x.length=32:=fun x hx=>(h2 x hx).elim fun c h=>h.l32
 have hcon:∀(Z:Mem) (i:Nat) e c,(e1++e2)[i]? =some e→(c1++c2)[i]? =some c→EvAt (M++Z) e c:=fun Z i e c he hc=>by
  by_cases hi:i<e1.length
  ·rw[List.getElem?_append_left hi] at he
   rw[List.getElem?_append_left (by omega)] at hc
   exact(k1 i e c he hc).more Z
  ·rw[List.getElem?_append_right (by omega)] at he
   rw[List.getElem?_append_right (by omega),←n1] at hc
   exact(k2 _ e c he hc).more Z
 obtain⟨v,nw,hc,h⟩:=BF hb S1.s S2.s S1.l S2.l (IA fun x hx=>(h1 x hx).elim fun c h=>h.cok) (IA fun x hx=>(h2 x hx).elim fun c h=>h.cok) (tS w1) (by omega)
 refine⟨v,nw,hc,?_,?_⟩
 ·refine⟨e1++e2,by rw[List.length_append,List.length_append,n1,n2],?_,hcon nw⟩
  rcases h with⟨h0,rfl,rfl⟩ | ⟨h0,rfl,rfl⟩
  ·left
   have a:e1=[]:=List.eq_nil_of_length_eq_zero (by omega)
   have b:e2=[]:=List.eq_nil_of_length_eq_zero (by omega)
   exact⟨by rw[List.length_append];omega,by rw[a,b];rfl,.inl rfl⟩
  ·right
   refine⟨M.length+2,true,e1.flatten++e2.flatten,by rw[List.length_append,n1,n2],by rw[List.length_append];omega,by rw[dx];rfl,?_⟩
   rw[List.flatten_append]
   exact List.take_of_length_le (by rw[List.length_append,List.length_append,tS w1,tS w2];omega)
 ·rcases h with⟨h0,rfl,rfl⟩ | ⟨h0,rfl,rfl⟩
  ·exact .inl ⟨by omega,rfl,rfl⟩
  ·refine .inr ⟨by omega,by rw[n1,n2],_,rfl,.of ?_⟩
   rw[dI,io fun x hx=>(h1 x hx).elim fun c h=>by simpa using h.refs 0,io fun x hx=>(h2 x hx).elim fun c h=>by simpa using h.refs 0]
   rfl
set_option maxRecDepth 16384 in
set_option maxHeartbeats 8000000 in
theorem Il{O:Oracle}{M:Mem}{pv tv ev pv' tv' ev' :AV}{x C:List AV}{new2:Mem}{n:Nat}{e:Int}{B:Bool}(he:e=bif B then 9 else 0)
  (cp:pv.cellOk=true) (ct:tv.cellOk=true) (ce:ev.cellOk=true) (ke0:ev.known=true) (le0:ev.cells=[ev]) (rp:RefT M.length [pv,tv,.str ak,ev]) (rC:RefT (M.length+5) C) (rx:RefT M.length x) (lx:x.length=32) (cx:x.all AV.cellOk=true)
  (cpq:pv'.cellOk=true) (ctq:tv'.cellOk=true) (ceq:ev'.cellOk=true) (kq:pv'.known=true∧tv'.known=true∧ev'.known=true) (rq:RefT (M.length+(new2.length+8)) [pv',tv',.str ak,ev']) (ok2:OkN (M.length+(new2.length+8)) new2)
  (e1:O (.fn 20) [.agg [pv,tv,.str ak,ev]] (M++[.cells true 0 [pv,tv,.str ak,ev],.cells true 0 x,.cells true 0 [.nilslice,.nilslice,.str [],.nilslice]])=some ⟨.int .i64 0,none,[]⟩)
  (e2:O (.fn 40) [.slice (M.length+4) 0 2 none] (M++[.cells true 0 [pv,tv,.str ak,ev],.cells true 0 x,.cells true 0 [.nilslice,.nilslice,.str [],.nilslice],.cells true 32 x,.cells true 1 [ev,.slice (M.length+3) 0 1 none]])=some ⟨.slice (M.length+7) 0 (n+1) none,none,[.absent,.absent,.cells true 32 C]⟩)
  (e3:O (.fn 39) [.agg [pv,tv,.str ak,ev],.slice (M.length+7) 0 (n+1) none] (M++[.cells true 0 [pv,tv,.str ak,ev],.cells true 0 x,.cells true 0 [.nilslice,.nilslice,.str [],.nilslice],.cells true 32 x,.cells true 1 [ev,.slice (M.length+3) 0 1 none],.absent,.absent,.cells true 32 C])=some ⟨.agg [pv',tv',.str ak,ev'],none,new2⟩)
  (e4:O (.fn 20) [.agg [pv',tv',.str ak,ev']] (M++(.cells true 0 [pv,tv,.str ak,ev]::.cells true 0 x::.cells true 0 [.nilslice,.nilslice,.str [],.nilslice]::.cells true 32 x::.cells true 1 [ev,.slice (M.length+3) 0 1 none]::.absent::.absent::.cells true 32 C::(new2++[.cells true 0 [pv',tv',.str ak,ev']])))=some ⟨.int .i64 e,none,[]⟩):
  aT (aA Tryz.prog) (fun _=>[]) (aF Tryz.prog) O 1 10 [.agg [pv,tv,.str ak,ev],.agg x] M=some (.tuple [.agg (bif B then [.nilslice,.nilslice,.str [],.nilslice] else [pv',tv',.str ak,ev']),.int .i64 e],M++(.cells true 0 [pv,tv,.str ak,ev]::.cells true 0 x::.cells true 0 (bif B then [.nilslice,.nilslice,.str [],.nilslice] else [pv',tv',.str ak,ev'])::.cells true 32 x::.cells true 1 [ev,.slice (M.length+3) 0 1 none]::.absent::.absent::.cells true 32 C::(new2++[.cells true 0 [pv',tv',.str ak,ev']]))):=by
 have hG:aF Tryz.prog 10=some Tryz.f10:=by kernel_rfl
 obtain⟨os',hops⟩:∃os',aE Tryz.f10=os' :=⟨_,rfl⟩
 have hbs' :=aS hops (ls:=[[0,0,2,0,8,30,62,127,0,511]]) (by kernel_rfl)
 simp only[aE,bw,Tryz.f10,List.nil_append,List.append_nil,List.cons_append] at hops
 subst hops
 simp only[List.map_cons,List.map_nil,List.cons.injEq,and_true] at hbs'
 have w0:IntKind.i64.wrap 0=0:=rfl
 have w9:IntKind.i64.wrap 9=9:=rfl
 have hjl:∀j,(M.length+j<M.length)=False:=fun j=>fl _ _
 have t32:x.take 32=x:=List.take_of_length_le (by omega)
 have gx:(∀y:AV,y∈x→y.cellOk=true)=True:=eq_true (List.all_eq_true.1 cx)
 obtain⟨kp,kt,ke⟩:=kq
 obtain⟨L,hL⟩:∃L,L=new2.length:=⟨_,rfl⟩
 have r_3:=rp (fun b=>decide (b<M.length+3)) (by intro b hb;simp only[decide_eq_true_eq];omega)
 have r_5:=rp (fun b=>decide (b<M.length+5)) (by intro b hb;simp only[decide_eq_true_eq];omega)
 have x_3:=rx (fun b=>decide (b<M.length+3)) (by intro b hb;simp only[decide_eq_true_eq];omega)
 have x_4:=rx (fun b=>decide (b<M.length+4)) (by intro b hb;simp only[decide_eq_true_eq];omega)
 have C_8:=rC (fun b=>decide (b<M.length+8)) (by intro b hb;simp only[decide_eq_true_eq];omega)
 have q_8:=rq (fun b=>decide (b<M.length+(new2.length+8))) (by intro b hb;simp only[decide_eq_true_eq];exact hb)
 have q_9:=rq (fun b=>decide (b<M.length+(new2.length+9))) (by intro b hb;simp only[decide_eq_true_eq];omega)
 have o_8:=ok2 (fun b=>decide (b<M.length+(new2.length+8))) (by intro b hb;simp only[decide_eq_true_eq];exact hb)
 have l1:∀k j,j≤8→(M.length+(new2.length+8+k)<M.length+j)=False:=fun k j hj=>by rw[eq_iff_iff,iff_false];omega
 simp only[AV.refsOkL,Bool.and_eq_true] at r_3 r_5 q_8 q_9
 obtain⟨r31,r32,_,r33,_⟩:=r_3
 obtain⟨r51,r52,_,r53,_⟩:=r_5
 obtain⟨q81,q82,_,q83,_⟩:=q_8
 obtain⟨q91,q92,_,q93,_⟩:=q_9
 clear rp rx rC rq ok2
 cases B<;>(simp only[cond_true,cond_false] at he;subst he)<;>
  simp[-getElem?_pos,-AV.cellOk,-AV.known,-AV.cells,-cX,-aW,-aR,-aC,-AV.refsOk,-Slot.refsOk,-List.all_eq_true,vS,rS,mS,cL,cm hbs',dM,cK,gB,dK,bV,nu,bef,Nat.testBit,bH,ax,aT,hG,Tryz.f10,e1,e2,e3,e4,ke0,le0,cp,ct,ce,cx,gx,t32,lx,cpq,ctq,ceq,kp,kt,ke,r31,r32,r33,r51,r52,r53,x_3,x_4,C_8,q81,q82,q83,q91,q92,q93,o_8,hjl,w0,w9]
 done
end Go.Proofs
namespace Go.Proofs
open Go.Eng
theorem ip{f g:FuncId}{a b:List AV}{m m' :Mem}{r:CallRes}{L:List (FuncId×List AV×Mem×CallRes)}(h:m'.length≠m.length):cd ((f,a,m,r)::L) (.fn g) b m' =cd L (.fn g) b m' :=by
 rw[cd,if_neg (fun e=>h (congrArg List.length e.2.2))]
theorem ag{f g:FuncId}{a b:List AV}{m m' :Mem}{r:CallRes}{L:List (FuncId×List AV×Mem×CallRes)}(h:f≠g):cd ((f,a,m,r)::L) (.fn g) b m' =cd L (.fn g) b m' :=by
 rw[cd,if_neg (fun e=>h (by have:=e.1;cases this;rfl))]
theorem pL(q n:Nat):(evV q n).known=true:=by unfold evV;split<;>rfl
theorem QA(q n:Nat):(evV q n).cells=[evV q n]:=by unfold evV;split<;>rfl
def iy:List AV:=[.nilslice,.nilslice,.str [],.nilslice]
section
variable {s:Sheet}{p t q:Nat}{evs:List (List AV)}{cs:List Evc}{M:Mem}
theorem Tryz.HstC.chk(H:Tryz.HstC s p t q evs cs M):ACallsTo Tryz.prog 20 [.agg (aG s p t q cs.length)] M (.int .i64 (bif tf [ak] (cs.map unE) then 9 else 0)) M:=by
 have:=BW H.at
 rwa [H.len] at this
theorem Tryz.HstC.lchk(H:Tryz.HstC s p t q evs cs M):ACallsTo Tryz.prog 12 [.agg (aG s p t q cs.length)] M (.int .i64 (bif tf [ak] (cs.map unE) then 9 else 0)) M:=by
 have:=Bj H.at
 rwa [H.len] at this
theorem Tryz.HstC.src(H:Tryz.HstC s p t q evs cs M):Tryz.SrcEv M (evV q cs.length) evs:=.of H.rowEv H.len H.l32
theorem Tryz.HstC.refE(H:Tryz.HstC s p t q evs cs M) (f:Nat→Bool) (hf:∀b,b<M.length→f b=true):(evV q cs.length).refsOk f=true:=by
 have:=H.refs f hf
 simp only[aG,AV.refsOkL,Bool.and_eq_true] at this
 exact this.2.2.2.1
set_option maxRecDepth 8192 in
theorem qY(H:Tryz.HstC s p t q evs cs M) {x:List AV}{c:Evc}(hx:EvAt M x c) (g:Tryz.Good s c) (h3:cs.length≤3) (hd:tf [ak] (cs.map unE)=false) (B:Bool) (hB:tf [ak] ((cs++[c]).map unE)=B):
  ∃p' t' q' evs' new,ACallsTo Tryz.prog 10 [.agg (aG s p t q cs.length),.agg x] M (.tuple [.agg (bif B then iy else aG s p' t' q' (cs.length+1)),.int .i64 (bif B then 9 else 0)]) (M++new)∧Tryz.HstC s p' t' q' evs' (cs++[c]) (M++new)∧OkN (M.length+new.length) new:=by
 obtain⟨b0,hb0⟩:∃b0,b0=Slot.cells true 0 (aG s p t q cs.length):=⟨_,rfl⟩
 obtain⟨b1,hb1⟩:∃b1,b1=Slot.cells true 0 x:=⟨_,rfl⟩
 obtain⟨z,hz⟩:∃z,z=Slot.cells true 0 iy:=⟨_,rfl⟩
 obtain⟨rx,hrx⟩:∃r,r=Slot.cells true 32 x:=⟨_,rfl⟩
 obtain⟨rs,hrs⟩:∃r,r=Slot.cells true 1 [evV q cs.length,.slice (M.length+3) 0 1 none]:=⟨_,rfl⟩
 have lx:=hx.l32
 have f1:=(H.more [b0,b1,z]).chk
 rw[hd] at f1
 have hA1:(M++[b0,b1,z,rx,rs]).length=M.length+5:=by simp
 obtain⟨v,nw,f2,hE,hnw⟩:=pN (M:=M++[b0,b1,z,rx,rs]) (bx:=M.length+4) (o:=true) (v1:=evV q cs.length) (v2:=.slice (M.length+3) 0 1 none) (e1:=evs) (e2:=[x]) (c1:=cs) (c2:=[c]) (by rw[dx,hrs];rfl) (H.more _).src
  (.of (n:=1) (.inr ⟨M.length+3,true,x,rfl,by omega,by rw[dx,hrx];rfl,by simp[List.take_of_length_le,lx]⟩) rfl (by simpa using lx)) H.len rfl (H.more _).con (fun i e d h1 h2=>by
   match i,h1,h2 with
   |0,h1,h2=>simp at h1 h2;subst h1 h2;exact hx.more _
   |i+1,h1,_=>simp at h1) (by simp;omega)
 rcases hnw with⟨h0,_⟩ | ⟨_,rfl,C,rfl,rC⟩
 ·simp at h0
 rw[hA1] at f2 hE rC
 have H2:Tryz.HstC s p t q evs cs (M++[b0,b1,z,rx,rs,.absent,.absent,.cells true 32 C]):=H.more _
 have hE2:EvsAt (M++[b0,b1,z,rx,rs,.absent,.absent,.cells true 32 C]) (.slice (M.length+7) 0 (cs.length+1) none) (cs++[c]):=by simpa using hE
 obtain⟨q',evs',new2,f3,H3,ok2⟩:=uy H2.hp H2.ht (gk q cs.length) (H.refE _ (fun b hb=>by simp only[decide_eq_true_eq,List.length_append];omega)) hE2 (fun d hd=>by
  rcases List.mem_append.1 hd with h | h
  ·exact H.good d h
  ·simp at h;subst h;exact g) (by simp;omega)
 have hA2:(M++[b0,b1,z,rx,rs,.absent,.absent,.cells true 32 C]).length=M.length+8:=by simp
 rw[hA2] at f3 H3 ok2
 have hl1:(cs++[c]).length=cs.length+1:=by simp
 rw[hl1] at f3
 obtain⟨h',hh'⟩:∃h',h' =aG s (M.length+8+4) (M.length+8+6) q' (cs.length+1):=⟨_,rfl⟩
 have f4:=(H3.more [.cells true 0 h']).chk
 rw[hB,hl1,←hh'] at f4
 rw[←hh'] at f3
 have f3' :ACallsTo Tryz.prog 39 [.agg (aG s p t q cs.length),.slice (M.length+7) 0 (cs.length+1) none] (M++[b0,b1,z,rx,rs,.absent,.absent,.cells true 32 C]) (.agg h') (M++[b0,b1,z,rx,rs,.absent,.absent,.cells true 32 C]++new2):=f3
 have eN:M.length+8+new2.length=M.length+(new2.length+8):=by omega
 rw[eN] at ok2
 have rq:RefT (M.length+(new2.length+8)) h' :=by
  have:=H3.refs
  rw[hl1,←hh',List.length_append,hA2,eN] at this
  exact this
 have rxT:RefT M.length x:=.of (by simpa using hx.refs 0)
 have f4' :ACallsTo Tryz.prog 20 [.agg h'] (M++(b0::b1::z::rx::rs::.absent::.absent::.cells true 32 C::(new2++[.cells true 0 h']))) (.int .i64 (bif B then 9 else 0)) ((M++(b0::b1::z::rx::rs::.absent::.absent::.cells true 32 C::(new2++[.cells true 0 h'])))++[]):=by simpa using f4
 have hO:OracleOk Tryz.prog (cd [(20,[.agg (aG s p t q cs.length)],M++[b0,b1,z],⟨.int .i64 0,none,[]⟩),(40,[.slice (M.length+4) 0 2 none],M++[b0,b1,z,rx,rs],⟨.slice (M.length+7) 0 (cs.length+1) none,none,[.absent,.absent,.cells true 32 C]⟩),
   (39,[.agg (aG s p t q cs.length),.slice (M.length+7) 0 (cs.length+1) none],M++[b0,b1,z,rx,rs,.absent,.absent,.cells true 32 C],⟨.agg h',none,new2⟩),(20,[.agg h'],M++(b0::b1::z::rx::rs::.absent::.absent::.cells true 32 C::(new2++[.cells true 0 h'])),⟨.int .i64 (bif B then 9 else 0),none,[]⟩)]):=du fun y hy=>by
  simp only[List.mem_cons,List.not_mem_nil,or_false] at hy
  rcases hy with rfl | rfl | rfl | rfl
  ·exact⟨by simpa [CallRes.mem] using f1,by simp⟩
  ·exact⟨by simpa [CallRes.mem] using f2,by simp⟩
  ·exact⟨by simpa [CallRes.mem] using f3',by simp⟩
  ·exact⟨by simpa [CallRes.mem] using f4',by simp⟩
 obtain⟨O,hOe⟩:∃O,O=cd [(20,[.agg (aG s p t q cs.length)],M++[b0,b1,z],⟨.int .i64 0,none,[]⟩),(40,[.slice (M.length+4) 0 2 none],M++[b0,b1,z,rx,rs],⟨.slice (M.length+7) 0 (cs.length+1) none,none,[.absent,.absent,.cells true 32 C]⟩),
   (39,[.agg (aG s p t q cs.length),.slice (M.length+7) 0 (cs.length+1) none],M++[b0,b1,z,rx,rs,.absent,.absent,.cells true 32 C],⟨.agg h',none,new2⟩),(20,[.agg h'],M++(b0::b1::z::rx::rs::.absent::.absent::.cells true 32 C::(new2++[.cells true 0 h'])),⟨.int .i64 (bif B then 9 else 0),none,[]⟩)]:=⟨_,rfl⟩
 have e1:O (.fn 20) [.agg (aG s p t q cs.length)] (M++[b0,b1,z])=some ⟨.int .i64 0,none,[]⟩:=by rw[hOe];exact bm
 have e2:O (.fn 40) [.slice (M.length+4) 0 2 none] (M++[b0,b1,z,rx,rs])=some ⟨.slice (M.length+7) 0 (cs.length+1) none,none,[.absent,.absent,.cells true 32 C]⟩:=by
  rw[hOe,ip (by simp)];exact bm
 have e3:O (.fn 39) [.agg (aG s p t q cs.length),.slice (M.length+7) 0 (cs.length+1) none] (M++[b0,b1,z,rx,rs,.absent,.absent,.cells true 32 C])=some ⟨.agg h',none,new2⟩:=by
  rw[hOe,ip (by simp),ip (by simp)];exact bm
 have e4:O (.fn 20) [.agg h'] (M++(b0::b1::z::rx::rs::.absent::.absent::.cells true 32 C::(new2++[.cells true 0 h'])))=some ⟨.int .i64 (bif B then 9 else 0),none,[]⟩:=by
  rw[hOe,ip (by simp),ip (by simp),ip (by simp)];exact bm
 rw[←hOe] at hO
 clear hOe f1 f2 f3 f3' f4 f4' hE hE2 hB hd
 subst hb0 hb1 hz hrx hrs
 rw[hh'] at e3 e4 rq
 have hr:=Il (O:=O) (n:=cs.length) (B:=B) rfl rfl rfl (gk q cs.length) (pL _ _) (QA _ _) H.refs rC rxT lx (List.all_eq_true.2 hx.cok) rfl rfl (gk q' (cs.length+1)) ⟨rfl,rfl,pL _ _⟩ rq ok2 e1 e2 e3 e4
 have hs:=aP aa (aj _) hO (al _) hr
 refine⟨M.length+8+4,M.length+8+6,q',evs',_,hs,?_,?_⟩
 ·have hz3:(M++(Slot.cells true 0 (aG s p t q cs.length)::.cells true 0 x::.cells true 0 iy::.cells true 32 x::.cells true 1 [evV q cs.length,.slice (M.length+3) 0 1 none]::.absent::.absent::.cells true 32 C::(new2++[.cells true 0 h'])))[M.length+2]? =some (.cells true 0 iy):=by rw[dx];rfl
  have H4:=(show Tryz.HstC s (M.length+8+4) (M.length+8+6) q' evs' (cs++[c]) (M++(Slot.cells true 0 (aG s p t q cs.length)::.cells true 0 x::.cells true 0 iy::.cells true 32 x::.cells true 1 [evV q cs.length,.slice (M.length+3) 0 1 none]::.absent::.absent::.cells true 32 C::(new2++[.cells true 0 h']))) by have:=H3.more [.cells true 0 h'];simpa using this).set0 hz3 (.cells true 0 (bif B then iy else aG s (M.length+8+4) (M.length+8+6) q' (cs.length+1)))
  rw[ym,hh'] at H4
  exact H4
 ·intro f hf
  have T:M.length+(Slot.cells true 0 (aG s p t q cs.length)::.cells true 0 x::.cells true 0 (bif B then iy else aG s (M.length+8+4) (M.length+8+6) q' (cs.length+1))::.cells true 32 x::.cells true 1 [evV q cs.length,.slice (M.length+3) 0 1 none]::.absent::.absent::.cells true 32 C::(new2++[.cells true 0 (aG s (M.length+8+4) (M.length+8+6) q' (cs.length+1))])).length=M.length+(new2.length+9):=by simp
  have hf' :∀b,b<M.length+(new2.length+9)→f b=true:=fun b hb=>hf b (by
   first
   |(rw[T];exact hb)
   |(simp;omega))
  have a1:=H.refs f fun b hb=>hf' b (by omega)
  have a2:=rxT f fun b hb=>hf' b (by omega)
  have a3:=rC f fun b hb=>hf' b (by omega)
  have a4:=ok2 f fun b hb=>hf' b (by omega)
  have a5:=rq f fun b hb=>hf' b (by omega)
  have a6:=H.refE f fun b hb=>hf' b (by omega)
  have a7:=hf' (M.length+3) (by omega)
  have a8:AV.refsOkL f (bif B then iy else aG s (M.length+8+4) (M.length+8+6) q' (cs.length+1))=true:=by
   cases B
   ·exact a5
   ·rfl
  show List.all (Slot.cells true 0 (aG s p t q cs.length)::.cells true 0 x::.cells true 0 (bif B then iy else aG s (M.length+8+4) (M.length+8+6) q' (cs.length+1))::.cells true 32 x::.cells true 1 [evV q cs.length,.slice (M.length+3) 0 1 none]::.absent::.absent::.cells true 32 C::(new2++[.cells true 0 (aG s (M.length+8+4) (M.length+8+6) q' (cs.length+1))])) _=true
  simp only[List.all_cons,List.all_append,List.all_nil,dl,dC,cA,kU,AV.refsOkL,LF,a1,a2,a3,a4,a5,a6,a7,a8,Bool.and_self]
end
end Go.Proofs
