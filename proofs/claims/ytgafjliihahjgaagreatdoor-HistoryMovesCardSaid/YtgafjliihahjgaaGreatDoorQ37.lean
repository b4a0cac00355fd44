/- See Q54. -/
import Derived.Test.YtgafjliihahjgaaGreatDoorQ35
set_option linter.all false
namespace Go.Proofs
open Go.Eng
def clV(L n:Nat):AV:=if n=0 then .nilslice else .slice (L+1) 0 n none
def clX(es n:Nat) (C:List AV):Slot:=if n=0 then .absent else .cells true es C
theorem Ty{M:Mem}{v:AV}{n:Nat}{C:List AV}(h:RowAt M v 3 n C) (hl:C.length=n*3) (hn:n≤1000) (hall:C.all AV.cellOk=true):
  ACallsTo Tryz.prog 64 [v] M (clV M.length n) (M++[.absent,clX 3 n C]):=by
 have hG:aL Tryz.prog 64=some Tryz.f64:=by kernel_rfl
 rcases h with⟨rfl,rfl,rfl⟩ | ⟨b,o,rfl,hp,hb⟩
 ·have h:cf (aM Tryz.prog) (fun _=>[]) (aL Tryz.prog) bJ 1 64 [.nilslice] M=some (.nilslice,M):=by simp[cf,hG,Tryz.f64,JH]
  have:=bZ ae (aw _) (ao _) (az _) h;simpa [clV,clX] using mB 2 this
 ·have lb:=(List.getElem?_eq_some_iff.1 hb).1
  have hb' :∀Z,(M++Z)[b]? =some (.cells o 3 C):=fun Z=>by rw[List.getElem?_append_left lb];exact hb
  have ht:C.take (n*3)=C:=List.take_of_length_le (by omega);have hle:n*3≤C.length:=by omega
  have q1:n*24≤140737488355328:=by omega
  have q2:n≤140737488355328:=by omega
  have h:cf (aM Tryz.prog) (fun _=>[]) (aL Tryz.prog) bJ 1 64 [.slice b 0 n none] M=some (.slice (M.length+1) 0 n none,M++[.absent,.cells true 3 C]):=by simp[-List.all_eq_true,-AV.cellOk,cf,hG,Tryz.f64,JH,hb',ht,hle,q1,q2,hall];done
  have:=bZ ae (aw _) (ao _) (az _) h;unfold clV clX;rw[if_neg (by omega),if_neg (by omega)];exact this
def Keep3(N N' :Mem):Prop:=∀(b:Nat) o es C,es=1∨es=2∨es=3→N[b]? =some (.cells o es C)→N'[b]? =some (.cells o es C)
theorem Keep3.refl(N:Mem):Keep3 N N:=fun _ _ _ _ _ h=>h
theorem Keep3.trans{A B C:Mem}(h:Keep3 A B) (h' :Keep3 B C):Keep3 A C:=fun b o es D hes hb=>h' b o es D hes (h b o es D hes hb)
theorem Keep3.app(N Z:Mem):Keep3 N (N++Z):=fun b o es D _ hb=>by rw[List.getElem?_append_left (List.getElem?_eq_some_iff.1 hb).1];exact hb
theorem Keep3.set{N:Mem}{k e:Nat}{o:Bool}{D:List AV}(h:N[k]? =some (.cells o e D)) (he:e=0∨e=32) (s:Slot):Keep3 N (N.set k s):=fun b o' es D' hes hb=>by
 rw[List.getElem?_set_ne]
 ·exact hb
 ·rintro rfl
  rw[h] at hb;cases hb;omega
theorem RowAt.upd{N N' :Mem}{v:AV}{es n:Nat}{C:List AV}(h:RowAt N v es n C) (hes:es=1∨es=2∨es=3) (hk:Keep3 N N'):RowAt N' v es n C:=by
 rcases h with h | ⟨b,o,h1,h2,h3⟩
 ·exact .inl h
 ·exact .inr ⟨b,o,h1,h2,hk b o es C hes h3⟩
theorem SfAt.upd{N N' :Mem}{v:AV}{S:List (List (List UInt8))}(h:SfAt N v S) (hk:Keep3 N N'):SfAt N' v S:=by obtain⟨vs,h1,h2,h3⟩:=h;exact⟨vs,h1,h2.upd (.inl rfl) hk,fun i x L a b=>(h3 i x L a b).upd (.inl rfl) hk⟩
theorem EvAt.upd{N N' :Mem}{ev:List AV}{c:Evc}(h:EvAt N ev c) (hk:Keep3 N N'):EvAt N' ev c:=by obtain⟨b,u,s,kn,h1,h2,h3,h4,h5⟩:=h;exact⟨b,u,s,kn,h1,h2.upd (.inl rfl) hk,h3.upd (.inl rfl) hk,h4.upd hk,h5.upd (.inr (.inl rfl)) hk⟩
end Go.Proofs
namespace Go.Proofs
open Go.Eng
end Go.Proofs
namespace Go.Proofs
open Go.Eng
def EvRow(N:Mem) (v:AV) (n:Nat) (C:List AV):Prop:=(n=0∧C=[]∧(v=.nilslice∨∃b,v=.slice b 0 0 none))∨∃b o D,v=.slice b 0 n none∧0<n∧N[b]? =some (.cells o 32 D)∧D.take (n*32)=C
theorem EvRow.more{N:Mem}{v:AV}{n:Nat}{C:List AV}(h:EvRow N v n C) (Z:Mem):EvRow (N++Z) v n C:=by
 rcases h with h | ⟨b,o,D,h1,h2,h3,h4⟩
 ·exact .inl h
 ·exact .inr ⟨b,o,D,h1,h2,by rw[List.getElem?_append_left (List.getElem?_eq_some_iff.1 h3).1];exact h3,h4⟩
def EvsAt(N:Mem) (v:AV) (cs:List Evc):Prop:=∃evs:List (List AV),evs.length=cs.length∧EvRow N v cs.length evs.flatten∧∀(i:Nat) e c,evs[i]? =some e→cs[i]? =some c→EvAt N e c
theorem EvsAt.more{N:Mem}{v:AV}{cs:List Evc}(h:EvsAt N v cs) (Z:Mem):EvsAt (N++Z) v cs:=by obtain⟨evs,h1,h2,h3⟩:=h;exact⟨evs,h1,h2.more Z,fun i e c a b=>(h3 i e c a b).more Z⟩
theorem EA{N:Mem}{v:AV}{n:Nat}{C:List AV}(h:EvRow N v n C) (N' :Mem):jw (aM Tryz.prog) 38 N' v=some (.int .i64 n):=by rcases h with⟨rfl,_,rfl | ⟨b,rfl⟩⟩ | ⟨b,o,D,rfl,_⟩<;>simp
structure CpI (N0:Mem) (kc:Nat) (pv tv:AV) (cs:List Evc) (N:Mem) (i:Nat) (E:AV) (evs:List (List AV)):Prop where
 len:N0.length≤N.length
 same:∀k,k<N0.length→k≠kc→N[k]? =N0[k]?
 cell:N[kc]? =some (.cells true 0 [pv,tv,.str ba,E])
 evl:evs.length=i
 row:(i=0∧E=.nilslice)∨∃kr,E=.slice kr 0 i none∧0<i∧N0.length≤kr∧N[kr]? =some (.cells true 32 evs.flatten)
 con:∀(k:Nat) e c,evs[k]? =some e→cs[k]? =some c→EvAt N e c
 keep:Keep3 N0 N
 ok:∀(k:Nat) x,N0.length≤k→N[k]? =some x→iI x=true∧x.refsOk (fun b=>decide (b<N.length))=true
theorem KO:∀{l:List (List AV)},(∀x∈l,x.length=32)→l.flatten.length=l.length*32
 | [],_=>rfl
 |x::l,h=>by rw[List.flatten_cons,List.length_append,h x (by simp),KO (fun y hy=>h y (by simp[hy])),List.length_cons,Nat.succ_mul];omega
theorem CpI.step{N0 N Z:Mem}{kc i:Nat}{pv tv E:AV}{cs:List Evc}{evs:List (List AV)}{e:List AV}{c:Evc}(H:CpI N0 kc pv tv cs N i E evs) (hkc:kc<N0.length) (hc:cs[i]? =some c) (N' :Mem) (hkr:Nat)
  (hN' :(i=0→N' =(N.set kc (.cells true 0 [pv,tv,.str ba,.slice hkr 0 (i+1) none]))++Z)∧(∀kr,E=.slice kr 0 i none→N' =((N.set kr .absent).set kc (.cells true 0 [pv,tv,.str ba,.slice hkr 0 (i+1) none]))++Z))
  (hrow:N.length≤hkr∧N'[hkr]? =some (.cells true 32 (evs.flatten++e))) (he:EvAt N' e c) (hZok:Z.all (fun x=>iI x&&x.refsOk (fun b=>decide (b<N.length+Z.length)))=true):CpI N0 kc pv tv cs N' (i+1) (.slice hkr 0 (i+1) none) (evs++[e]):=by
 have hl:=H.len;have hcell:=H.cell;have key:∃N1:Mem,N' =N1.set kc (.cells true 0 [pv,tv,.str ba,.slice hkr 0 (i+1) none])++Z∧N1.length=N.length∧(∀k,k<N0.length→N1[k]? =N[k]?)∧Keep3 N N1∧∀(k:Nat) x,N1[k]? =some x→N[k]? =some x∨x=.absent:=by
  rcases H.row with⟨h0,hE⟩ | ⟨kr,hE,h0,hk,hr⟩
  ·exact⟨N,hN'.1 h0,rfl,fun k _=>rfl,Keep3.refl N,fun k x h=>.inl h⟩
  ·refine⟨N.set kr .absent,hN'.2 kr hE,by simp,fun k hk2=>?_,Keep3.set hr (.inr rfl) _,fun k x h=>?_⟩
   ·rw[List.getElem?_set_ne (by omega)]
   ·rw[List.getElem?_set] at h
    split at h
    ·split at h
     ·cases h;exact .inr rfl
     ·cases h
    ·exact .inl h
 obtain⟨N1,rfl,h1,h2,h3,h4⟩:=key;have hlen:(N1.set kc (.cells true 0 [pv,tv,.str ba,.slice hkr 0 (i+1) none])).length=N.length:=by rw[List.length_set,h1]
 have hk3:Keep3 N (N1.set kc (.cells true 0 [pv,tv,.str ba,.slice hkr 0 (i+1) none])++Z):=h3.trans ((Keep3.set (by rw[h2 kc hkc];exact hcell) (.inl rfl) _).trans (Keep3.app _ _));refine⟨by rw[List.length_append,hlen];omega,fun k hk hne=>?_,?_,by rw[List.length_append,H.evl];rfl,.inr ⟨hkr,rfl,by omega,by omega,by rw[hrow.2,List.flatten_append];simp⟩,fun k x c' hx hc' =>?_,H.keep.trans hk3,fun k x hk hx=>?_⟩
 ·rw[List.getElem?_append_left (by omega),List.getElem?_set_ne (by omega),h2 k hk]
  exact H.same k hk hne
 ·rw[List.getElem?_append_left (by omega),List.getElem?_set_self (by omega)]
 ·rw[List.getElem?_append] at hx
  split at hx
  ·exact(H.con k x c' hx hc').upd hk3
  ·rename_i hge
   have hk:k=i:=by have:=(List.getElem?_eq_some_iff.1 hx).1;rw[H.evl] at hge this;simp at this;omega
   subst hk;rw[H.evl,Nat.sub_self] at hx;simp at hx;subst hx;rw[hc] at hc';cases hc';exact he
 ·rw[List.length_append,hlen]
  rw[List.getElem?_append] at hx;split at hx
  ·rename_i hlt
   rw[List.getElem?_set_ne (by omega)] at hx;rcases h4 k x hx with h5 | rfl
   ·obtain⟨a,b⟩:=H.ok k x hk h5
    exact⟨a,Slot.refsOk_mono (fun y hy=>by simp only[decide_eq_true_eq] at hy ⊢;omega) x b⟩
   ·exact⟨rfl,rfl⟩
  ·have:=List.all_eq_true.1 hZok x (List.mem_of_getElem? hx)
   simpa only[Bool.and_eq_true] using this
theorem mH(k:Nat) (M:Mem) (lo n:Nat) (h:k<lo):(((bu (fun b=>decide (b=k)) 0 M).drop lo).take n).all mF=true:=
 Br _ M lo n fun b h1 _=>by simp;omega
theorem M2(a b:Nat):(!decide (a≤b)|| !decide (b<a))=true:=by
 rcases Nat.lt_or_ge b a with h | h
 ·simp[Nat.not_le.2 h]
 ·simp[Nat.not_lt.2 h]
theorem eZ(bs:List Nat) (j:Nat) (acc:List (Nat×Rec)) (r:Rec) (rest:List Rec):gr bs j acc (r::rest)=(r.v.refsOk (fun b=>decide (b<r.nx.length))&&(cj r||(gf bs j r (j+1) rest&&(r.wr.isEmpty||(kQ bs j r acc&&r.wr.all (fun b=>dh r.tm b&&(match r.nx[b]? with | some s=>s.refsOk (fun b=>decide (b<r.nx.length)) | none=>true))))&&
   (r.nx.drop r.mem.length).all fun s=>iI s&&s.refsOk (fun b=>decide (b<r.nx.length))))&&gr bs (j+1) ((j,r)::acc) rest):=rfl
theorem HM(f:Nat→Bool) (s:Slot) (new:Mem) (M:Mem) (k:Nat):bd [k] 0 M ((bu f 0 M).set k s++new)=M.set k s++new:=by
 have key:∀(i:Nat) (M:Mem) (k:Nat),bd [i+k] i M ((bu f i M).set k s++new)=M.set k s++new:=by
  intro i M;induction M generalizing i with
  |nil=>intro k;rfl
  |cons x M ih=>
   intro k;cases k with
   |zero=>
    have h:∀(j:Nat) (M:Mem),i<j→bd [i] j M (bu f j M++new)=M++new:=by
     intro j M hj;induction M generalizing j with
     |nil=>rfl
     |cons y M ih=>simp[bu,bd,ih (j+1) (by omega),show¬j=i by omega]
    simp[bu,bd,h (i+1) M (by omega)]
   |succ k=>
    have:=ih (i+1) k;rw[show i+1+k=i+(k+1) by omega] at this;simp[bu,bd,this,show¬i=i+(k+1) by omega]
 have:=key 0 M k
 rwa [Nat.zero_add] at this
theorem vS:((∀a,(AV.str a).known=true)∧(∀k i,(AV.int k i).known=true)∧(∀b o n c,(AV.slice b o n c).known=true)∧AV.nilslice.known=true∧(∀b o,(AV.ptr b o).known=true)∧(∀cs,(AV.agg cs).known=true))∧
  ((∀a,(AV.str a).cells=[.str a])∧(∀k i,(AV.int k i).cells=[.int k i])∧(∀b o n c,(AV.slice b o n c).cells=[.slice b o n c])∧AV.nilslice.cells=[.nilslice]∧(∀b o,(AV.ptr b o).cells=[.ptr b o])∧∀cs,(AV.agg cs).cells=cs)∧
  ((∀b o n c,(AV.slice b o n c).cellOk=true)∧(∀a,(AV.str a).cellOk=true)∧(∀k i,(AV.int k i).cellOk=true)∧(∀b,(AV.bool b).cellOk=true)∧AV.nilslice.cellOk=true∧∀b o,(AV.ptr b o).cellOk=true):=
 ⟨⟨fun _=>rfl,fun _ _=>rfl,fun _ _ _ _=>rfl,rfl,fun _ _=>rfl,fun _=>rfl⟩,⟨fun _=>rfl,fun _ _=>rfl,fun _ _ _ _=>rfl,rfl,fun _ _=>rfl,fun _=>rfl⟩,⟨fun _ _ _ _=>rfl,fun _=>rfl,fun _ _=>rfl,fun _=>rfl,rfl,fun _ _=>rfl⟩⟩
theorem By(f:Nat→Bool) (a:List UInt8):(AV.str a).refsOk f=true:=rfl
theorem rS(f:Nat→Bool):AV.nilslice.refsOk f=true∧(∀b o n c,(AV.slice b o n c).refsOk f=f b)∧(∀b o,(AV.ptr b o).refsOk f=f b)∧(∀a,(AV.str a).refsOk f=true)∧(∀k i,(AV.int k i).refsOk f=true)∧(∀b,(AV.bool b).refsOk f=true)∧(∀cs,(AV.agg cs).refsOk f=AV.refsOkL f cs)∧(∀cs,(AV.tuple cs).refsOk f=AV.refsOkL f cs)∧AV.undef.refsOk f=true∧
  Slot.refsOk f .absent=true∧(∀o es cs,Slot.refsOk f (.cells o es cs)=AV.refsOkL f cs):=⟨rfl,fun _ _ _ _=>rfl,fun _ _=>rfl,fun _=>rfl,fun _ _=>rfl,fun _=>rfl,fun _=>rfl,fun _=>rfl,rfl,rfl,fun _ _ _=>rfl⟩
theorem mS:((∀(M X:Mem) k,(M++X)[M.length+k]? =X[k]?)∧(∀M X:Mem,(M++X)[M.length]? =X[0]?)∧(∀(M X:Mem) k s,(M++X).set (M.length+k) s=M++X.set k s)∧(∀(M X:Mem) s,(M++X).set M.length s=M++X.set 0 s)∧(∀(M X:Mem) k,(M++X).drop (M.length+k)=X.drop k)∧(∀M X:Mem,(M++X).drop M.length=X))∧
  ((∀(α:Type) (s:α) l,(s::l)[0]? =some s)∧(∀(α:Type) (s:α) l (i:Nat),(s::l)[i+1]? =l[i]?))∧((∀es cs,iI (.cells true es cs)=true)∧iI .absent=true)∧
  ((∀f i M,bd [] i M (bu f i M)=M)∧(∀i M,bd [] i M M=M)∧(∀f new i M,bd [] i M (bu f i M++new)=M++new)∧(∀new i M,bd [] i M (M++new)=M++new)∧(∀f s M k,bd [k] 0 M ((bu f 0 M).set k s)=M.set k s)∧(∀f s new M k,bd [k] 0 M ((bu f 0 M).set k s++new)=M.set k s++new)∧(∀wr i M,bd wr i [] M=M)∧(∀i s s' r r',bd [] i (s::r) (s' ::r')=s::bd [] (i+1) r r')∧(∀i N X Y,bd [] i (N++X) (N++Y)=N++bd [] (i+N.length) X Y))∧
  ((∀f i M b,(bu f i M)[b]? =(M[b]?).map fun s=>if f (i+b) then s else .absent)∧(∀i M,bu (fun _=>true) i M=M)∧(∀f i M,(bu f i M).length=M.length)∧(∀M lo n,(((bu (fun _=>false) 0 M).drop lo).take n).all mF=true)∧(∀a b:Nat,(a≤b∧b<a)=False)∧(∀a b:Nat,(!decide (a≤b)|| !decide (b<a))=true))∧
  ((∀b o n c,bY (.slice b o n c)=[b])∧bY .nilslice=[])∧(∀bs j acc,gr bs j acc []=true):=
 ⟨⟨kF,Sl,Dj,Ro,Se,Rb⟩,⟨fun _ _ _=>rfl,fun _ _ _ _=>rfl⟩,⟨fun _ _=>rfl,rfl⟩,⟨sN,vi,zh,vh,HL,HM,fun _ _ _=>rfl,sM,zi⟩,⟨rq,Bs,Bt,J7,J5,M2⟩,⟨fun _ _ _ _=>rfl,rfl⟩,fun _ _ _=>rfl⟩
theorem RowAt.refs{N:Mem}{v:AV}{es n:Nat}{C:List AV}(h:RowAt N v es n C) (j:Nat):AV.refsOk (fun a=>decide (a<N.length+j)) v=true:=by
 rcases h with⟨rfl,_,_⟩ | ⟨b,o,rfl,_,hb⟩
 ·rfl
 ·have:=(List.getElem?_eq_some_iff.1 hb).1
  simp only[AV.refsOk,decide_eq_true_eq];omega
theorem RowAt.off{N:Mem}{v:AV}{es n:Nat}{C:List AV}(h:RowAt N v es n C) (j k:Nat):AV.refsOk (fun b=> !decide (N.length+j≤b)|| !decide (b<N.length+k)) v=true:=AV.refsOk_mono (fun b hb=>by
 simp only[decide_eq_true_eq] at hb;have:¬N.length+j≤b:=by omega
 simp[this]) v (h.refs 0)
theorem Evc.len(c:Evc) (b u s kn:AV):(c.cells b u s kn).length=32:=rfl
theorem Evc.all(c:Evc) {b u s kn:AV}(hb:b.cellOk=true) (hu:u.cellOk=true) (hs:s.cellOk=true) (hk:kn.cellOk=true):(c.cells b u s kn).all AV.cellOk=true:=by simp only[Evc.cells,List.all_cons,List.all_nil,hb,hu,hs,hk];rfl
theorem Evc.refsL(c:Evc) {f:Nat→Bool}{b u s kn:AV}(hb:b.refsOk f=true) (hu:u.refsOk f=true) (hs:s.refsOk f=true) (hk:kn.refsOk f=true):AV.refsOkL f (c.cells b u s kn)=true:=by simp only[Evc.cells,AV.refsOkL,AV.refsOk,hb,hu,hs,hk,Bool.and_self]
theorem EvAt.refs{N:Mem}{e:List AV}{c:Evc}(h:EvAt N e c) (j:Nat):AV.refsOkL (fun a=>decide (a<N.length+j)) e=true:=by obtain⟨b,u,s,kn,rfl,h1,h2,⟨_,_,h3,_⟩,h4⟩:=h;exact c.refsL (h1.refs j) (h2.refs j) (h3.refs j) (h4.refs j)
theorem vu{f:Nat→Bool}:∀{evs:List (List AV)},(∀e∈evs,AV.refsOkL f e=true)→AV.refsOkL f evs.flatten=true
 | [],_=>rfl
 |e::l,h=>by rw[List.flatten_cons,gg,h e (by simp),vu (fun x hx=>h x (by simp[hx]))];rfl
end Go.Proofs
namespace Go.Proofs
open Go.Eng
end Go.Proofs
namespace Go.Proofs
open Go.Eng
def HcAt(N:Mem) (h:List AV) (s:Sheet) (cs:List Evc):Prop:=∃pv tv ev,h=[pv,tv,.str ba,ev]∧RowAt N pv 2 s.P.length (pC s.P)∧RowAt N tv 3 s.T.length (tC s.T)∧EvsAt N ev cs
theorem HcAt.more{N:Mem}{h:List AV}{s:Sheet}{cs:List Evc}(H:HcAt N h s cs) (Z:Mem):HcAt (N++Z) h s cs:=by obtain⟨pv,tv,ev,h1,h2,h3,h4⟩:=H;exact⟨pv,tv,ev,h1,h2.more Z,h3.more Z,h4.more Z⟩
theorem EvsAt.ck{N:Mem}{v:AV}{cs:List Evc}(h:EvsAt N v cs):v.cellOk=true:=by obtain⟨evs,_,h,_⟩:=h;rcases h with⟨_,_,rfl | ⟨b,rfl⟩⟩ | ⟨b,o,D,rfl,_⟩<;>rfl
section
variable {pv pv' tv tv' ev ev' :AV}{B:Bool}{m:Mem}
end
end Go.Proofs
namespace Go.Proofs
open Go.Eng
theorem EvRow.src{T:TypeId→Option TyI}{t2:TypeId}{N:Mem}{v:AV}{n:Nat}{C:List AV}(h:EvRow N v n C) (hC:C.length=n*32):∀Z,fc T (N++Z) 32 t2 v=some (n,C):=fun Z=>by
 rcases h with⟨rfl,rfl,rfl | ⟨b,rfl⟩⟩ | ⟨b,o,D,rfl,h0,hb,ht⟩
 ·rfl
 ·unfold fc
  simp only;split
  ·rename_i own es cs _
   simp
  ·rfl
 ·have hb' :(N++Z)[b]? =some (.cells o 32 D):=by rw[List.getElem?_append_left (List.getElem?_eq_some_iff.1 hb).1];exact hb
  have hl:n*32≤D.length:=by rw[←ht,List.length_take] at hC;omega
  simp[fc,hb',hl,ht]
end Go.Proofs
