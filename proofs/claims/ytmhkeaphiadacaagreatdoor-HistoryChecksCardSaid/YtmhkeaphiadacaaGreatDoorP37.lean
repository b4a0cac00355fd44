/- See P53. -/
import Derived.Test.YtmhkeaphiadacaaGreatDoorP35
set_option linter.all false
namespace Go.Proofs
open Go.Eng
def clV(L n:Nat):AV:=if n=0 then .kO else .slice (L+1) 0 n none
def clX(es n:Nat) (C:List AV):aae:=if n=0 then .qF else .cells true es C
theorem mZ(L n:Nat):(clV L n).qK=true:=by unfold clV;split<;>rfl
theorem Rq(es n:Nat)(C:List AV):fj (clX es n C)=true:=by unfold clX;split<;>rfl
def aaH(N N' :Mem):Prop:=∀(b:Nat) o es C,es=1∨es=2∨es=3→N[b]? =some (.cells o es C)→N'[b]? =some (.cells o es C)
theorem aaH.refl(N:Mem):aaH N N:=fun _ _ _ _ _ h=>h
theorem aaH.trans{A B C:Mem}(h:aaH A B)(h' :aaH B C):aaH A C:=fun b o es D XV hb=>h' b o es D XV (h b o es D XV hb)
theorem aaH.app(N Z:Mem):aaH N (N++Z):=fun b o es D _ hb=>by rw[List.getElem?_append_left (List.getElem?_eq_some_iff.1 hb).1];exact hb
variable{N:Mem}
theorem aaH.set{k e:Nat}{o:Bool}{D:List AV}(h:N[k]? =some (.cells o e D))(he:e=0∨e=32)(s:aae):aaH N (N.set k s):=fun b o' es D' XV hb=>by
 rw[List.getElem?_set_ne]
 ·exact hb
 ·rintro rfl
  rw[h] at hb;cases hb;omega
variable{N' :Mem}{v:AV}
theorem aat.upd{es n:Nat}{C:List AV}(h:aat N v es n C)(XV:es=1∨es=2∨es=3)(hk:aaH N N'):aat N' v es n C:=by
 rcases h with h | ⟨b,o,h1,h2,h3⟩
 ·exact .inl h
 ·exact .inr ⟨b,o,h1,h2,hk b o es C XV h3⟩
theorem abn.upd{S:List (List (List UInt8))}(h:abn N v S)(hk:aaH N N'):abn N' v S:=by obtain⟨vs,h1,h2,h3⟩:=h;exact⟨vs,h1,h2.upd (.inl rfl) hk,fun i x L a b=>(h3 i x L a b).upd (.inl rfl) hk⟩
theorem aaI.upd{ev:List AV}{c:Evc}(h:aaI N ev c)(hk:aaH N N'):aaI N' ev c:=by obtain⟨b,u,s,kn,h1,h2,h3,h4,h5⟩:=h;exact⟨b,u,s,kn,h1,h2.upd (.inl rfl) hk,h3.upd (.inl rfl) hk,h4.upd hk,h5.upd (.inr (.inl rfl)) hk⟩
end Go.Proofs
namespace Go.Proofs
open Go.Eng
end Go.Proofs
namespace Go.Proofs
open Go.Eng
def V9(N:Mem) (v:AV) (n:Nat) (C:List AV):Prop:=(n=0∧C=[]∧(v=.kO∨∃b,v=.slice b 0 0 none))∨∃b o D,v=.slice b 0 n none∧0<n∧N[b]? =some (.cells o 32 D)∧D.take (n*32)=C
def Wa(N:Mem) (v:AV) (cs:List Evc):Prop:=∃evs:List (List AV),evs.length=cs.length∧V9 N v cs.length evs.flatten∧∀(i:Nat) e c,evs[i]? =some e→cs[i]? =some c→aaI N e c
theorem VP:∀{l:List (List AV)}{i:Nat}{e:List AV},(∀x∈l,x.length=32)→l[i]? =some e→(l.flatten.drop (i*32)).take 32=e∧i*32+32≤l.flatten.length
 | [],i,e,_,h=>by simp at h
 |x::l,0,e,hl,h=>by simp at h;subst h;have:=hl x (by simp);refine⟨by rw[Nat.zero_mul,List.drop_zero,List.flatten_cons,List.take_append_of_le_length (by omega),List.take_of_length_le (by omega)],by rw[List.flatten_cons,List.length_append];omega⟩
 |x::l,i+1,e,hl,h=>by have hx:=hl x (by simp);obtain⟨a,b⟩:=VP (l:=l) (i:=i) (e:=e) (fun y hy=>hl y (by simp[hy])) (by simpa using h);refine⟨?_,by rw[List.flatten_cons,List.length_append];omega⟩;rw[List.flatten_cons,List.drop_append,List.drop_of_length_le (by omega),List.nil_append,hx,show(i+1)*32-32=i*32 by omega];exact a
structure CpI (N0:Mem) (kc:Nat) (pv tv:AV) (cs:List Evc) (N:Mem) (i:Nat) (E:AV) (evs:List (List AV)):Prop where
 len:N0.length≤N.length
 same:∀k,k<N0.length→k≠kc→N[k]? =N0[k]?
 cell:N[kc]? =some (.cells true 0 [pv,tv,.str bm,E])
 evl:evs.length=i
 row:(i=0∧E=.kO)∨∃kr,E=.slice kr 0 i none∧0<i∧N0.length≤kr∧N[kr]? =some (.cells true 32 evs.flatten)
 con:∀(k:Nat) e c,evs[k]? =some e→cs[k]? =some c→aaI N e c
 aa3:aaH N0 N
 ok:∀(k:Nat) x,N0.length≤k→N[k]? =some x→fj x=true∧x.HK (fun b=>decide (b<N.length))=true
theorem NP:∀{l:List (List AV)},(∀x∈l,x.length=32)→l.flatten.length=l.length*32
 | [],_=>rfl
 |x::l,h=>by rw[List.flatten_cons,List.length_append,h x (by simp),NP (fun y hy=>h y (by simp[hy])),List.length_cons,Nat.succ_mul];omega
variable{c:Evc}{e:List AV}
theorem CpI.step{N0 N Z:Mem}{kc i:Nat}{pv tv E:AV}{cs:List Evc}{evs:List (List AV)}(H:CpI N0 kc pv tv cs N i E evs)(hkc:kc<N0.length)(hc:cs[i]? =some c)(N' :Mem)(ZL:Nat)(YH :(i=0→N' =(N.set kc (.cells true 0 [pv,tv,.str bm,.slice ZL 0 (i+1) none]))++Z)∧(∀kr,E=.slice kr 0 i none→N' =((N.set kr .qF).set kc (.cells true 0 [pv,tv,.str bm,.slice ZL 0 (i+1) none]))++Z))(Zo:N.length≤ZL∧N'[ZL]? =some (.cells true 32 (evs.flatten++e)))(he:aaI N' e c)(hZok:Z.all (fun x=>fj x&&x.HK (fun b=>decide (b<N.length+Z.length)))=true):CpI N0 kc pv tv cs N' (i+1) (.slice ZL 0 (i+1) none) (evs++[e]):=by
 have hl:=H.len;have WK:=H.cell;have key:∃N1:Mem,N' =N1.set kc (.cells true 0 [pv,tv,.str bm,.slice ZL 0 (i+1) none])++Z∧N1.length=N.length∧(∀k,k<N0.length→N1[k]? =N[k]?)∧aaH N N1∧∀(k:Nat) x,N1[k]? =some x→N[k]? =some x∨x=.qF:=by
  rcases H.row with⟨h0,hE⟩ | ⟨kr,hE,h0,hk,hr⟩
  ·exact⟨N,YH.1 h0,rfl,fun k _=>rfl,aaH.refl N,fun k x h=>.inl h⟩
  ·refine⟨N.set kr .qF,YH.2 kr hE,by simp,fun k hk2=>?_,aaH.set hr (.inr rfl) _,fun k x h=>?_⟩
   ·rw[List.getElem?_set_ne (by omega)]
   ·rw[List.getElem?_set] at h
    split at h
    ·split at h
     ·cases h;exact .inr rfl
     ·cases h
    ·exact .inl h
 obtain⟨N1,rfl,h1,h2,h3,h4⟩:=key;have A':(N1.set kc (.cells true 0 [pv,tv,.str bm,.slice ZL 0 (i+1) none])).length=N.length:=by rw[List.length_set,h1]
 have hk3:aaH N (N1.set kc (.cells true 0 [pv,tv,.str bm,.slice ZL 0 (i+1) none])++Z):=h3.trans ((aaH.set (by rw[h2 kc hkc];exact WK) (.inl rfl) _).trans (aaH.app _ _));refine⟨by rw[List.length_append,A'];omega,fun k hk H'=>?_,?_,by rw[List.length_append,H.evl];rfl,.inr ⟨ZL,rfl,by omega,by omega,by rw[Zo.2,List.flatten_append];simp⟩,fun k x c' hx ZD =>?_,H.aa3.trans hk3,fun k x hk hx=>?_⟩
 ·rw[List.getElem?_append_left (by omega),List.getElem?_set_ne (by omega),h2 k hk]
  exact H.same k hk H'
 ·rw[List.getElem?_append_left (by omega),List.getElem?_set_self (by omega)]
 ·rw[List.getElem?_append] at hx
  split at hx
  ·exact(H.con k x c' hx ZD).upd hk3
  ·rename_i hge
   have hk:k=i:=by have:=(List.getElem?_eq_some_iff.1 hx).1;rw[H.evl] at hge this;simp at this;omega
   subst hk;rw[H.evl,Nat.sub_self] at hx;simp at hx;subst hx;rw[hc] at ZD;cases ZD;exact he
 ·rw[List.length_append,A']
  rw[List.getElem?_append] at hx;split at hx
  ·rename_i AC
   rw[List.getElem?_set_ne (by omega)] at hx;rcases h4 k x hx with h5 | rfl
   ·obtain⟨a,b⟩:=H.ok k x hk h5
    exact⟨a,aae.aak (fun y hy=>by simp only[decide_eq_true_eq] at hy ⊢;omega) x b⟩
   ·exact⟨rfl,rfl⟩
  ·have:=List.all_eq_true.1 hZok x (List.mem_of_getElem? hx)
   simpa only[Bool.and_eq_true] using this
theorem fa(k:Nat)(M:Mem)(lo n:Nat)(h:k<lo):(((bD (fun b=>decide (b=k)) 0 M).drop lo).take n).all jd=true:=
 Dx _ M lo n fun b h1 _=>by simp;omega
theorem P0(a b:Nat):(!decide (a≤b)|| !decide (b<a))=true:=by
 rcases Nat.lt_or_ge b a with h | h
 ·simp[Nat.not_le.2 h]
 ·simp[Nat.not_lt.2 h]
theorem eB(bs:List Nat)(j:Nat)(acc:List (Nat×Rec))(r:Rec)(rest:List Rec):fu bs j acc (r::rest)=(r.v.HK (fun b=>decide (b<r.nx.length))&&(cj r||(fg bs j r (j+1) rest&&(r.wr.isEmpty||(iT bs j r acc&&r.wr.all (fun b=>cw r.tm b&&(match r.nx[b]? with | some s=>s.HK (fun b=>decide (b<r.nx.length)) | none=>true))))&&
   (r.nx.drop r.mem.length).all fun s=>fj s&&s.HK (fun b=>decide (b<r.nx.length))))&&fu bs (j+1) ((j,r)::acc) rest):=rfl
theorem KA(f:Nat→Bool)(s:aae)(new:Mem)(M:Mem)(k:Nat):bh [k] 0 M ((bD f 0 M).set k s++new)=M.set k s++new:=by
 have key:∀(i:Nat) (M:Mem) (k:Nat),bh [i+k] i M ((bD f i M).set k s++new)=M.set k s++new:=by
  intro i M;induction M generalizing i with
  |nil=>intro k;rfl
  |cons x M ih=>
   intro k;cases k with
   |zero=>
    have h:∀(j:Nat) (M:Mem),i<j→bh [i] j M (bD f j M++new)=M++new:=by
     intro j M hj;induction M generalizing j with
     |nil=>rfl
     |cons y M ih=>simp[bD,bh,ih (j+1) (by omega),show¬j=i by omega]
    simp[bD,bh,h (i+1) M (by omega)]
   |succ k=>
    have:=ih (i+1) k;rw[show i+1+k=i+(k+1) by omega] at this;simp[bD,bh,this,show¬i=i+(k+1) by omega]
 have:=key 0 M k
 rwa [Nat.zero_add] at this
theorem vS:((∀a,(AV.str a).known=true)∧(∀k i,(AV.int k i).known=true)∧(∀b o n c,(AV.slice b o n c).known=true)∧AV.kO.known=true∧(∀b o,(AV.ptr b o).known=true)∧(∀cs,(AV.agg cs).known=true))∧
  ((∀a,(AV.str a).cells=[.str a])∧(∀k i,(AV.int k i).cells=[.int k i])∧(∀b o n c,(AV.slice b o n c).cells=[.slice b o n c])∧AV.kO.cells=[.kO]∧(∀b o,(AV.ptr b o).cells=[.ptr b o])∧∀cs,(AV.agg cs).cells=cs)∧
  ((∀b o n c,(AV.slice b o n c).qK=true)∧(∀a,(AV.str a).qK=true)∧(∀k i,(AV.int k i).qK=true)∧(∀b,(AV.bool b).qK=true)∧AV.kO.qK=true∧∀b o,(AV.ptr b o).qK=true):=
 ⟨⟨fun _=>rfl,fun _ _=>rfl,fun _ _ _ _=>rfl,rfl,fun _ _=>rfl,fun _=>rfl⟩,⟨fun _=>rfl,fun _ _=>rfl,fun _ _ _ _=>rfl,rfl,fun _ _=>rfl,fun _=>rfl⟩,⟨fun _ _ _ _=>rfl,fun _=>rfl,fun _ _=>rfl,fun _=>rfl,rfl,fun _ _=>rfl⟩⟩
section
variable (f:Nat→Bool)
include f
theorem jV(a:List UInt8):(AV.str a).HK f=true:=rfl
theorem KP(b o n:Nat)(c:Option Nat):(AV.slice b o n c).HK f=f b:=rfl
theorem nr:aae.HK f .qF=true:=rfl
theorem rS:AV.kO.HK f=true∧(∀b o n c,(AV.slice b o n c).HK f=f b)∧(∀b o,(AV.ptr b o).HK f=f b)∧(∀a,(AV.str a).HK f=true)∧(∀k i,(AV.int k i).HK f=true)∧(∀b,(AV.bool b).HK f=true)∧(∀cs,(AV.agg cs).HK f=AV.aaa f cs)∧(∀cs,(AV.tuple cs).HK f=AV.aaa f cs)∧AV.undef.HK f=true∧
  aae.HK f .qF=true∧(∀o es cs,aae.HK f (.cells o es cs)=AV.aaa f cs):=⟨rfl,fun _ _ _ _=>rfl,fun _ _=>rfl,fun _=>rfl,fun _ _=>rfl,fun _=>rfl,fun _=>rfl,fun _=>rfl,rfl,rfl,fun _ _ _=>rfl⟩
end
theorem mS:((∀(M X:Mem) k,(M++X)[M.length+k]? =X[k]?)∧(∀M X:Mem,(M++X)[M.length]? =X[0]?)∧(∀(M X:Mem) k s,(M++X).set (M.length+k) s=M++X.set k s)∧(∀(M X:Mem) s,(M++X).set M.length s=M++X.set 0 s)∧(∀(M X:Mem) k,(M++X).drop (M.length+k)=X.drop k)∧(∀M X:Mem,(M++X).drop M.length=X))∧
  ((∀(α:Type) (s:α) l,(s::l)[0]? =some s)∧(∀(α:Type) (s:α) l (i:Nat),(s::l)[i+1]? =l[i]?))∧((∀es cs,fj (.cells true es cs)=true)∧fj .qF=true)∧
  ((∀f i M,bh [] i M (bD f i M)=M)∧(∀i M,bh [] i M M=M)∧(∀f new i M,bh [] i M (bD f i M++new)=M++new)∧(∀new i M,bh [] i M (M++new)=M++new)∧(∀f s M k,bh [k] 0 M ((bD f 0 M).set k s)=M.set k s)∧(∀f s new M k,bh [k] 0 M ((bD f 0 M).set k s++new)=M.set k s++new)∧(∀wr i M,bh wr i [] M=M)∧(∀i s s' r r',bh [] i (s::r) (s' ::r')=s::bh [] (i+1) r r')∧(∀i N X Y,bh [] i (N++X) (N++Y)=N++bh [] (i+N.length) X Y))∧
  ((∀f i M b,(bD f i M)[b]? =(M[b]?).map fun s=>if f (i+b) then s else .qF)∧(∀i M,bD (fun _=>true) i M=M)∧(∀f i M,(bD f i M).length=M.length)∧(∀M lo n,(((bD (fun _=>false) 0 M).drop lo).take n).all jd=true)∧(∀a b:Nat,(a≤b∧b<a)=False)∧(∀a b:Nat,(!decide (a≤b)|| !decide (b<a))=true))∧
  ((∀b o n c,eI (.slice b o n c)=[b])∧eI .kO=[])∧(∀bs j acc,fu bs j acc []=true):=
 ⟨⟨dO,FE,mem_set,TU,UM,TH⟩,⟨fun _ _ _=>rfl,fun _ _ _ _=>rfl⟩,⟨fun _ _=>rfl,rfl⟩,⟨vl,xI,Bi,xH,Kz,KA,fun _ _ _=>rfl,vk,Bj⟩,⟨ua,Dy,Dz,M6,M3,P0⟩,⟨fun _ _ _ _=>rfl,rfl⟩,fun _ _ _=>rfl⟩
theorem aat.refs{N:Mem}{v:AV}{es n:Nat}{C:List AV}(h:aat N v es n C)(j:Nat):AV.HK (fun a=>decide (a<N.length+j)) v=true:=by
 rcases h with⟨rfl,_,_⟩ | ⟨b,o,rfl,_,hb⟩
 ·rfl
 ·have:=(List.getElem?_eq_some_iff.1 hb).1
  simp only[AV.HK,decide_eq_true_eq];omega
theorem ky(L n:Nat):(clV L n).known=true:=by unfold clV;split<;>rfl
theorem kx(L n:Nat):(clV L n).cells=[clV L n]:=by unfold clV;split<;>rfl
theorem Evc.aas(c:Evc){f:Nat→Bool}{b u s kn:AV}(hb:b.HK f=true)(hu:u.HK f=true)(hs:s.HK f=true)(hk:kn.HK f=true):AV.aaa f (c.cells b u s kn)=true:=by simp only[Evc.cells,AV.aaa,AV.HK,hb,hu,hs,hk,Bool.and_self]
theorem aaI.refs{N:Mem}(h:aaI N e c)(j:Nat):AV.aaa (fun a=>decide (a<N.length+j)) e=true:=by obtain⟨b,u,s,kn,rfl,h1,h2,⟨_,_,h3,_⟩,h4⟩:=h;exact c.aas (h1.refs j) (h2.refs j) (h3.refs j) (h4.refs j)
theorem dI{f:Nat→Bool}:∀{evs:List (List AV)},(∀e∈evs,AV.aaa f e=true)→AV.aaa f evs.flatten=true
 | [],_=>rfl
 |e::l,h=>by rw[List.flatten_cons,dm,h e (by simp),dI (fun x hx=>h x (by simp[hx]))];rfl
end Go.Proofs
namespace Go.Proofs
open Go.Eng
end Go.Proofs
namespace Go.Proofs
open Go.Eng
open Tryz
def WA(N:Mem) (h:List AV) (s:aaf) (cs:List Evc):Prop:=∃pv tv ev,h=[pv,tv,.str bm,ev]∧aat N pv 2 s.P.length (pC s.P)∧aat N tv 3 s.T.length (tC s.T)∧Wa N ev cs
section
variable {pv pv' tv tv' ev ev' :AV}{B:Bool}{m:Mem}
end
theorem lC(M:Mem):mB prog 13 [.agg [.kO,.kO,.str [],.kO]] M (.bool true) M:=by
 have hG:aO prog 13=some f13:=by kernel_rfl
 refine aB (ah _) (lv:=fun _=>[]) (K:=1) rfl rfl ?_ M;simp[ad,hG,f13,w0]
end Go.Proofs
namespace Go.Proofs
open Go.Eng
end Go.Proofs
