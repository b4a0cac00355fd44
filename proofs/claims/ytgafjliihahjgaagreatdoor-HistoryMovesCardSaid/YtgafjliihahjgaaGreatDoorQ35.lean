/- See Q54. -/
import Derived.Test.YtgafjliihahjgaaGreatDoorQ34
set_option linter.all false
namespace Go.Proofs
open Go.Eng
def iI(s:Slot):Bool:=s.own||match s with | .absent=>true | _=>false
theorem HV(es:Nat) (cs:List AV):iI (.cells true es cs)=true:=rfl
theorem oT(f:Nat→Bool) (o:Bool) (es:Nat) (cs:List AV):Slot.refsOk f (.cells o es cs)=AV.refsOkL f cs:=rfl
end Go.Proofs
namespace Go.Proofs
open Go.Eng
end Go.Proofs
namespace Go.Proofs
open Go.Eng
end Go.Proofs
namespace Go.Proofs
open Go.Eng
end Go.Proofs
namespace Go.Eng
mutual
theorem AV.refsOk_mono{f g:Nat→Bool}(h:∀b,f b=true→g b=true):∀v:AV,AV.refsOk f v=true→AV.refsOk g v=true
 |.ptr b _,hv=>by simp only[AV.refsOk] at hv ⊢;exact h _ hv
 |.slice b _ _ _,hv=>by simp only[AV.refsOk] at hv ⊢;exact h _ hv
 |.map b,hv=>by simp only[AV.refsOk] at hv ⊢;exact h _ hv
 |.yield b,hv=>by simp only[AV.refsOk] at hv ⊢;exact h _ hv
 |.agg cs,hv=>by simp only[AV.refsOk] at hv ⊢;exact AV.refsOkL_mono h cs hv
 |.tuple cs,hv=>by simp only[AV.refsOk] at hv ⊢;exact AV.refsOkL_mono h cs hv
 |.iface _ v,hv=>by simp only[AV.refsOk] at hv ⊢;exact AV.refsOk_mono h v hv
 |.func _ cs,hv=>by simp only[AV.refsOk] at hv ⊢;exact AV.refsOkL_mono h cs hv
 |.undef,_=>rfl
 |.bool _,_=>rfl
 |.int _ _,_=>rfl
 |.str _,_=>rfl
 |.nilptr,_=>rfl
 |.nilslice,_=>rfl
 |.nilmap,_=>rfl
 |.nilFunc,_=>rfl
 |.nilIface,_=>rfl
theorem AV.refsOkL_mono{f g:Nat→Bool}(h:∀b,f b=true→g b=true):∀vs:List AV,AV.refsOkL f vs=true→AV.refsOkL g vs=true
 | [],_=>rfl
 |v::vs,hv=>by simp only[AV.refsOkL,Bool.and_eq_true] at hv ⊢;exact⟨AV.refsOk_mono h v hv.1,AV.refsOkL_mono h vs hv.2⟩
end
theorem Slot.refsOk_mono{f g:Nat→Bool}(h:∀b,f b=true→g b=true):∀x:Slot,Slot.refsOk f x=true→Slot.refsOk g x=true
 |.absent,_=>rfl
 |.cells _ _ cs,hx=>AV.refsOkL_mono h cs hx
 |.map es,hx=>by simp only[Slot.refsOk,List.all_eq_true,Bool.and_eq_true] at hx ⊢;exact fun e he=>⟨AV.refsOk_mono h _ (hx e he).1,AV.refsOk_mono h _ (hx e he).2⟩
 |.fmap es,hx=>by simp only[Slot.refsOk,List.all_eq_true,Bool.and_eq_true] at hx ⊢;exact fun e he=>⟨AV.refsOk_mono h _ (hx e he).1,AV.refsOk_mono h _ (hx e he).2⟩
 |.loop r,hx=>by simp only[Slot.refsOk,List.all_eq_true] at hx ⊢;exact fun e he=>AV.refsOk_mono h _ (hx e he)
end Go.Eng
namespace Go.Proofs
open Go.Eng
theorem I3(s:Sheet) (d:Deed) (hd:d.Ok) (i:Nat) (hi:i<6) (M:Mem) (p t:Nat) (o o' :Bool) (hp:M[p]? =some (.cells o 2 (pC s.P))) (ht:M[t]? =some (.cells o' 3 (tC s.T))):
  ∃ev x1 x2 x3 x4 x5,ACallsTo Tryz.prog 28 [shB s p t,.agg d.cells,.int .i64 i] M (.agg ev) (M++[x1,x2,x3,x4,x5])∧gI s p t (bE d i) M.length [x1,x2,x3,x4,x5] ev∧fq M.length [x1,x2,x3,x4,x5] ev (bE d i)∧(ev.length=32∧ev[1]? =some (.str (bA i)))∧
   (∀x∈ev,x.cellOk=true)∧(∀k,M.length+5≤k→AV.refsOkL (fun b=>decide (b<k)) ev=true)∧(iI x1=true∧iI x2=true∧iI x3=true∧iI x4=true∧iI x5=true)∧
   ∀k,M.length+5≤k→x1.refsOk (fun b=>decide (b<k))=true∧x2.refsOk (fun b=>decide (b<k))=true∧x3.refsOk (fun b=>decide (b<k))=true∧x4.refsOk (fun b=>decide (b<k))=true∧x5.refsOk (fun b=>decide (b<k))=true:=by
 obtain⟨ev,x1,x2,x3,x4,x5,h1,h2,h3,h4,h5,h6,h7⟩:=I2 s d hd i hi M p t o o' hp ht;have up:∀k,M.length+5≤k→∀b,decide (b<M.length+5)=true→decide (b<k)=true:=fun k hk b hb=>by simp only[decide_eq_true_eq] at hb ⊢;omega
 have ho:∀x∈[x1,x2,x3,x4,x5],iI x=true∧x.refsOk (fun b=>decide (b<M.length+5))=true:=by intro x hx;have:=List.all_eq_true.1 h5 x hx;simp only[Bool.and_eq_true] at this;exact⟨this.1,this.2⟩
 refine⟨ev,x1,x2,x3,x4,x5,h1,h2,h3,h4,fun x hx=>?_,fun k hk=>AV.refsOkL_mono (up k hk) ev h6,⟨(ho x1 (by simp)).1,(ho x2 (by simp)).1,(ho x3 (by simp)).1,(ho x4 (by simp)).1,(ho x5 (by simp)).1⟩,fun k hk=>?_⟩
 ·have:=h7 x hx
  cases x<;>first | rfl | exact this
 ·exact⟨Slot.refsOk_mono (up k hk) _ (ho x1 (by simp)).2,Slot.refsOk_mono (up k hk) _ (ho x2 (by simp)).2,Slot.refsOk_mono (up k hk) _ (ho x3 (by simp)).2,Slot.refsOk_mono (up k hk) _ (ho x4 (by simp)).2,Slot.refsOk_mono (up k hk) _ (ho x5 (by simp)).2⟩
def ba:List UInt8:=[98,97,115,101]
def Ii(i:Nat):List (List (List UInt8)):=[[],[gj i],bj i 0,bj i 1,bj i 2]
theorem jo(d:Deed) (i:Nat):bE d i∈Ii i:=by
 have h3:=Nat.mod_lt d.K.1 (show 0<3 by decide);unfold bE Ii;split
 ·have:d.K.1%3=0∨d.K.1%3=1∨d.K.1%3=2:=by omega
  rcases this with h | h | h<;>rw[h]<;>simp
 ·split<;>simp
theorem rF:∀a∈Ii 0,∀b∈Ii 1,∀c∈Ii 2,(ba::(a++(b++c))).Nodup:=by decide
theorem Im(d e f:Deed):(ba::(bE d 0++(bE e 1++bE f 2))).Nodup:=rF _ (jo d 0) _ (jo e 1) _ (jo f 2)
theorem Il(d e:Deed):(ba::(bE d 0++bE e 1)).Nodup:=by have:=rF _ (jo d 0) _ (jo e 1) [] (by simp[Ii]);simpa using this
theorem Ik(d:Deed):(ba::bE d 0).Nodup:=by have:=rF _ (jo d 0) [] (by simp[Ii]) [] (by simp[Ii]);simpa using this
def evV(q n:Nat):AV:=if n=0 then .nilslice else .slice q 0 n none
def aR(s:Sheet) (p t q n:Nat):List AV:=[.slice p 0 s.P.length none,.slice t 0 s.T.length none,.str ba,evV q n]
structure Tryz.HstAt (s:Sheet) (p t q:Nat) (evs:List (List AV)) (us:List (List (List UInt8))) (M:Mem):Prop where
 hp:∃o,M[p]? =some (.cells o 2 (pC s.P))
 ht:∃o,M[t]? =some (.cells o 3 (tC s.T))
 hq:evs≠[]→∃o,M[q]? =some (.cells o 32 evs.flatten)
 len:us.length=evs.length
 small:evs.length≤4
 con:∀(i:Nat) ev U,evs[i]? =some ev→us[i]? =some U→∃c:Evc,Tryz.Good s c∧unE c=U∧∀X,EvAt (M++X) ev c
section
variable {s:Sheet}{p t q:Nat}{evs:List (List AV)}{us:List (List (List UInt8))}{M:Mem}
theorem Tryz.HstAt.more(H:Tryz.HstAt s p t q evs us M) (Z:Mem):Tryz.HstAt s p t q evs us (M++Z) where
 hp:=by obtain⟨o,h⟩:=H.hp;exact⟨o,by rw[List.getElem?_append_left (List.getElem?_eq_some_iff.1 h).1];exact h⟩
 ht:=by obtain⟨o,h⟩:=H.ht;exact⟨o,by rw[List.getElem?_append_left (List.getElem?_eq_some_iff.1 h).1];exact h⟩
 hq:=fun he=>by obtain⟨o,h⟩:=H.hq he;exact⟨o,by rw[List.getElem?_append_left (List.getElem?_eq_some_iff.1 h).1];exact h⟩
 len:=H.len
 small:=H.small
 con:=fun i ev U h1 h2=>by obtain⟨c,hc,hu,hx⟩:=H.con i ev U h1 h2;exact⟨c,hc,hu,fun X=>by rw[List.append_assoc];exact hx _⟩
theorem Tryz.HstAt.at_mem(H:Tryz.HstAt s p t q evs us M) {ev:List AV}(h:ev∈evs):∃c:Evc,Tryz.Good s c∧∀X,EvAt (M++X) ev c:=by obtain⟨i,hi⟩:=List.getElem?_of_mem h;have hl:=(List.getElem?_eq_some_iff.1 hi).1;obtain⟨c,h1,_,h2⟩:=H.con i ev _ hi (List.getElem?_eq_getElem (by rw[H.len];exact hl));exact⟨c,h1,h2⟩
theorem Tryz.HstAt.l32(H:Tryz.HstAt s p t q evs us M):∀e∈evs,e.length=32:=fun e he=>by obtain⟨c,_,h⟩:=H.at_mem he;exact(h []).l32
theorem Tryz.HstAt.cok(H:Tryz.HstAt s p t q evs us M):∀e∈evs,∀x∈e,x.cellOk=true:=fun e he=>by obtain⟨c,_,h⟩:=H.at_mem he;exact(h []).cok
theorem Tryz.HstAt.ulen(H:Tryz.HstAt s p t q evs us M):∀U∈us,U.length≤3:=fun U hU=>by obtain⟨i,hi⟩:=List.getElem?_of_mem hU;have hl:=(List.getElem?_eq_some_iff.1 hi).1;obtain⟨c,h1,rfl,_⟩:=H.con i _ U (List.getElem?_eq_getElem (by rw[←H.len];exact hl)) hi;exact h1.le
theorem Tryz.HstAt.nd(H:Tryz.HstAt s p t q evs us M) {i j:Nat}{ev:List AV}{U U' :List (List UInt8)}(h1:evs[i]? =some ev) (h2:evs[j]? =some ev) (h3:us[i]? =some U) (h4:us[j]? =some U'):U=U' :=by obtain⟨c,_,rfl,k1⟩:=H.con i ev U h1 h3;obtain⟨d,_,rfl,k2⟩:=H.con j ev U' h2 h4;exact SF (k1 []) (k2 [])
theorem Tryz.HstAt.chk(H:Tryz.HstAt s p t q evs us M):∀ev∈evs,∀X,ACallsTo Tryz.prog 61 [shB s p t,.agg ev] (M++X) (.int .i64 0) (M++X):=fun ev he X=>by obtain⟨c,g,h⟩:=H.at_mem he;obtain⟨o,hp⟩:=(H.more X).hp;obtain⟨o',ht⟩:=(H.more X).ht;exact g.chk (M++X) p t o o' ev hp ht (h X)
theorem Tryz.HstAt.un(H:Tryz.HstAt s p t q evs us M):∀(i:Nat) ev U,evs[i]? =some ev→us[i]? =some U→∀X,∃v nw,ACallsTo Tryz.prog 62 [.agg ev] (M++X) v (M++X++nw)∧∀ext,sts (M++X++nw++ext) v=some U:=fun i ev U h1 h2 X=>by obtain⟨c,g,rfl,h⟩:=H.con i ev U h1 h2;exact g.un (M++X) ev (h X)
end
set_option maxRecDepth 8192 in
theorem wE:(pM (aM Tryz.prog) ad (aL Tryz.prog) bJ 20 6 (.fn 60) [.str [98,97,115,101]] []).map (fun r=>(r.v,r.mem []))=some (.bool true,[]++[]):=by kernel_rfl
theorem B4(M:Mem):ACallsTo Tryz.prog 60 [.str ba] M (.bool true) M:=
 ACallsTo.lift rfl rfl (cR (new:=[]) ae (aw _) (az _) (ao _) wE) M
def dQ(s:Sheet) (p t:Nat) (evs:List (List AV)) (us:List (List (List UInt8))) (M:Mem) (c:Go.Eng.Callee) (a:List AV) (N:Mem) (r:CallRes):Prop:=match c,a with
 |.fn 61,[x,.agg ev]=>x=shB s p t∧ev∈evs∧(∃X,N=M++X)∧r=⟨.int .i64 0,none,[]⟩
 |.fn 62,[.agg ev]=>∃(i:Nat) (U:List (List UInt8)) (v:AV) (nw:Mem),evs[i]? =some ev∧us[i]? =some U∧ACallsTo Tryz.prog 62 [.agg ev] N v (N++nw)∧(∀ext,sts (N++nw++ext) v=some U)∧r=⟨v,none,nw⟩
 |.fn 18,[w,.str u]=>∃L,sts N w=some L∧L.length≤1000000000∧r=⟨.bool (decide (u∈L)),none,[]⟩
 |.fn 37,[w,.str u]=>∃L,sts N w=some L∧L.length≤1000000000∧r=⟨.int .i64 (wU u 0 L),none,[]⟩
 |.fn 59,[x]=>x=shB s p t∧(∃X,N=M++X)∧r=⟨.int .i64 0,none,[]⟩
 |.fn 60,[.str u]=>u=ba∧r=⟨.bool true,none,[]⟩
 |_,_=>False
section
variable {s:Sheet}{p t q:Nat}{evs:List (List AV)}{us:List (List (List UInt8))}{M:Mem}
theorem Lg(H:Tryz.HstAt s p t q evs us M) (c:Go.Eng.Callee) (a:List AV) (N:Mem) (r:CallRes) (h:dQ s p t evs us M c a N r):lS Tryz.prog c a N r:=by
 unfold dQ at h;split at h
 ·obtain⟨rfl,h1,⟨X,rfl⟩,rfl⟩:=h
  exact ag (by simpa using H.chk _ h1 X)
 ·obtain⟨i,U,v,nw,_,_,h1,_,rfl⟩:=h
  exact ag h1
 ·obtain⟨L,h1,h2,rfl⟩:=h
  exact ag (by simpa using nu _ h2 h1)
 ·obtain⟨L,h1,h2,rfl⟩:=h
  exact ag (by simpa using uS _ h2 h1)
 ·obtain⟨rfl,⟨X,rfl⟩,rfl⟩:=h
  obtain⟨o,hp⟩:=H.hp;obtain⟨o',ht⟩:=H.ht;refine ag ?_;have:=du s (M++X) p t o o' (by rw[List.getElem?_append_left (List.getElem?_eq_some_iff.1 hp).1];exact hp) (by rw[List.getElem?_append_left (List.getElem?_eq_some_iff.1 ht).1];exact ht);simpa [shB] using this
 ·obtain⟨rfl,rfl⟩:=h
  exact ag (by simpa using B4 N)
 ·exact h.elim
theorem LU(H:Tryz.HstAt s p t q evs us M):OracleOk Tryz.prog (rC (dQ s p t evs us M)):=RD (Lg H)
theorem Cv{ev:List AV}(h:ev∈evs) (X:Mem):rC (dQ s p t evs us M) (.fn 61) [.agg [.slice p 0 s.P.length none,.slice t 0 s.T.length none],.agg ev] (M++X)=some ⟨.int .i64 0,none,[]⟩:=
 sW (S:=dQ s p t evs us M) (show dQ s p t evs us M _ _ _ _ from⟨rfl,h,⟨X,rfl⟩,rfl⟩) fun r' h=>h.2.2.2
theorem Gh(X:Mem):rC (dQ s p t evs us M) (.fn 59) [.agg [.slice p 0 s.P.length none,.slice t 0 s.T.length none]] (M++X)=some ⟨.int .i64 0,none,[]⟩:=
 sW (S:=dQ s p t evs us M) (show dQ s p t evs us M _ _ _ _ from⟨rfl,⟨X,rfl⟩,rfl⟩) fun r' h=>h.2.2
theorem Gi(N:Mem):rC (dQ s p t evs us M) (.fn 60) [.str ba] N=some ⟨.bool true,none,[]⟩:=
 sW (S:=dQ s p t evs us M) (show dQ s p t evs us M _ _ _ _ from⟨rfl,rfl⟩) fun r' h=>h.2
theorem wq{N:Mem}{w:AV}{L:List (List UInt8)}(u:List UInt8) (h:sts N w=some L) (hl:L.length≤1000000000):rC (dQ s p t evs us M) (.fn 18) [w,.str u] N=some ⟨.bool (decide (u∈L)),none,[]⟩:=
 sW (S:=dQ s p t evs us M) (show dQ s p t evs us M _ _ _ _ from⟨L,h,hl,rfl⟩) fun r' h' =>by obtain⟨L',h1,_,h2⟩:=h';rw[h] at h1;cases h1;exact h2
theorem rW(H:Tryz.HstAt s p t q evs us M) {i:Nat}{ev:List AV}{U:List (List UInt8)}(h1:evs[i]? =some ev) (h2:us[i]? =some U) (X:Mem):
  ∃v nw,rC (dQ s p t evs us M) (.fn 62) [.agg ev] (M++X)=some ⟨v,none,nw⟩∧∀ext,sts (M++(X++(nw++ext))) v=some U:=by
 obtain⟨v,nw,a,b⟩:=H.un i ev U h1 h2 X;obtain⟨r,g1,g2⟩:=BH (S:=dQ s p t evs us M) (c:=.fn 62) (a:=[.agg ev]) (M:=M++X) ⟨⟨v,none,nw⟩,show dQ s p t evs us M _ _ _ _ from⟨i,U,v,nw,h1,h2,a,b,rfl⟩⟩;obtain⟨i',U',v',nw',k1,k2,k3,k4,rfl⟩:=(show∃(i:Nat) (U:List (List UInt8)) (v:AV) (nw:Mem),evs[i]? =some ev∧us[i]? =some U∧ACallsTo Tryz.prog 62 [.agg ev] (M++X) v ((M++X)++nw)∧(∀ext,sts ((M++X)++nw++ext) v=some U)∧r=⟨v,none,nw⟩ from g2);have:=H.nd h1 k1 h2 k2;subst this;exact⟨v',nw',g1,fun ext=>by have:=k4 ext;rwa [List.append_assoc,List.append_assoc] at this⟩
theorem Tryz.HstAt.row(H:Tryz.HstAt s p t q evs us M) {i:Nat}{ev:List AV}(h:evs[i]? =some ev):(evs.flatten.drop (i*32)).take 32=ev∧i*32+32≤evs.flatten.length:=by
 have key:∀(l:List (List AV)) (i:Nat),(∀e∈l,e.length=32)→l[i]? =some ev→(l.flatten.drop (i*32)).take 32=ev∧i*32+32≤l.flatten.length:=by
  intro l;induction l with
  |nil=>intro i _ h;simp at h
  |cons x l ih=>
   intro i hl h;have hx:=hl x (by simp);cases i with
   |zero=>
    simp at h;subst h;simp[hx]
   |succ i=>
    obtain⟨a,b⟩:=ih i (fun e he=>hl e (by simp[he])) (by simpa using h);refine⟨?_,by rw[List.flatten_cons,List.length_append];omega⟩;rw[List.flatten_cons,List.drop_append,List.drop_of_length_le (by omega),List.nil_append,show(i+1)*32-x.length=i*32 by omega];exact a
 exact key evs i H.l32 h
end
end Go.Proofs
namespace Go.Proofs
open Go.Eng
def eO(ds:List Deed):List AV:=ds.flatMap Deed.cells
def SK(ds:List Deed) (x:Slot) (a:AV):Prop:=(ds=[]∧a=.nilslice)∨(x=.cells false 12 (eO ds)∧a=.slice 0 0 ds.length none)
end Go.Proofs
