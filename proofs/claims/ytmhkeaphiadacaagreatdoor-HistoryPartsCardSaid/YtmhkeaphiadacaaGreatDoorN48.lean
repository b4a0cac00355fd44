/- See N58. -/
import Derived.Test.YtmhkeaphiadacaaGreatDoorN46
import Derived.Test.YtmhkeaphiadacaaGreatDoorN08
set_option linter.all false
namespace Go.Proofs
open Go.Eng
def ak:List UInt8:=[98,97,115,101]
def Hx(i:Nat):List (List (List UInt8)):=[[],[fw i],aY i 0,aY i 1,aY i 2]
theorem jc(d:Deed) (i:Nat):bl d i∈Hx i:=by
 have h3:=Nat.mod_lt d.K.1 (show 0<3 by decide)
 unfold bl Hx
 split
 ·have:d.K.1%3=0∨d.K.1%3=1∨d.K.1%3=2:=by omega
  rcases this with h | h | h<;>rw[h]<;>simp
 ·split<;>simp
theorem rc:∀a∈Hx 0,∀b∈Hx 1,∀c∈Hx 2,(ak::(a++(b++c))).Nodup:=by decide
theorem HD(d e f:Deed):(ak::(bl d 0++(bl e 1++bl f 2))).Nodup:=rc _ (jc d 0) _ (jc e 1) _ (jc f 2)
theorem HC(d e:Deed):(ak::(bl d 0++bl e 1)).Nodup:=by
 have:=rc _ (jc d 0) _ (jc e 1) [] (by simp[Hx])
 simpa using this
theorem Hz(d:Deed):(ak::bl d 0).Nodup:=by
 have:=rc _ (jc d 0) [] (by simp[Hx]) [] (by simp[Hx])
 simpa using this
def evV(q n:Nat):AV:=if n=0 then .nilslice else .slice q 0 n none
def aq(s:Sheet) (p t q n:Nat):List AV:=[.slice p 0 s.P.length none,.slice t 0 s.T.length none,.str ak,evV q n]
structure Tryz.HstAt (s:Sheet) (p t q:Nat) (evs:List (List AV)) (us:List (List (List UInt8))) (M:Mem):Prop where
 hp:∃o,M[p]? =some (.cells o 2 (pC s.P))
 ht:∃o,M[t]? =some (.cells o 3 (tC s.T))
 hq:evs≠[]→∃o,M[q]? =some (.cells o 32 evs.flatten)
 len:us.length=evs.length
 small:evs.length≤4
 con:∀(i:Nat) ev U,evs[i]? =some ev→us[i]? =some U→∃c:Evc,Tryz.Good s c∧unE c=U∧∀X,EvAt (M++X) ev c
section
variable {s:Sheet}{p t q:Nat}{evs:List (List AV)}{us:List (List (List UInt8))}{M:Mem}
theorem Tryz.HstAt.more(H:Tryz.HstAt s p t q evs us M) (Z:Mem):Tryz.HstAt s p t q evs us (M++Z) where
 hp:=by obtain⟨o,h⟩:=H.hp;exact⟨o,by rw[List.getElem?_append_left (List.getElem?_eq_some_iff.1 h).1];exact h⟩
 ht:=by obtain⟨o,h⟩:=H.ht;exact⟨o,by rw[List.getElem?_append_left (List.getElem?_eq_some_iff.1 h).1];exact h⟩
 hq:=fun he=>by obtain⟨o,h⟩:=H.hq he;exact⟨o,by rw[List.getElem?_append_left (List.getElem?_eq_some_iff.1 h).1];exact h⟩
 len:=H.len
 small:=H.small
 con:=fun i ev U h1 h2=>by
  obtain⟨c,hc,hu,hx⟩:=H.con i ev U h1 h2
  exact⟨c,hc,hu,fun X=>by rw[List.append_assoc];exact hx _⟩
theorem Tryz.HstAt.at_mem(H:Tryz.HstAt s p t q evs us M) {ev:List AV}(h:ev∈evs):∃c:Evc,Tryz.Good s c∧∀X,EvAt (M++X) ev c:=by
 obtain⟨i,hi⟩:=List.getElem?_of_mem h
 have hl:=(List.getElem?_eq_some_iff.1 hi).1
 obtain⟨c,h1,_,h2⟩:=H.con i ev _ hi (List.getElem?_eq_getElem (by rw[H.len];exact hl))
 exact⟨c,h1,h2⟩
theorem Tryz.HstAt.l32(H:Tryz.HstAt s p t q evs us M):∀e∈evs,e.length=32:=fun e he=>by
 obtain⟨c,_,h⟩:=H.at_mem he
 exact(h []).l32
theorem Tryz.HstAt.cok(H:Tryz.HstAt s p t q evs us M):∀e∈evs,∀x∈e,x.cellOk=true:=fun e he=>by
 obtain⟨c,_,h⟩:=H.at_mem he
 exact(h []).cok
theorem Tryz.HstAt.ulen(H:Tryz.HstAt s p t q evs us M):∀U∈us,U.length≤3:=fun U hU=>by
 obtain⟨i,hi⟩:=List.getElem?_of_mem hU
 have hl:=(List.getElem?_eq_some_iff.1 hi).1
 obtain⟨c,h1,rfl,_⟩:=H.con i _ U (List.getElem?_eq_getElem (by rw[←H.len];exact hl)) hi
 exact h1.le
theorem Tryz.HstAt.nd(H:Tryz.HstAt s p t q evs us M) {i j:Nat}{ev:List AV}{U U' :List (List UInt8)}(h1:evs[i]? =some ev) (h2:evs[j]? =some ev) (h3:us[i]? =some U) (h4:us[j]? =some U'):U=U' :=by
 obtain⟨c,_,rfl,k1⟩:=H.con i ev U h1 h3
 obtain⟨d,_,rfl,k2⟩:=H.con j ev U' h2 h4
 exact QN (k1 []) (k2 [])
theorem Tryz.HstAt.chk(H:Tryz.HstAt s p t q evs us M):∀ev∈evs,∀X,ACallsTo Tryz.prog 43 [shB s p t,.agg ev] (M++X) (.int .i64 0) (M++X):=fun ev he X=>by
 obtain⟨c,g,h⟩:=H.at_mem he
 obtain⟨o,hp⟩:=(H.more X).hp
 obtain⟨o',ht⟩:=(H.more X).ht
 exact g.chk (M++X) p t o o' ev hp ht (h X)
theorem Tryz.HstAt.un(H:Tryz.HstAt s p t q evs us M):∀(i:Nat) ev U,evs[i]? =some ev→us[i]? =some U→∀X,∃v nw,ACallsTo Tryz.prog 44 [.agg ev] (M++X) v (M++X++nw)∧∀ext,sts (M++X++nw++ext) v=some U:=fun i ev U h1 h2 X=>by
 obtain⟨c,g,rfl,h⟩:=H.con i ev U h1 h2
 exact g.un (M++X) ev (h X)
end
set_option maxRecDepth 8192 in
theorem vH:(sf (az Tryz.prog) ad (aI Tryz.prog) aE 20 6 (.fn 42) [.str [98,97,115,101]] []).map (fun r=>(r.v,r.mem []))=some (.bool true,[]++[]):=by kernel_rfl
theorem Bo(M:Mem):ACallsTo Tryz.prog 42 [.str ak] M (.bool true) M:=
 ACallsTo.lift rfl rfl (cB (new:=[]) aa (ai _) (aj _) (af _) vH) M
set_option maxRecDepth 8192 in
theorem vL:(sf (az Tryz.prog) ad (aI Tryz.prog) aE 20 6 (.fn 50) [.str [98,97,115,101]] []).map (fun r=>(r.v,r.mem []))=some (.bool true,[]++[]):=by kernel_rfl
theorem Bv(M:Mem):ACallsTo Tryz.prog 50 [.str ak] M (.bool true) M:=
 ACallsTo.lift rfl rfl (cB (new:=[]) aa (ai _) (aj _) (af _) vL) M
def dd(s:Sheet) (p t:Nat) (evs:List (List AV)) (us:List (List (List UInt8))) (M:Mem) (c:Go.Eng.Callee) (a:List AV) (N:Mem) (r:CallRes):Prop:=match c,a with
 |.fn 43,[x,.agg ev]=>x=shB s p t∧ev∈evs∧(∃X,N=M++X)∧r=⟨.int .i64 0,none,[]⟩
 |.fn 44,[.agg ev]=>∃(i:Nat) (U:List (List UInt8)) (v:AV) (nw:Mem),evs[i]? =some ev∧us[i]? =some U∧ACallsTo Tryz.prog 44 [.agg ev] N v (N++nw)∧(∀ext,sts (N++nw++ext) v=some U)∧r=⟨v,none,nw⟩
 |.fn 45,[w,.str u]=>∃L,sts N w=some L∧L.length≤1000000000∧r=⟨.bool (decide (u∈L)),none,[]⟩
 |.fn 56,[w,.str u]=>∃L,sts N w=some L∧L.length≤1000000000∧r=⟨.int .i64 (uQ u 0 L),none,[]⟩
 |.fn 41,[x]=>x=shB s p t∧(∃X,N=M++X)∧r=⟨.int .i64 0,none,[]⟩
 |.fn 50,[.str u]=>u=ak∧r=⟨.bool true,none,[]⟩
 |.fn 42,[.str u]=>u=ak∧r=⟨.bool true,none,[]⟩
 |_,_=>False
section
variable {s:Sheet}{p t q:Nat}{evs:List (List AV)}{us:List (List (List UInt8))}{M:Mem}
theorem Kn(H:Tryz.HstAt s p t q evs us M) (c:Go.Eng.Callee) (a:List AV) (N:Mem) (r:CallRes) (h:dd s p t evs us M c a N r):sW Tryz.prog c a N r:=by
 unfold dd at h
 split at h
 ·obtain⟨rfl,h1,⟨X,rfl⟩,rfl⟩:=h
  exact ap (by simpa using H.chk _ h1 X)
 ·obtain⟨i,U,v,nw,_,_,h1,_,rfl⟩:=h
  exact ap h1
 ·obtain⟨L,h1,h2,rfl⟩:=h
  exact ap (by simpa using nT _ h2 h1)
 ·obtain⟨L,h1,h2,rfl⟩:=h
  exact ap (by simpa using uw _ h2 h1)
 ·obtain⟨rfl,⟨X,rfl⟩,rfl⟩:=h
  obtain⟨o,hp⟩:=H.hp
  obtain⟨o',ht⟩:=H.ht
  refine ap ?_
  have:=dj s (M++X) p t o o' (by rw[List.getElem?_append_left (List.getElem?_eq_some_iff.1 hp).1];exact hp) (by rw[List.getElem?_append_left (List.getElem?_eq_some_iff.1 ht).1];exact ht)
  simpa [shB] using this
 ·obtain⟨rfl,rfl⟩:=h
  exact ap (by simpa using Bv N)
 ·obtain⟨rfl,rfl⟩:=h
  exact ap (by simpa using Bo N)
 ·exact h.elim
theorem KW(H:Tryz.HstAt s p t q evs us M):OracleOk Tryz.prog (dR (dd s p t evs us M)):=kH (Kn H)
theorem BU{ev:List AV}(h:ev∈evs) (X:Mem):dR (dd s p t evs us M) (.fn 43) [.agg [.slice p 0 s.P.length none,.slice t 0 s.T.length none],.agg ev] (M++X)=some ⟨.int .i64 0,none,[]⟩:=
 cv (S:=dd s p t evs us M) (show dd s p t evs us M _ _ _ _ from⟨rfl,h,⟨X,rfl⟩,rfl⟩) fun r' h=>h.2.2.2
theorem FF(X:Mem):dR (dd s p t evs us M) (.fn 41) [.agg [.slice p 0 s.P.length none,.slice t 0 s.T.length none]] (M++X)=some ⟨.int .i64 0,none,[]⟩:=
 cv (S:=dd s p t evs us M) (show dd s p t evs us M _ _ _ _ from⟨rfl,⟨X,rfl⟩,rfl⟩) fun r' h=>h.2.2
theorem FG(N:Mem):dR (dd s p t evs us M) (.fn 50) [.str ak] N=some ⟨.bool true,none,[]⟩:=
 cv (S:=dd s p t evs us M) (show dd s p t evs us M _ _ _ _ from⟨rfl,rfl⟩) fun r' h=>h.2
theorem BV(N:Mem):dR (dd s p t evs us M) (.fn 42) [.str ak] N=some ⟨.bool true,none,[]⟩:=
 cv (S:=dd s p t evs us M) (show dd s p t evs us M _ _ _ _ from⟨rfl,rfl⟩) fun r' h=>h.2
theorem vG{N:Mem}{w:AV}{L:List (List UInt8)}(u:List UInt8) (h:sts N w=some L) (hl:L.length≤1000000000):dR (dd s p t evs us M) (.fn 45) [w,.str u] N=some ⟨.bool (decide (u∈L)),none,[]⟩:=
 cv (S:=dd s p t evs us M) (show dd s p t evs us M _ _ _ _ from⟨L,h,hl,rfl⟩) fun r' h' =>by
  obtain⟨L',h1,_,h2⟩:=h'
  rw[h] at h1;cases h1;exact h2
theorem rI(H:Tryz.HstAt s p t q evs us M) {i:Nat}{ev:List AV}{U:List (List UInt8)}(h1:evs[i]? =some ev) (h2:us[i]? =some U) (X:Mem):
  ∃v nw,dR (dd s p t evs us M) (.fn 44) [.agg ev] (M++X)=some ⟨v,none,nw⟩∧∀ext,sts (M++(X++(nw++ext))) v=some U:=by
 obtain⟨v,nw,a,b⟩:=H.un i ev U h1 h2 X
 obtain⟨r,g1,g2⟩:=Be (S:=dd s p t evs us M) (c:=.fn 44) (a:=[.agg ev]) (M:=M++X) ⟨⟨v,none,nw⟩,show dd s p t evs us M _ _ _ _ from⟨i,U,v,nw,h1,h2,a,b,rfl⟩⟩
 obtain⟨i',U',v',nw',k1,k2,k3,k4,rfl⟩:=(show∃(i:Nat) (U:List (List UInt8)) (v:AV) (nw:Mem),evs[i]? =some ev∧us[i]? =some U∧ACallsTo Tryz.prog 44 [.agg ev] (M++X) v ((M++X)++nw)∧(∀ext,sts ((M++X)++nw++ext) v=some U)∧r=⟨v,none,nw⟩ from g2)
 have:=H.nd h1 k1 h2 k2
 subst this
 exact⟨v',nw',g1,fun ext=>by have:=k4 ext;rwa [List.append_assoc,List.append_assoc] at this⟩
theorem Tryz.HstAt.row(H:Tryz.HstAt s p t q evs us M) {i:Nat}{ev:List AV}(h:evs[i]? =some ev):(evs.flatten.drop (i*32)).take 32=ev∧i*32+32≤evs.flatten.length:=by
 have key:∀(l:List (List AV)) (i:Nat),(∀e∈l,e.length=32)→l[i]? =some ev→(l.flatten.drop (i*32)).take 32=ev∧i*32+32≤l.flatten.length:=by
  intro l
  induction l with
  |nil=>intro i _ h;simp at h
  |cons x l ih=>
   intro i hl h
   have hx:=hl x (by simp)
   cases i with
   |zero=>
    simp at h;subst h
    simp[hx]
   |succ i=>
    obtain⟨a,b⟩:=ih i (fun e he=>hl e (by simp[he])) (by simpa using h)
    refine⟨?_,by rw[List.flatten_cons,List.length_append];omega⟩
    rw[List.flatten_cons,List.drop_append,List.drop_of_length_le (by omega),List.nil_append,show(i+1)*32-x.length=i*32 by omega]
    exact a
 exact key evs i H.l32 h
end
end Go.Proofs
namespace Go.Proofs
open Go.Eng
noncomputable def mY(s:Sheet):Oracle:=dR fun c a N r=>match c,a with
 |.fn 33,[x]=>x=s.av∧r=⟨shB s N.length (N.length+1),none,[.cells true 2 (pC s.P),.cells true 3 (tC s.T)]⟩
 |_,_=>False
theorem ji(s:Sheet) (hs:s.Ok):OracleOk Tryz.prog (mY s):=kH fun c a N r h=>by
 split at h
 ·obtain⟨rfl,rfl⟩:=h
  exact ap (HQ s hs N)
 ·exact h.elim
theorem jh(s:Sheet) (N:Mem):mY s (.fn 33) [.agg [.int .u8 s.kind,.int .i8 s.sx,.int .i8 s.sy,.bool s.half]] N=some ⟨shB s N.length (N.length+1),none,[.cells true 2 (pC s.P),.cells true 3 (tC s.T)]⟩:=
 cv ⟨rfl,rfl⟩ fun r' h=>h.2
theorem ug{O O' :Oracle}{c:Go.Eng.Callee}{a:List AV}{M:Mem}{r:CallRes}(h:O c a M=some r):Oracle.or O O' c a M=some r:=by
 unfold Oracle.or;rw[h]
theorem Js{O O' :Oracle}{c:Go.Eng.Callee}{a:List AV}{M:Mem}(h:O c a M=none):Oracle.or O O' c a M=O' c a M:=by
 unfold Oracle.or;rw[h]
theorem be{f:FuncId}{a:List AV}{m:Mem}{r:CallRes}{L:List (FuncId×List AV×Mem×CallRes)}:cg ((f,a,m,r)::L) (.fn f) a m=some r:=by
 rw[cg,if_pos ⟨rfl,rfl,rfl⟩]
theorem wD{f g:FuncId}{a b:List AV}{m m' :Mem}{r:CallRes}{L:List (FuncId×List AV×Mem×CallRes)}(h:b≠a):cg ((f,a,m,r)::L) (.fn g) b m' =cg L (.fn g) b m' :=by
 rw[cg,if_neg (fun e=>h e.2.1)]
theorem AN{b:Nat}{M:Mem}{x1 x2 x3 x4 x5:Slot}(h1:M[b]? =some x1) (h2:M[b+1]? =some x2) (h3:M[b+2]? =some x3) (h4:M[b+3]? =some x4) (h5:M[b+4]? =some x5):Keeps b [x1,x2,x3,x4,x5] M:=fun k x hk=>by
 match k,hk with
 |0,hk=>simp at hk;subst hk;exact h1
 |1,hk=>simp at hk;subst hk;exact h2
 |2,hk=>simp at hk;subst hk;exact h3
 |3,hk=>simp at hk;subst hk;exact h4
 |4,hk=>simp at hk;subst hk;exact h5
 |k+5,hk=>simp at hk
def kw(ds:List Deed):List AV:=ds.flatMap Deed.cells
def PN(ds:List Deed) (x:Slot) (a:AV):Prop:=(ds=[]∧a=.nilslice)∨(x=.cells false 12 (kw ds)∧a=.slice 0 0 ds.length none)
end Go.Proofs
