/- See P53. -/
import Derived.Test.YtmhkeaphiadacaaGreatDoorP34
set_option linter.all false
set_option maxRecDepth 100000
set_option maxHeartbeats 40000000
namespace Go.Proofs
open Go.Eng
def fj(s:aae):Bool:=s.own||match s with | .qF=>true | _=>false
theorem gw(es:Nat)(cs:List AV):fj (.cells true es cs)=true:=rfl
theorem du(f:Nat→Bool)(o:Bool)(es:Nat)(cs:List AV):aae.HK f (.cells o es cs)=AV.aaa f cs:=rfl
end Go.Proofs
namespace Go.Proofs
open Go.Eng
end Go.Proofs
namespace Go.Proofs
open Go.Eng
end Go.Proofs
namespace Go.Proofs
open Go.Eng
end Go.Proofs
namespace Go.Eng
mutual
theorem AV.aak{f g:Nat→Bool}(h:∀b,f b=true→g b=true):∀v:AV,AV.HK f v=true→AV.HK g v=true
 |.ptr b _,hv=>by simp only[AV.HK] at hv ⊢;exact h _ hv
 |.slice b _ _ _,hv=>by simp only[AV.HK] at hv ⊢;exact h _ hv
 |.map b,hv=>by simp only[AV.HK] at hv ⊢;exact h _ hv
 |.yield b,hv=>by simp only[AV.HK] at hv ⊢;exact h _ hv
 |.agg cs,hv=>by simp only[AV.HK] at hv ⊢;exact AV.aan h cs hv
 |.tuple cs,hv=>by simp only[AV.HK] at hv ⊢;exact AV.aan h cs hv
 |.iface _ v,hv=>by simp only[AV.HK] at hv ⊢;exact AV.aak h v hv
 |.func _ cs,hv=>by simp only[AV.HK] at hv ⊢;exact AV.aan h cs hv
 |.undef,_=>rfl
 |.bool _,_=>rfl
 |.int _ _,_=>rfl
 |.str _,_=>rfl
 |.aar,_=>rfl
 |.kO,_=>rfl
 |.aau,_=>rfl
 |.nilFunc,_=>rfl
 |.nilIface,_=>rfl
theorem AV.aan{f g:Nat→Bool}(h:∀b,f b=true→g b=true):∀vs:List AV,AV.aaa f vs=true→AV.aaa g vs=true
 | [],_=>rfl
 |v::vs,hv=>by simp only[AV.aaa,Bool.and_eq_true] at hv ⊢;exact⟨AV.aak h v hv.1,AV.aan h vs hv.2⟩
end
theorem aae.aak{f g:Nat→Bool}(h:∀b,f b=true→g b=true):∀x:aae,aae.HK f x=true→aae.HK g x=true
 |.qF,_=>rfl
 |.cells _ _ cs,hx=>AV.aan h cs hx
 |.map es,hx=>by simp only[aae.HK,List.all_eq_true,Bool.and_eq_true] at hx ⊢;exact fun e he=>⟨AV.aak h _ (hx e he).1,AV.aak h _ (hx e he).2⟩
 |.aaF es,hx=>by simp only[aae.HK,List.all_eq_true,Bool.and_eq_true] at hx ⊢;exact fun e he=>⟨AV.aak h _ (hx e he).1,AV.aak h _ (hx e he).2⟩
 |.loop r,hx=>by simp only[aae.HK,List.all_eq_true] at hx ⊢;exact fun e he=>AV.aak h _ (hx e he)
end Go.Eng
namespace Go.Proofs
open Go.Eng
open Tryz
theorem LJ(s:aaf)(d:aao)(hd:d.Ok)(i:Nat)(hi:i<6)(M:Mem)(p t:Nat)(o o' :Bool)(hp:M[p]? =some (.cells o 2 (pC s.P)))(ht:M[t]? =some (.cells o' 3 (tC s.T))):
  ∃ev x1 x2 x3 x4 x5,mB prog 9 [shB s p t,.agg d.cells,.int .i64 i] M (.agg ev) (M++[x1,x2,x3,x4,x5])∧iJ s p t (bI d i) M.length [x1,x2,x3,x4,x5] ev∧fZ M.length [x1,x2,x3,x4,x5] ev (bI d i)∧(ev.length=32∧ev[1]? =some (.str (bF i)))∧
   (∀x∈ev,x.qK=true)∧(∀k,M.length+5≤k→AV.aaa (fun b=>decide (b<k)) ev=true)∧(fj x1=true∧fj x2=true∧fj x3=true∧fj x4=true∧fj x5=true)∧
   ∀k,M.length+5≤k→x1.HK (fun b=>decide (b<k))=true∧x2.HK (fun b=>decide (b<k))=true∧x3.HK (fun b=>decide (b<k))=true∧x4.HK (fun b=>decide (b<k))=true∧x5.HK (fun b=>decide (b<k))=true:=by
 obtain⟨ev,x1,x2,x3,x4,x5,h1,h2,h3,h4,h5,h6,h7⟩:=LI s d hd i hi M p t o o' hp ht;have up:∀k,M.length+5≤k→∀b,decide (b<M.length+5)=true→decide (b<k)=true:=fun k hk b hb=>by simp only[decide_eq_true_eq] at hb ⊢;omega
 have ho:∀x∈[x1,x2,x3,x4,x5],fj x=true∧x.HK (fun b=>decide (b<M.length+5))=true:=by intro x hx;have:=List.all_eq_true.1 h5 x hx;simp only[Bool.and_eq_true] at this;exact⟨this.1,this.2⟩
 refine⟨ev,x1,x2,x3,x4,x5,h1,h2,h3,h4,fun x hx=>?_,fun k hk=>AV.aan (up k hk) ev h6,⟨(ho x1 (by simp)).1,(ho x2 (by simp)).1,(ho x3 (by simp)).1,(ho x4 (by simp)).1,(ho x5 (by simp)).1⟩,fun k hk=>?_⟩
 ·have:=h7 x hx
  cases x<;>first | rfl | exact this
 ·exact⟨aae.aak (up k hk) _ (ho x1 (by simp)).2,aae.aak (up k hk) _ (ho x2 (by simp)).2,aae.aak (up k hk) _ (ho x3 (by simp)).2,aae.aak (up k hk) _ (ho x4 (by simp)).2,aae.aak (up k hk) _ (ho x5 (by simp)).2⟩
def bm:List UInt8:=[98,97,115,101]
def K6(i:Nat):List (List (List UInt8)):=[[],[ik i],bp i 0,bp i 1,bp i 2]
theorem jW(d:aao)(i:Nat):bI d i∈K6 i:=by
 have h3:=Nat.mod_lt d.K.1 (show 0<3 by decide);unfold bI K6;split
 ·have:d.K.1%3=0∨d.K.1%3=1∨d.K.1%3=2:=by omega
  rcases this with h | h | h<;>rw[h]<;>simp
 ·split<;>simp
theorem uk:∀a∈K6 0,∀b∈K6 1,∀c∈K6 2,(bm::(a++(b++c))).Nodup:=by decide
theorem K9(d e f:aao):(bm::(bI d 0++(bI e 1++bI f 2))).Nodup:=uk _ (jW d 0) _ (jW e 1) _ (jW f 2)
theorem K8(d e:aao):(bm::(bI d 0++bI e 1)).Nodup:=by have:=uk _ (jW d 0) _ (jW e 1) [] (by simp[K6]);simpa using this
theorem K7(d:aao):(bm::bI d 0).Nodup:=by have:=uk _ (jW d 0) [] (by simp[K6]) [] (by simp[K6]);simpa using this
def evV(q n:Nat):AV:=if n=0 then .kO else .slice q 0 n none
def cI(s:aaf) (p t q n:Nat):List AV:=[.slice p 0 s.P.length none,.slice t 0 s.T.length none,.str bm,evV q n]
structure Tryz.aba (s:aaf) (p t q:Nat) (evs:List (List AV)) (us:List (List (List UInt8))) (M:Mem):Prop where
 hp:∃o,M[p]? =some (.cells o 2 (pC s.P))
 ht:∃o,M[t]? =some (.cells o 3 (tC s.T))
 hq:evs≠[]→∃o,M[q]? =some (.cells o 32 evs.flatten)
 len:us.length=evs.length
 small:evs.length≤4
 con:∀(i:Nat) ev U,evs[i]? =some ev→us[i]? =some U→∃c:Evc,Tryz.Good s c∧unE c=U∧∀X,aaI (M++X) ev c
variable{ev:List AV}
section
variable {s:aaf}{p t q:Nat}{evs:List (List AV)}{us:List (List (List UInt8))}{M:Mem}
section
variable (H:aba s p t q evs us M)
include H
theorem Tryz.aba.more(Z:Mem):aba s p t q evs us (M++Z) where
 hp:=by obtain⟨o,h⟩:=H.hp;exact⟨o,by rw[List.getElem?_append_left (List.getElem?_eq_some_iff.1 h).1];exact h⟩
 ht:=by obtain⟨o,h⟩:=H.ht;exact⟨o,by rw[List.getElem?_append_left (List.getElem?_eq_some_iff.1 h).1];exact h⟩
 hq:=fun he=>by obtain⟨o,h⟩:=H.hq he;exact⟨o,by rw[List.getElem?_append_left (List.getElem?_eq_some_iff.1 h).1];exact h⟩
 len:=H.len
 small:=H.small
 con:=fun i ev U h1 h2=>by obtain⟨c,hc,hu,hx⟩:=H.con i ev U h1 h2;exact⟨c,hc,hu,fun X=>by rw[List.append_assoc];exact hx _⟩
theorem Tryz.aba.at_mem(h:ev∈evs):∃c:Evc,Tryz.Good s c∧∀X,aaI (M++X) ev c:=by obtain⟨i,hi⟩:=List.getElem?_of_mem h;have hl:=(List.getElem?_eq_some_iff.1 hi).1;obtain⟨c,h1,_,h2⟩:=H.con i ev _ hi (List.getElem?_eq_getElem (by rw[H.len];exact hl));exact⟨c,h1,h2⟩
theorem Tryz.aba.l32:∀e∈evs,e.length=32:=fun e he=>by obtain⟨c,_,h⟩:=H.at_mem he;exact(h []).l32
theorem Tryz.aba.cok:∀e∈evs,∀x∈e,x.qK=true:=fun e he=>by obtain⟨c,_,h⟩:=H.at_mem he;exact(h []).cok
theorem Tryz.aba.abx:∀U∈us,U.length≤3:=fun U hU=>by obtain⟨i,hi⟩:=List.getElem?_of_mem hU;have hl:=(List.getElem?_eq_some_iff.1 hi).1;obtain⟨c,h1,rfl,_⟩:=H.con i _ U (List.getElem?_eq_getElem (by rw[←H.len];exact hl)) hi;exact h1.le
theorem Tryz.aba.nd{i j:Nat}{U U' :List (List UInt8)}(h1:evs[i]? =some ev)(h2:evs[j]? =some ev)(h3:us[i]? =some U)(h4:us[j]? =some U'):U=U' :=by obtain⟨c,_,rfl,k1⟩:=H.con i ev U h1 h3;obtain⟨d,_,rfl,k2⟩:=H.con j ev U' h2 h4;exact Sn (k1 []) (k2 [])
theorem Tryz.aba.chk:∀ev∈evs,∀X,mB prog 43 [shB s p t,.agg ev] (M++X) (.int .i64 0) (M++X):=fun ev he X=>by obtain⟨c,g,h⟩:=H.at_mem he;obtain⟨o,hp⟩:=(H.more X).hp;obtain⟨o',ht⟩:=(H.more X).ht;exact g.chk (M++X) p t o o' ev hp ht (h X)
theorem Tryz.aba.un:∀(i:Nat) ev U,evs[i]? =some ev→us[i]? =some U→∀X,∃v nw,mB prog 44 [.agg ev] (M++X) v (M++X++nw)∧∀ext,sts (M++X++nw++ext) v=some U:=fun i ev U h1 h2 X=>by obtain⟨c,g,rfl,h⟩:=H.con i ev U h1 h2;exact g.un (M++X) ev (h X)
end
end
theorem yF:(ow (aC prog) ab (aO prog) bt 20 6 (.fn 42) [.str [98,97,115,101]] []).map (fun r=>(r.v,r.mem []))=some (.bool true,[]++[]):=by kernel_rfl
theorem cn(M:Mem):mB prog 42 [.str bm] M (.bool true) M:=
 mB.lift rfl rfl (bU (new:=[]) af (aw _) (ax _) (ah _) yF) M
theorem yJ:(ow (aC prog) ab (aO prog) bt 20 6 (.fn 50) [.str [98,97,115,101]] []).map (fun r=>(r.v,r.mem []))=some (.bool true,[]++[]):=by kernel_rfl
theorem cr(M:Mem):mB prog 50 [.str bm] M (.bool true) M:=
 mB.lift rfl rfl (bU (new:=[]) af (aw _) (ax _) (ah _) yJ) M
def Wb(s:aaf) (p t:Nat) (evs:List (List AV)) (us:List (List (List UInt8))) (M:Mem) (c:Go.Eng.Callee) (a:List AV) (N:Mem) (r:HS):Prop:=match c,a with
 |.fn 43,[x,.agg ev]=>x=shB s p t∧ev∈evs∧(∃X,N=M++X)∧r=⟨.int .i64 0,none,[]⟩
 |.fn 44,[.agg ev]=>∃(i:Nat) (U:List (List UInt8)) (v:AV) (nw:Mem),evs[i]? =some ev∧us[i]? =some U∧mB prog 44 [.agg ev] N v (N++nw)∧(∀ext,sts (N++nw++ext) v=some U)∧r=⟨v,none,nw⟩
 |.fn 45,[w,.str u]=>∃L,sts N w=some L∧L.length≤1000000000∧r=⟨.bool (decide (u∈L)),none,[]⟩
 |.fn 56,[w,.str u]=>∃L,sts N w=some L∧L.length≤1000000000∧r=⟨.int .i64 (yY u 0 L),none,[]⟩
 |.fn 41,[x]=>x=shB s p t∧(∃X,N=M++X)∧r=⟨.int .i64 0,none,[]⟩
 |.fn 50,[.str u]=>u=bm∧r=⟨.bool true,none,[]⟩
 |.fn 42,[.str u]=>u=bm∧r=⟨.bool true,none,[]⟩
 |_,_=>False
section
variable {s:aaf}{p t q:Nat}{evs:List (List AV)}{us:List (List (List UInt8))}{M:Mem}
end
end Go.Proofs
namespace Go.Proofs
open Go.Eng
theorem TI{f:FuncId}{a:List AV}{m:Mem}{r:HS}{L:List (FuncId×List AV×Mem×HS)}:gj ((f,a,m,r)::L) (.fn f) a m=some r:=by rw[gj,if_pos ⟨rfl,rfl,rfl⟩]
def gN(ds:List aao):List AV:=ds.flatMap aao.cells
def Vm(ds:List aao) (x:aae) (a:AV):Prop:=(ds=[]∧a=.kO)∨(x=.cells false 12 (gN ds)∧a=.slice 0 0 ds.length none)
end Go.Proofs
