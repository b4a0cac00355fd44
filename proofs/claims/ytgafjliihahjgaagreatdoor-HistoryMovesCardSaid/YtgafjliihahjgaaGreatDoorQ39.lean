/- See Q54. -/
import Derived.Test.YtgafjliihahjgaaGreatDoorQ37
import Derived.Test.YtgafjliihahjgaaGreatDoorQ38
set_option linter.all false
namespace Go.Proofs
open Go.Eng
structure Tryz.HstC (s:Sheet) (p t q:Nat) (evs:List (List AV)) (cs:List Evc) (M:Mem):Prop where
 hp:∃o,M[p]? =some (.cells o 2 (pC s.P))
 ht:∃o,M[t]? =some (.cells o 3 (tC s.T))
 hq:evs≠[]→∃o,M[q]? =some (.cells o 32 evs.flatten)
 len:evs.length=cs.length
 small:cs.length≤4
 good:∀c∈cs,Tryz.Good s c
 con:∀(i:Nat) ev c,evs[i]? =some ev→cs[i]? =some c→EvAt M ev c
theorem yM{α β:Type}{P:Nat→α→β→Prop}:∀(l:List α),(∀(i:Nat) a,l[i]? =some a→∃b,P i a b)→∃bs:List β,bs.length=l.length∧∀(i:Nat) a b,l[i]? =some a→bs[i]? =some b→P i a b
 | [],_=>⟨[],rfl,fun i a b h=>by simp at h⟩
 |x::l,h=>by
  obtain⟨b,hb⟩:=h 0 x rfl;obtain⟨bs,h1,h2⟩:=yM (P:=fun i=>P (i+1)) l fun i a hi=>h (i+1) a (by simpa using hi)
  refine⟨b::bs,by simp[h1],fun i a c hi hc=>?_⟩;cases i with
  |zero=>simp at hi hc;subst hi hc;exact hb
  |succ i=>exact h2 i a c (by simpa using hi) (by simpa using hc)
section
variable {s:Sheet}{p t q:Nat}{evs:List (List AV)}{cs:List Evc}{M:Mem}
theorem Tryz.HstC.more(H:Tryz.HstC s p t q evs cs M) (Z:Mem):Tryz.HstC s p t q evs cs (M++Z) where
 hp:=by obtain⟨o,h⟩:=H.hp;exact⟨o,by rw[List.getElem?_append_left (List.getElem?_eq_some_iff.1 h).1];exact h⟩
 ht:=by obtain⟨o,h⟩:=H.ht;exact⟨o,by rw[List.getElem?_append_left (List.getElem?_eq_some_iff.1 h).1];exact h⟩
 hq:=fun he=>by obtain⟨o,h⟩:=H.hq he;exact⟨o,by rw[List.getElem?_append_left (List.getElem?_eq_some_iff.1 h).1];exact h⟩
 len:=H.len
 small:=H.small
 good:=H.good
 con:=fun i ev c h1 h2=>(H.con i ev c h1 h2).more Z
theorem Tryz.HstC.at(H:Tryz.HstC s p t q evs cs M):Tryz.HstAt s p t q evs (cs.map unE) M where
 hp:=H.hp
 ht:=H.ht
 hq:=H.hq
 len:=by rw[List.length_map,H.len]
 small:=by rw[H.len];exact H.small
 con:=fun i ev U h1 h2=>by rw[List.getElem?_map,Option.map_eq_some_iff] at h2;obtain⟨c,h3,h4⟩:=h2;exact⟨c,H.good c (List.mem_of_getElem? h3),h4,fun X=>(H.con i ev c h1 h3).more X⟩
theorem Tryz.HstC.l32(H:Tryz.HstC s p t q evs cs M):∀e∈evs,e.length=32:=H.at.l32
theorem Tryz.HstC.cok(H:Tryz.HstC s p t q evs cs M):∀e∈evs,∀x∈e,x.cellOk=true:=H.at.cok
theorem Tryz.HstC.flat(H:Tryz.HstC s p t q evs cs M):evs.flatten.length=cs.length*32:=by rw[KO H.l32,H.len]
theorem JT{evs:List (List AV)}(h:∀e∈evs,∀x∈e,x.cellOk=true):evs.flatten.all AV.cellOk=true:=by rw[List.all_eq_true];intro x hx;obtain⟨e,he,hxe⟩:=List.mem_flatten.1 hx;exact h e he x hxe
theorem Tryz.HstC.rowEv(H:Tryz.HstC s p t q evs cs M):EvRow M (evV q cs.length) cs.length evs.flatten:=by
 by_cases h0:cs.length=0
 ·left
  have:evs=[]:=List.eq_nil_of_length_eq_zero (by rw[H.len];exact h0);exact⟨h0,by rw[this];rfl,.inl (by unfold evV;rw[if_pos h0])⟩
 ·right
  obtain⟨o,h⟩:=H.hq (by rintro rfl;have:=H.len;simp at this;omega);exact⟨q,o,evs.flatten,by unfold evV;rw[if_neg h0],by omega,h,List.take_of_length_le (by rw[H.flat];omega)⟩
theorem Tryz.HstC.evsAt(H:Tryz.HstC s p t q evs cs M):EvsAt M (evV q cs.length) cs:=⟨evs,H.len,H.rowEv,H.con⟩
theorem Tryz.HstC.rowP(H:Tryz.HstC s p t q evs cs M):RowAt M (.slice p 0 s.P.length none) 2 s.P.length (pC s.P):=by obtain⟨o,h⟩:=H.hp;exact .inr ⟨p,o,rfl,(gQ s).1,h⟩
theorem P5(s:Sheet):0<s.T.length:=by
 have:∀k<8,0<(bp k).length:=by decide
 exact this _ (Nat.mod_lt _ (by decide))
theorem Tryz.HstC.rowT(H:Tryz.HstC s p t q evs cs M):RowAt M (.slice t 0 s.T.length none) 3 s.T.length (tC s.T):=by obtain⟨o,h⟩:=H.ht;exact .inr ⟨t,o,rfl,P5 s,h⟩
theorem Tryz.HstC.hc(H:Tryz.HstC s p t q evs cs M):HcAt M (aR s p t q cs.length) s cs:=⟨_,_,_,rfl,H.rowP,H.rowT,H.evsAt⟩
end
theorem Nd(L:List P2):∀f,AV.refsOkL f (pC L)=true:=fun f=>by rw[PN];exact S0 f _
theorem zK:∀(f:Nat→Bool) (L:List Tr),AV.refsOkL f (tC L)=true
 |f,[]=>rfl
 |f,k::l=>by simp[tC,AV.refsOkL,AV.refsOk,zK f l]
def OkN(T:Nat) (new:Mem):Prop:=∀f:Nat→Bool,(∀b,b<T→f b=true)→new.all (fun x=>iI x&&x.refsOk f)=true
theorem OkN.of{T:Nat}{new:Mem}(h:∀x∈new,iI x=true∧x.refsOk (fun b=>decide (b<T))=true):OkN T new:=fun f hf=>List.all_eq_true.2 fun x hx=>by obtain⟨a,b⟩:=h x hx;rw[a,Bool.true_and];exact Slot.refsOk_mono (fun k hk=>hf k (of_decide_eq_true hk)) x b
def RefT(T:Nat) (vs:List AV):Prop:=∀f:Nat→Bool,(∀b,b<T→f b=true)→AV.refsOkL f vs=true
theorem RefT.of{T:Nat}{vs:List AV}(h:AV.refsOkL (fun b=>decide (b<T)) vs=true):RefT T vs:=fun f hf=>AV.refsOkL_mono (fun k hk=>hf k (of_decide_eq_true hk)) vs h
theorem Tryz.HstC.refs{s:Sheet}{p t q:Nat}{evs:List (List AV)}{cs:List Evc}{M:Mem}(H:Tryz.HstC s p t q evs cs M):RefT M.length (aR s p t q cs.length):=by
 refine .of ?_;have a:=H.rowP.refs 0;have b:=H.rowT.refs 0;have c:(evV q cs.length).refsOk (fun b=>decide (b<M.length))=true:=by
  unfold evV;split
  ·rfl
  ·rename_i h0
   obtain⟨o,h⟩:=H.hq (by rintro rfl;have:=H.len;simp at this;omega);have:=(List.getElem?_eq_some_iff.1 h).1;simp only[AV.refsOk,decide_eq_true_eq];exact this
 rw[Nat.add_zero] at a b;unfold aR;simp only[AV.refsOkL,a,b,c,By,Bool.and_self]
def qOf:AV→Nat
 |.slice kr _ _ _=>kr
 |_=>0
end Go.Proofs
namespace Go.Proofs
open Go.Eng
section
variable {s:Sheet}{p t q:Nat}{evs:List (List AV)}{cs:List Evc}{M:Mem}
end
structure Tryz.SrcEv (M:Mem) (v:AV) (evs:List (List AV)):Prop where
 s:∀Z,fc (aM Tryz.prog) (M++Z) 32 38 v=some (evs.length,evs.flatten)
 l:∀N,jw (aM Tryz.prog) 38 N v=some (.int .i64 evs.length)
theorem Tryz.SrcEv.of{M:Mem}{v:AV}{n:Nat}{evs:List (List AV)}(h:EvRow M v n evs.flatten) (hn:evs.length=n) (h32:∀e∈evs,e.length=32):Tryz.SrcEv M v evs where
 s:=by rw[hn];exact h.src (by rw[KO h32,hn])
 l:=fun N=>by rw[hn];exact EA h N
theorem Tryz.SrcEv.more{M:Mem}{v:AV}{evs:List (List AV)}(h:Tryz.SrcEv M v evs) (X:Mem):Tryz.SrcEv (M++X) v evs where
 s:=fun Z=>by rw[List.append_assoc];exact h.s _
 l:=h.l
end Go.Proofs
namespace Go.Proofs
open Go.Eng
section
variable {s:Sheet}{p t q:Nat}{evs:List (List AV)}{cs:List Evc}{M:Mem}
theorem Tryz.HstC.chk(H:Tryz.HstC s p t q evs cs M):ACallsTo Tryz.prog 35 [.agg (aR s p t q cs.length)] M (.int .i64 (bif tn [ba] (cs.map unE) then 9 else 0)) M:=by
 have:=B7 H.at
 rwa [H.len] at this
theorem Tryz.HstC.src(H:Tryz.HstC s p t q evs cs M):Tryz.SrcEv M (evV q cs.length) evs:=.of H.rowEv H.len H.l32
theorem Tryz.HstC.refE(H:Tryz.HstC s p t q evs cs M) (f:Nat→Bool) (hf:∀b,b<M.length→f b=true):(evV q cs.length).refsOk f=true:=by have:=H.refs f hf;simp only[aR,AV.refsOkL,Bool.and_eq_true] at this;exact this.2.2.2.1
end
end Go.Proofs
namespace Go.Proofs
open Go.Eng
end Go.Proofs
namespace Go.Proofs
open Go.Eng
theorem ot:∀{evs:List (List AV)}(k:Nat),(∀e∈evs,e.length=32)→evs.flatten.drop (k*32)=(evs.drop k).flatten
 | [],k,_=>by simp
 |e::l,0,_=>by simp
 |e::l,k+1,h=>by have h1:=h e (by simp);rw[List.flatten_cons,List.drop_succ_cons,←ot k (fun x hx=>h x (by simp[hx])),List.drop_append,List.drop_of_length_le (by omega),List.nil_append,show(k+1)*32-e.length=k*32 by omega]
section
variable {s:Sheet}{p t q:Nat}{evs:List (List AV)}{cs:List Evc}{M:Mem}
end
end Go.Proofs
namespace Go.Proofs
open Go.Eng
def gx(s:Sheet) (a:AV):AV:=.agg [.int .u8 s.kind,.int .i8 s.sx,.int .i8 s.sy,.bool s.half,a]
theorem Lv(s:Sheet) (a:AV) (n:Nat) (ha:a=.nilslice∧n=0∨a=.slice 0 0 n none) (M:Mem):ACallsTo Tryz.prog 8 [gx s a] M (.bool (decide (n≤3))) M:=by
 have hG:aL Tryz.prog 8=some Tryz.f8:=by kernel_rfl
 refine aZ (K:=1) (lv:=fun _=>[]) (ao _) ?_;rcases ha with⟨rfl,rfl⟩ | rfl
 ·simp[aa,hG,Tryz.f8,gx]
 ·simp[aa,hG,Tryz.f8,gx]
  omega
def zE:Nat→Code→Code
 |0,c=>c
 |n+1,.seq _ c=>zE n c
 |_+1,c=>c
def dG:Nat→Code→Code
 |0,.seq a _=>a
 |n+1,.seq _ c=>dG n c
 |_,c=>c
end Go.Proofs
