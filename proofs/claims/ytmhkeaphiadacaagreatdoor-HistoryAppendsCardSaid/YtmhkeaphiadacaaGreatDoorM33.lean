/- See M58. -/
import Derived.Test.YtmhkeaphiadacaaGreatDoorM31
import Derived.Test.YtmhkeaphiadacaaGreatDoorM32
import Derived.Test.YtmhkeaphiadacaaGreatDoorM11
import Derived.Test.YtmhkeaphiadacaaGreatDoorM24
import Derived.Test.YtmhkeaphiadacaaGreatDoorM09
set_option linter.all false
namespace Go.Proofs
open Go.Eng
def uE(a:Nat):AV×AV:=(.int .i64 (a:Int),.bool true)
def Qi(L:List Nat) (a:Nat):List Nat:=if a∈L then L else L++[a]
def QN(L:List Nat) (t:Tr):List Nat:=Qi (Qi (Qi L t.1) t.2.1) t.2.2
def G6(TS:List Tr):List Nat:=TS.foldl QN []
theorem OZ{α:Type}{l:List α}{i:Nat}{x:α}(h:l[i]? =some x):l.set i x=l:=by
 apply List.ext_getElem?
 intro j
 rw[List.getElem?_set]
 by_cases hij:i=j
 ·subst hij
  rw[if_pos rfl,if_pos (List.getElem?_eq_some_iff.1 h).1,h]
 ·rw[if_neg hij]
theorem sH(a:Nat):∀(L:List Nat) (i:Nat),(a∉L→gF (aA Tryz.prog) 3 (.int .i64 (a:Int)) (L.map uE) i=some none)∧(a∈L→∃q,gF (aA Tryz.prog) 3 (.int .i64 (a:Int)) (L.map uE) i=some (some (i+q,.bool true))∧L[q]? =some a)
 | [],i=>⟨fun _=>rfl,fun h=>by cases h⟩
 |b::L,i=>by
  have e:iD (aA Tryz.prog) 20 3 (.int .i64 (a:Int)) (.int .i64 (b:Int))=some (decide ((a:Int)=(b:Int))):=by simp[iD]
  simp only[List.map_cons,gF,uE,e]
  have ih:=sH a L (i+1)
  by_cases h:a=b
  ·subst h
   simp only[decide_true]
   exact⟨fun h=>absurd (List.mem_cons_self ..) h,fun _=>⟨0,rfl,rfl⟩⟩
  ·have h' :¬((a:Int)=(b:Int)):=by omega
   simp only[h',decide_false]
   refine⟨fun hn=>ih.1 (fun h2=>hn (List.mem_cons_of_mem _ h2)),fun hm=>?_⟩
   rcases List.mem_cons.1 hm with h2 | h2
   ·exact absurd h2 h
   ·obtain⟨q,q1,q2⟩:=ih.2 h2
    exact⟨q+1,by rw[q1,show i+1+q=i+(q+1) by omega],by simpa using q2⟩
theorem LJ(M:Mem) (b:Nat) (L:List Nat) (a:Nat) (hM:M[b]? =some (.map (L.map uE))):dy (aA Tryz.prog) M 202 (.map b) (.int .i64 (a:Int)) (.bool true)=some (M.set b (.map ((Qi L a).map uE))):=by
 have hk:jx (aA Tryz.prog) 20 3 (.int .i64 (a:Int))=true:=by simp[jx]
 unfold dy
 rw[GQ]
 simp only[hM,hk,if_true]
 by_cases h:a∈L
 ·obtain⟨q,q1,q2⟩:=(sH a L 0).2 h
  rw[q1]
  have:Qi L a=L:=if_pos h
  rw[this,Nat.zero_add]
  simp only[AV.scalarKey,if_true]
  rw[show((.int .i64 (a:Int),.bool true):AV×AV)=uE a from rfl,OZ (l:=L.map uE) (i:=q) (x:=uE a) (by rw[List.getElem?_map,q2];rfl)]
 ·rw[(sH a L 0).1 h]
  have:Qi L a=L++[a]:=if_neg h
  rw[this]
  simp[uE]
theorem Ia(n:Nat):∀L:List Nat,(L.map uE).flatMap (fun e=>e.1.refs n++e.2.refs n)=[]
 | []=>rfl
 |p::N=>by simp[uE,AV.refs,Ia n N]
theorem J2{TS:List Tr}{n:Nat}{t:Tr}(h:TS[n]? =some t):G6 (TS.take (n+1))=QN (G6 (TS.take n)) t:=by
 rw[List.take_add_one,h]
 simp[G6]
def qJ(PS:List P2) (TS:List Tr) (D:List (AV×AV)) (L:List Nat):Mem:=[.cells false 2 (pC PS),.cells false 3 (tC TS),msB PS.length TS.length,.map D,.map (L.map uE)]
def xe(c:Code):List Nat:=if (ab c).contains 23 then [23] else [28]
set_option maxRecDepth 8192 in
set_option maxHeartbeats 12800000 in
theorem ya{O:Oracle}{K:Nat}(PS:List P2) (TS:List Tr) (D:List (AV×AV)) (hl2:TS.length≤1000000000) (hD:D.flatMap (fun e=>e.1.refs 5++e.2.refs 5)=[]) (hK:TS.length<K+5) {b b2:Code}(hb:am Tryz.f77=[b,b2]):
  ∃F:Env→Bool→Env,∀env0 d,(ac env0 5=.map 4∧ac env0 21=.slice 1 0 TS.length none∧ac env0 22=.int .i64 TS.length∧ac env0 23=.int .i64 0∧ac env0 1=.ptr 2 0∧ac env0 3=.map 3)→
   aH (aA Tryz.prog) xe O (K+5) 55 2 true (.loop b) ⟨env0,qJ PS TS D [],d⟩=some (.exit 0,⟨F env0 d,qJ PS TS D (G6 TS),d⟩)∧ac (F env0 d) 1=.ptr 2 0∧ac (F env0 d) 3=.map 3∧ac (F env0 d) 5=.map 4:=by
 refine bo (L:=[23]) (by simp[am,aB,Tryz.f77] at hb;rw[←hb.1];rfl) (fun env0=>ac env0 5=.map 4∧ac env0 21=.slice 1 0 TS.length none∧ac env0 22=.int .i64 TS.length∧ac env0 23=.int .i64 0∧ac env0 1=.ptr 2 0∧ac env0 3=.map 3) (fun _ env' =>ac env' 1=.ptr 2 0∧ac env' 3=.map 3∧ac env' 5=.map 4) ?_
 rintro env0 d ⟨h5,h21,h22,h23,h1,h3⟩
 simp[am,aB,Tryz.f77] at hb
 obtain⟨hb,-⟩:=hb
 have hn0:aw [23] (ab b) env0 ((23,.int .i64 ((0:Nat):Int))::env0)=aw [23] (ab b) env0 env0:=by simp[aw,h23]
 rw[←hn0]
 refine bD (α:=Nat) (fun n=>⟨aw [23] (ab b) env0 ((23,.int .i64 (n:Int))::env0),qJ PS TS D (G6 (TS.take n)),d⟩) (fun n=>TS.length-n) (fun n=>n≤TS.length) (.exit 0) _ d _ (by simp) ?_ (K+5) 0 (by omega) (by omega)
 intro n hn1
 clear hn0
 subst hb
 by_cases hlt:n<TS.length
 ·left
  obtain⟨t,ht⟩:∃q,TS[n]? =some q:=⟨TS[n],List.getElem?_eq_getElem hlt⟩
  obtain⟨k1,k2⟩:=PH ht
  have hU:=J2 ht
  obtain⟨i1,i2,i3⟩:=t
  simp only[QN] at k1 hU
  have w1:IntKind.i64.wrap ((n:Int)+1)=((n+1:Nat):Int):=by rw[ai (by omega) (by omega)];omega
  obtain⟨m,hm⟩:∃m,m=n+1:=⟨_,rfl⟩
  rw[←hm] at w1 hU
  obtain⟨L,hL⟩:∃L,L=G6 (TS.take n):=⟨_,rfl⟩
  rw[←hL] at hU
  rw[←hL]
  have v1:IntKind.i64.wrap 1=1:=rfl
  have v2:IntKind.i64.wrap 2=2:=rfl
  have v3:IntKind.i64.wrap 3=3:=rfl
  have v2' :IntKind.i64.wrap (1+1)=2:=rfl
  have v3' :IntKind.i64.wrap (2+1)=3:=rfl
  have u:∀(L' :List Nat) (a:Nat),dy (aA Tryz.prog) [.cells false 2 (pC PS),.cells false 3 (tC TS),.cells true 0 [.slice 0 0 PS.length none,.slice 1 0 TS.length none],.map D,.map (L'.map uE),.cells true 0 [.int .i64 (i1:Int),.int .i64 (i2:Int),.int .i64 (i3:Int)]] 202 (.map 4) (.int .i64 (a:Int)) (.bool true)=
    some [.cells false 2 (pC PS),.cells false 3 (tC TS),.cells true 0 [.slice 0 0 PS.length none,.slice 1 0 TS.length none],.map D,.map ((Qi L' a).map uE),.cells true 0 [.int .i64 (i1:Int),.int .i64 (i2:Int),.int .i64 (i3:Int)]]:=fun L' a=>LJ _ 4 L' a rfl
  refine⟨m,?_⟩
  simp[qJ,h5,h21,h22,hlt,k1,k2,ay,dN,v1,v2,v3,v2',v3',xe,u,hD,hU,msB,cu,cJ,Ia,w1]
  omega
 ·right
  have e:TS.take n=TS:=List.take_of_length_le (by omega)
  rw[e]
  have hlt' :¬(n:Int)<TS.length:=by omega
  simp[h22,h1,h3,h5,hlt]
theorem P4(f:Nat→Option Nat) (sds:List Sd):(sds.map sdE).map (fun e=>(e.1.ren f,e.2.ren f))=sds.map sdE:=by
 rw[List.map_map]
 exact List.map_congr_left fun s _=>IG f s
theorem N8(f:Nat→Option Nat) (sds:List Sd):sds.map ((fun(e:AV×AV)=>(e.1.ren f,e.2.ren f))∘sdE)=sds.map sdE:=
 List.map_congr_left fun s _=>IG f s
def xS(PS:List P2) (TS:List Tr) (sds:List Sd):Prop:=
 ACallsTo Tryz.prog 106 [.agg [.slice 0 0 PS.length none,.slice 1 0 TS.length none]] [.absent,.cells false 3 (tC TS)] (.tuple [.map 2,.bool true]) ([.absent,.cells false 3 (tC TS)]++[.map (sds.map sdE)])
structure Tryz.Whole (PS:List P2) (TS:List Tr) (sds:List Sd) (cyc:List Nat):Prop where
 dg:∀p∈PS,pDg 2 p
 nodup:PS.Nodup
 owns:xS PS TS sds
 outer:qo sds=true
 cy:yp (pz sds)=some (cyc.map fun(n:Nat)=>(n:Int))
 used:(G6 TS).length=PS.length
 once:Mw PS cyc
 tr:∀t∈TS,QV PS t
 len:PS.length≤400
 len0:TS≠[]
 len2:TS.length≤800
 len3:cyc.length≤1000000
open Classical in
noncomputable def rI(PS:List P2) (TS:List Tr) (sds:List Sd) (cyc:List Nat):Oracle:=fun c args M=>match c,args with
 |.fn 106,[.agg [.slice b 0 n none,.slice c 0 k none]]=>if n=PS.length∧k=TS.length∧b<M.length∧(∃o,M[c]? =some (.cells o 3 (tC TS))) then some ⟨.tuple [.map M.length,.bool true],none,[.map (sds.map sdE)]⟩ else none
 |.fn 107,[.agg [.slice b 0 _ none,.slice c 0 _ none],.map q]=>if b<M.length∧c<M.length∧Ks M q=some (sds.map sdE) then some ⟨.tuple [.slice M.length 0 cyc.length none,.bool true],none,[.cells true 1 (cZ cyc)]⟩ else none
 |.fn 108,[.agg [.slice b 0 n none,.slice c 0 _ none],.slice q 0 l none]=>if n=PS.length∧l=cyc.length∧c<M.length∧(∃o,M[b]? =some (.cells o 2 (pC PS)))∧(∃o,M[q]? =some (.cells o 1 (cZ cyc))) then some ⟨.bool true,none,[]⟩ else none
 |_,_=>none
theorem GB:∀cyc:List Nat,AV.closeds (cZ cyc)=true
 | []=>rfl
 |c::l=>by
  have:=GB l
  simp only[cZ] at this
  simp[cZ,AV.closeds,AV.closed,this]
theorem QW(cyc:List Nat):iZ (cyc.map fun(n:Nat)=>(n:Int))=cZ cyc:=by
 simp[iZ,cZ]
theorem n9{M:Mem}{b:Nat}{s:Slot}(h:M[b]? =some s):b<M.length:=(List.getElem?_eq_some_iff.1 h).1
theorem Iv{PS:List P2}{TS:List Tr}{sds:List Sd}{cyc:List Nat}(hw:Tryz.Whole PS TS sds cyc):OracleOk Tryz.prog (rI PS TS sds cyc):=by
 refine cH fun c args M r h=>?_
 unfold rI at h
 split at h
 ·rename_i b n c k
  split at h
  ·rename_i hc
   obtain⟨rfl,rfl,hb,o,hM⟩:=hc
   cases h
   refine au ?_
   have:=ACallsTo.frame (M:=M) (new:=[.map (sds.map sdE)]) [b,c] (m:=[.absent,.cells false 3 (tC TS)]) rfl (by
    intro k hk
    simp only[List.mem_cons,List.not_mem_nil,or_false] at hk
    rcases hk with rfl | rfl
    ·exact hb
    ·exact n9 hM) (by rfl) (fun i s hs=>by
    match i with
    |0=>simp at hs;subst hs;trivial
    |1=>simp at hs;subst hs;exact bf (dB TS) hM (List.take_length)
    |i+2=>simp at hs) rfl hw.owns
   simpa [AV.rens,AV.ren,cR,Slot.ren,P4,N8] using this
  ·cases h
 ·rename_i b n c k q
  split at h
  ·rename_i hc
   obtain⟨hb,hb2,hM⟩:=hc
   cases h
   refine au ?_
   have:=uH M sds (cyc.map fun(n:Nat)=>(n:Int)) q b c n k hb hb2 hM hw.outer hw.cy
   rw[QW,List.length_map] at this
   exact this
  ·cases h
 ·rename_i b n c k q l
  split at h
  ·rename_i hc
   obtain⟨rfl,rfl,hb2,⟨o,hM⟩,⟨o2,hM2⟩⟩:=hc
   cases h
   refine au ?_
   have:=ACallsTo.frame (M:=M) (new:=[]) (args:=[.agg [.slice 0 0 PS.length none,.slice 1 0 k none],.slice 2 0 cyc.length none]) [b,c,q] (m:=[.cells false 2 (pC PS),.absent,.cells false 1 (cZ cyc)]) rfl (by
    intro k hk
    simp only[List.mem_cons,List.not_mem_nil,or_false] at hk
    rcases hk with rfl | rfl | rfl
    ·exact n9 hM
    ·exact hb2
    ·exact n9 hM2) (by rfl) (fun i s hs=>by
    match i with
    |0=>simp at hs;subst hs;exact bf (dq PS) hM (List.take_length)
    |1=>simp at hs;subst hs;trivial
    |2=>simp at hs;subst hs;exact bf (GB cyc) hM2 (List.take_length)
    |i+3=>simp at hs) rfl (by simpa using IQ PS k cyc hw.dg hw.once hw.len3)
   simpa [AV.rens,AV.ren,cR] using this
  ·cases h
 ·cases h
set_option maxRecDepth 8192 in
set_option maxHeartbeats 6400000 in
theorem Ew{PS:List P2}{TS:List Tr}{sds:List Sd}{cyc:List Nat}(hw:Tryz.Whole PS TS sds cyc):
  ACallsTo Tryz.prog 77 [.agg [.slice 0 0 PS.length none,.slice 1 0 TS.length none]] [.cells false 2 (pC PS),.cells false 3 (tC TS)] (.bool true) [.cells false 2 (pC PS),.cells false 3 (tC TS)]:=by
 have hG:aF Tryz.prog 77=some Tryz.f77:=by kernel_rfl
 have hl:=hw.len
 have hl2:=hw.len2
 obtain⟨b,b2,hb⟩:∃b b2,am Tryz.f77=[b,b2]:=⟨_,_,rfl⟩
 obtain⟨K,hK⟩:∃K,K=TS.length:=⟨_,rfl⟩
 obtain⟨F,hF⟩:=ya (O:=rI PS TS sds cyc) (K:=K) PS TS (sds.map sdE) (by omega) (jC 5 sds) (by omega) hb
 simp[am,aB,Tryz.f77] at hb
 obtain⟨rfl,rfl⟩:=hb
 have hF1:=fun env0 d h=>(hF env0 d h).1
 have hG1:=fun env0 d h=>(hF env0 d h).2.1
 have hG3:=fun env0 d h=>(hF env0 d h).2.2.1
 have hG5:=fun env0 d h=>(hF env0 d h).2.2.2
 clear hF
 have hu:=hw.used
 have h:ad (aA Tryz.prog) xe (aF Tryz.prog) (rI PS TS sds cyc) (K+5) 77 [.agg [.slice 0 0 PS.length none,.slice 1 0 TS.length none]] [.cells false 2 (pC PS),.cells false 3 (tC TS)]=some ⟨.bool true,none,[]⟩:=by
  simp only[qJ,List.map_nil,msB] at hF1
  simp[ad,hG,Tryz.f77,hF1,hG1,hG3,hG5,rI,Ks,hu,jC,Ia,cu,cJ,B6]
 have:=(ae aa (aj _) (Iv hw) (al _) h).1
 simpa [CallRes.mem] using this
theorem IS{PS:List P2}{TS:List Tr}{sds:List Sd}{cyc:List Nat}(hw:Tryz.Whole PS TS sds cyc):OracleOk Tryz.prog (jX PS TS):=by
 refine cH fun c args M r h=>?_
 unfold jX at h
 split at h
 ·rename_i b n c k
  split at h
  ·rename_i hc
   obtain⟨rfl,rfl,⟨o,hM⟩,⟨o2,hM2⟩⟩:=hc
   cases h
   refine au ?_
   have:=ACallsTo.frame (M:=M) (new:=[]) (args:=[.agg [.slice 0 0 PS.length none,.slice 1 0 TS.length none]]) [b,c] (m:=[.cells false 2 (pC PS),.cells false 3 (tC TS)]) rfl (by
    intro k hk
    simp only[List.mem_cons,List.not_mem_nil,or_false] at hk
    rcases hk with rfl | rfl
    ·exact n9 hM
    ·exact n9 hM2) (by rfl) (fun i s hs=>by
    match i with
    |0=>simp at hs;subst hs;exact bf (dq PS) hM (List.take_length)
    |1=>simp at hs;subst hs;exact bf (dB TS) hM2 (List.take_length)
    |i+2=>simp at hs) rfl (by simpa using Ew hw)
   simpa [AV.rens,AV.ren,cR] using this
  ·cases h
 ·exact gJ xn h
set_option maxRecDepth 8192 in
set_option maxHeartbeats 6400000 in
theorem Bh{PS:List P2}{TS:List Tr}{sds:List Sd}{cyc:List Nat}(hw:Tryz.Whole PS TS sds cyc):
  ACallsTo Tryz.prog 41 [.agg [.slice 0 0 PS.length none,.slice 1 0 TS.length none]] [.cells false 2 (pC PS),.cells false 3 (tC TS)] (.int .i64 0) [.cells false 2 (pC PS),.cells false 3 (tC TS)]:=by
 have hG:aF Tryz.prog 41=some Tryz.f41:=by kernel_rfl
 have hl:=hw.len
 have hl2:=hw.len2
 have hl0:0<TS.length:=by have:=hw.len0;cases TS with | nil=>exact absurd rfl this | cons a l=>simp
 obtain⟨b1,b2,b3,b4,b5,hb⟩:∃b1 b2 b3 b4 b5,am Tryz.f41=[b1,b2,b3,b4,b5]:=⟨_,_,_,_,_,rfl⟩
 obtain⟨K,hK⟩:∃K,K=PS.length+TS.length:=⟨_,rfl⟩
 obtain⟨F,hF⟩:=tg (K:=K+5) PS TS hw.dg hw.nodup (by omega) (by omega) hb
 obtain⟨F2,hF2⟩:=tq (K:=K) PS TS (PS.map pmE) hw.dg hw.tr (by omega) (by omega) (vP 4 PS) (by omega) hb
 simp[am,aB,Tryz.f41] at hb
 obtain⟨rfl,rfl,rfl,rfl,rfl⟩:=hb
 have hF1:=fun env0 d h=>(hF env0 d h).1
 have hF3:=fun env0 d h=>(hF2 env0 d h).1
 have hG1:=fun env0 d h=>(hF env0 d h).2
 have hG3:=fun env0 d h=>(hF2 env0 d h).2
 clear hF hF2
 have n1:¬(800:Int)<TS.length:=by omega
 have n2:¬(400:Int)<PS.length:=by omega
 have n3:¬800<TS.length:=by omega
 have n4:¬400<PS.length:=by omega
 have n5:¬TS.length=0:=by omega
 have n6:¬(TS.length:Int)=0:=by omega
 have h:ad (aA Tryz.prog) sb (aF Tryz.prog) (jX PS TS) (K+5) 41 [.agg [.slice 0 0 PS.length none,.slice 1 0 TS.length none]] [.cells false 2 (pC PS),.cells false 3 (tC TS)]=some ⟨.int .i64 0,none,[]⟩:=by
  simp only[msB] at hF1 hF3
  simp[ad,hG,Tryz.f41,hF1,hF3,hG1,hG3,jX,n1,n2,n3,n4,n5,n6,vP,cu,cJ]
 have:=(ae aa (aj _) (IS hw) (al _) h).1
 simpa [CallRes.mem] using this
noncomputable def Ba(f:FuncId) (args:List AV):Option AV:=
 match f,args with
 |91,[.int .i64 n,.int .i64 d]=>if (d=1∨d=2)∧ -7≤n∧n≤13 then some (.tuple [.str (aK (mkRat n d.toNat)),.int .i64 0]) else none
 |_,_=>none
theorem Ku:OracleOk Tryz.prog (ao Ba):=bI fun f args v h mem=>by
 unfold Ba at h
 split at h
 ·rename_i n d
  split at h
  ·rename_i hc
   cases h
   have:=MR n d.toNat (by omega) hc.2.1 hc.2.2 mem
   rw[Int.toNat_of_nonneg (by omega)] at this
   exact this
  ·cases h
 ·cases h
theorem iU{n:Int}(h0: -1000000≤n) (h1:n≤1000000):IntKind.i64.wrap n=n:=by rw[ai (by omega) (by omega)]
set_option maxHeartbeats 1600000 in
theorem FX(s:Sheet) (hs:s.Ok) (x y:Int) (hx0:0≤x) (hx1:x≤6) (hy0:0≤y) (hy1:y≤6) (M:Mem):
  ACallsTo Tryz.prog 62 [s.av,.agg [.int .i8 x,.int .i8 y],.int .i64 1] M (pA (s.pt 1 x y)) M:=by
 have hG:aF Tryz.prog 62=some Tryz.f62:=by kernel_rfl
 obtain⟨kd,sx,sy,hf⟩:=s
 have q1:=NE sx
 have q2:=NE sy
 unfold Sheet.av Sheet.pt
 simp only
 obtain⟨u,hu⟩:∃u,u=sx.tmod 8:=⟨_,rfl⟩
 obtain⟨v,hv⟩:∃u,u=sy.tmod 8:=⟨_,rfl⟩
 rw[←hu] at q1 ⊢
 rw[←hv] at q2 ⊢
 refine aq Ku (lv:=fun _=>[]) (K:=1) rfl rfl ?_ M
 have wx:IntKind.i64.wrap x=x:=iU (by omega) (by omega)
 have wy:IntKind.i64.wrap y=y:=iU (by omega) (by omega)
 have wu:IntKind.i64.wrap u=u:=iU (by omega) (by omega)
 have wv:IntKind.i64.wrap v=v:=iU (by omega) (by omega)
 have a1:IntKind.i64.wrap (x+u)=x+u:=iU (by omega) (by omega)
 have a2:IntKind.i64.wrap (y+v)=y+v:=iU (by omega) (by omega)
 have b1:IntKind.i64.wrap 1=1:=rfl
 have b2:IntKind.i64.wrap 2=2:=rfl
 have f1: -7≤x+u:=by omega
 have g1:x+u≤13:=by omega
 have f2: -7≤y+v:=by omega
 have g2:y+v≤13:=by omega
 cases hf<;>simp[ad,hG,Tryz.f62,ao,Ba,←hu,←hv,wx,wy,wu,wv,a1,a2,b1,b2,f1,f2,g1,g2,bH,ax,pA]
theorem Bd(k:Nat) (hk:k<256):ACallsTo Tryz.prog 61 [.int .u8 (k:Int)] [] (.tuple [.slice 0 0 (cN (k%8)).length none,.slice 1 0 (aV (k%8)).length none]) [.cells true 2 (iP (cN (k%8))),.cells true 3 (tC (aV (k%8)))]:=by
 have hG:aF Tryz.prog 61=some Tryz.f61:=by kernel_rfl
 have ht:(k:Int).tmod 8=((k%8:Nat):Int):=rfl
 have hlt:k%8<8:=Nat.mod_lt _ (by omega)
 obtain⟨j,hj⟩:∃j,j=k%8:=⟨_,rfl⟩
 rw[←hj] at ht hlt ⊢
 have h:ad (aA Tryz.prog) (fun _=>[]) (aF Tryz.prog) aD 1 61 [.int .u8 (k:Int)] []=some ⟨.tuple [.slice 0 0 (cN j).length none,.slice 1 0 (aV j).length none],none,[.cells true 2 (iP (cN j)),.cells true 3 (tC (aV j))]⟩:=by
  have hjj:j=0∨j=1∨j=2∨j=3∨j=4∨j=5∨j=6∨j=7:=by omega
  clear hlt hj
  rcases hjj with rfl | rfl | rfl | rfl | rfl | rfl | rfl | rfl<;>simp[ad,hG,Tryz.f61,ht,cN,aV,sqI,iP,tC,bH,ax]<;>exact⟨rfl,rfl⟩
 have:=(ae aa (aj _) (af _) (al _) h).1
 simpa [CallRes.mem] using this
theorem D6(k:Nat) (hk:k<256) (M:Mem):ACallsTo Tryz.prog 61 [.int .u8 (k:Int)] M (.tuple [.slice M.length 0 (cN (k%8)).length none,.slice (M.length+1) 0 (aV (k%8)).length none]) (M++[.cells true 2 (iP (cN (k%8))),.cells true 3 (tC (aV (k%8)))]):=by
 have:=ACallsTo.frame (M:=M) (new:=[.cells true 2 (iP (cN (k%8))),.cells true 3 (tC (aV (k%8)))]) (args:=[.int .u8 (k:Int)]) [] (m:=[]) rfl (by simp) (by rfl) (fun i s hs=>by simp at hs) rfl (Bd k hk)
 simpa [AV.ren,AV.rens,cR,Slot.ren,Jo,gv] using this
noncomputable def lY(s:Sheet):Oracle:=fun c args M=>match c,args with
 |.fn 61,[.int .u8 k]=>if k=(s.kind:Int) then some ⟨.tuple [.slice M.length 0 (cN (s.kind%8)).length none,.slice (M.length+1) 0 (aV (s.kind%8)).length none],none,[.cells true 2 (iP (cN (s.kind%8))),.cells true 3 (tC (aV (s.kind%8)))]⟩ else none
 |.fn 62,[.agg [.int .u8 k,.int .i8 sx,.int .i8 sy,.bool h],.agg [.int .i8 x,.int .i8 y],.int .i64 n]=>if k=(s.kind:Int)∧sx=s.sx∧sy=s.sy∧h=s.half∧0≤x∧x≤6∧0≤y∧y≤6∧n=1 then some ⟨pA (s.pt 1 x y),none,[]⟩ else none
 |_,_=>none
theorem HV(s:Sheet) (hs:s.Ok):OracleOk Tryz.prog (lY s):=by
 refine cH fun c args M r h=>?_
 unfold lY at h
 split at h
 ·split at h
  ·rename_i hc
   subst hc
   cases h
   exact au (D6 s.kind hs.kind M)
  ·cases h
 ·split at h
  ·rename_i hc
   obtain⟨rfl,rfl,rfl,rfl,h1,h2,h3,h4,rfl⟩:=hc
   cases h
   refine au ?_
   rw[List.append_nil]
   exact FX s hs _ _ h1 h2 h3 h4 M
  ·cases h
 ·cases h
def LX(L:List (Int×Int)):Prop:=∀p∈L,0≤p.1∧p.1≤6∧0≤p.2∧p.2≤6
theorem Fn(k:Nat) (hk:k<8):LX (cN k):=by
 have hjj:k=0∨k=1∨k=2∨k=3∨k=4∨k=5∨k=6∨k=7:=by omega
 rcases hjj with rfl | rfl | rfl | rfl | rfl | rfl | rfl | rfl<;>(unfold LX;decide)
def QF(n:Nat):AV:=match n with
 |0=>.nilslice
 |n+1=>.slice 5 0 (n+1) none
def HJ(s:Sheet) (SP:List (Int×Int)) (TS:List Tr) (n:Nat):Mem:=
 [.cells true 0 [.int .u8 s.kind,.int .i8 s.sx,.int .i8 s.sy,.bool s.half],.cells true 0 [.nilslice,.nilslice],.cells true 2 (iP SP),.cells true 3 (tC TS),.cells true 0 [QF n,.slice 3 0 TS.length none]]++
  (match n with
  |0=>[]
  |n+1=>[.cells true 2 (pC ((SP.take (n+1)).map fun p=>s.pt 1 p.1 p.2))])
theorem vW{s:Sheet}{SP:List (Int×Int)}{TS:List Tr}{n:Nat}(h:0<n):HJ s SP TS n=
  [.cells true 0 [.int .u8 s.kind,.int .i8 s.sx,.int .i8 s.sy,.bool s.half],.cells true 0 [.nilslice,.nilslice],.cells true 2 (iP SP),.cells true 3 (tC TS),.cells true 0 [.slice 5 0 n none,.slice 3 0 TS.length none],.cells true 2 (pC ((SP.take n).map fun p=>s.pt 1 p.1 p.2))]:=by
 cases n with
 |zero=>omega
 |succ n=>rfl
set_option maxRecDepth 8192 in
set_option maxHeartbeats 12800000 in
theorem xO{K:Nat}(s:Sheet) (SP:List (Int×Int)) (TS:List Tr) (hsm:LX SP) (hl:SP.length≤1000000) (hK:SP.length<K) {b:Code}(hb:am Tryz.f33=[b]):
  ∃F:Env→Env,∀env0,(ac env0 1=.ptr 0 0∧ac env0 3=.slice 2 0 SP.length none∧ac env0 5=.ptr 4 0∧ac env0 6=.int .i64 0∧ac env0 2=.ptr 1 0)→
   aH (aA Tryz.prog) (fun _=>[6,6]) (lY s) K 42 0 true (.loop b) ⟨env0,HJ s SP TS 0,false⟩=some (.exit 0,⟨F env0,HJ s SP TS SP.length,decide (0<SP.length)⟩)∧ac (F env0) 5=.ptr 4 0∧ac (F env0) 2=.ptr 1 0:=by
 refine qq (L:=[6,6]) rfl false _ (fun env0=>ac env0 1=.ptr 0 0∧ac env0 3=.slice 2 0 SP.length none∧ac env0 5=.ptr 4 0∧ac env0 6=.int .i64 0∧ac env0 2=.ptr 1 0) (fun _ env' =>ac env' 5=.ptr 4 0∧ac env' 2=.ptr 1 0) ?_
 rintro env0 ⟨h1,h3,h5,h6,h2⟩
 obtain⟨ops,hops⟩:∃ops,aE Tryz.f33=[ops]:=⟨_,rfl⟩
 have hbs:=kX hops (l:=[0,1,0,0,0,24,56,120,248,0,0,1536,3584,7680,15872,32760,65532,131068,262143,524287,1048575]) (by kernel_rfl)
 have k17:eY [0,1,0,0,0,24,56,120,248,0,0,1536,3584,7680,15872,32760,65532,131068,262143,524287,1048575] 21 17=true:=by decide
 have k18:eY [0,1,0,0,0,24,56,120,248,0,0,1536,3584,7680,15872,32760,65532,131068,262143,524287,1048575] 21 18=true:=by decide
 have k20:eY [0,1,0,0,0,24,56,120,248,0,0,1536,3584,7680,15872,32760,65532,131068,262143,524287,1048575] 21 20=true:=by decide
 have j18:aN [0,1,0,0,0,24,56,120,248,0,0,1536,3584,7680,15872,32760,65532,131068,262143,524287,1048575] 18=true:=by decide
 have j20:aN [0,1,0,0,0,24,56,120,248,0,0,1536,3584,7680,15872,32760,65532,131068,262143,524287,1048575] 20=true:=by decide
 simp[aE,bw,Tryz.f33] at hops
 simp[am,aB,Tryz.f33] at hb
 have hn0:aw [6,6] (ab b) env0 ((6,.int .i64 ((0:Nat):Int))::env0)=aw [6,6] (ab b) env0 env0:=by simp[aw,h6]
 rw[←hn0]
 refine bD (α:=Nat) (fun n=>⟨aw [6,6] (ab b) env0 ((6,.int .i64 (n:Int))::env0),HJ s SP TS n,decide (0<n)⟩) (fun n=>SP.length-n) (fun n=>n≤SP.length) (.exit 0) _ _ _ (by simp) ?_ K 0 (by omega) (by omega)
 intro n hn1
 clear hn0
 subst hb
 subst hops
 by_cases hlt:n<SP.length
 ·left
  obtain⟨p,hp⟩:∃q,SP[n]? =some q:=⟨SP[n],List.getElem?_eq_getElem hlt⟩
  obtain⟨q1,q2,q3⟩:=QU hp
  obtain⟨x0,x1,y0,y1⟩:=hsm p (List.mem_of_getElem? hp)
  obtain⟨px,py⟩:=p
  simp only at q1 q2 x0 x1 y0 y1
  have ht:(SP.take (n+1)).map (fun p=>s.pt 1 p.1 p.2)=(SP.take n).map (fun p=>s.pt 1 p.1 p.2)++[s.pt 1 px py]:=by rw[List.take_add_one,hp];simp
  have v1:IntKind.i8.wrap px=px:=Mh (by omega) (by omega)
  have v2:IntKind.i8.wrap py=py:=Mh (by omega) (by omega)
  have c1:0≤px:=by omega
  have c2:px≤6:=by omega
  have c3:0≤py:=by omega
  have c4:py≤6:=by omega
  have w1:IntKind.i64.wrap ((n:Int)+1)=((n+1:Nat):Int):=by rw[ai (by omega) (by omega)];omega
  obtain⟨P,hP⟩:∃P,P=(SP.take n).map (fun p=>s.pt 1 p.1 p.2):=⟨_,rfl⟩
  have hPl:P.length=n:=by rw[hP,List.length_map,List.length_take];omega
  obtain⟨z,hz⟩:∃z,z=s.pt 1 px py:=⟨_,rfl⟩
  rw[←hP,←hz] at ht
  have hpc:pC (P++[z])=pC P++[.str (aK z.1),.str (aK z.2)]:=by rw[ye];rfl
  have hpl:=qI P
  rw[hPl] at hpl
  obtain⟨m,hm⟩:∃m,m=n+1:=⟨_,rfl⟩
  refine⟨m,?_⟩
  by_cases hn0:n=0
  ·subst hn0
   have hm1:m=1:=by omega
   subst hm1
   have hP0:P=[]:=List.eq_nil_of_length_eq_zero hPl
   rw[hP0] at ht hpc
   simp at ht hpc
   have w0:IntKind.i64.wrap 1=1:=rfl
   simp[HJ,QF,h1,h3,h5,hlt,q1,q2,v1,v2,c1,c2,c3,c4,w0,lY,←hz,pA,-aC,eg hbs,fP,kx,rF,bV,k17,k18,k20,j18,j20,ht,hpc,Ce,cJ,Jo,gv,Qx,bH,Nat.testBit]
   omega
  ·have hpos:0<n:=by omega
   rw[←hm] at w1 ht
   have hmp:0<m:=by omega
   have hd1:decide (0<n)=true:=by simpa using hpos
   rw[vW hpos,vW hmp,hd1,←hP,ht,hpc]
   clear hP ht hpc
   have g1:m*32≤140737488355328:=by omega
   have g2:n≤140737488355327:=by omega
   have g5:(HJ s SP TS 0).length=5:=rfl
   have g4:m≤140737488355328:=by omega
   have g3:(pC P).take (n*2)=pC P:=List.take_of_length_le (by omega)
   simp[h1,h3,h5,hlt,q1,q2,v1,v2,c1,c2,c3,c4,w1,lY,←hz,pA,-aC,eg hbs,fP,kx,rF,bV,k17,k18,k20,j18,j20,hpl,hmp,←hm,g1,g2,g4,g3,g5,nO,Ce,cJ,cu,Jo,gv,dX,bH,Nat.testBit]
   omega
 ·right
  have e:n=SP.length:=by omega
  subst e
  simp[h3,h5,h2,hlt]
theorem J4(k:Nat):0<(cN k).length:=by
 unfold cN
 split<;>simp[sqI]
theorem Ap(k:Nat):(cN k).length≤6:=by
 unfold cN
 split<;>simp[sqI]
theorem Sheet.P_length(s:Sheet):s.P.length=(cN (s.kind%8)).length:=by simp[Sheet.P]
set_option maxRecDepth 8192 in
set_option maxHeartbeats 6400000 in
theorem Ec(s:Sheet) (hs:s.Ok):ACallsTo Tryz.prog 33 [s.av] [] (.agg [.slice 0 0 s.P.length none,.slice 1 0 s.T.length none]) [.cells true 2 (pC s.P),.cells true 3 (tC s.T)]:=by
 have hG:aF Tryz.prog 33=some Tryz.f33:=by kernel_rfl
 have hpos:=J4 (s.kind%8)
 have hle:=Ap (s.kind%8)
 obtain⟨b,hb⟩:∃b,am Tryz.f33=[b]:=⟨_,rfl⟩
 obtain⟨F,hF⟩:=xO (K:=10) s (cN (s.kind%8)) (aV (s.kind%8)) (Fn _ (Nat.mod_lt _ (by omega))) (by omega) (by omega) hb
 simp[am,aB,Tryz.f33] at hb
 subst hb
 have hd:decide (0<(cN (s.kind%8)).length)=true:=by simpa using hpos
 rw[vW hpos,hd,List.take_length] at hF
 have hF1:=fun env0 h=>(hF env0 h).1
 have hG1:=fun env0 h=>(hF env0 h).2.1
 have hG2:=fun env0 h=>(hF env0 h).2.2
 clear hF
 have hm0:HJ s (cN (s.kind%8)) (aV (s.kind%8)) 0=[.cells true 0 [.int .u8 s.kind,.int .i8 s.sx,.int .i8 s.sy,.bool s.half],.cells true 0 [.nilslice,.nilslice],.cells true 2 (iP (cN (s.kind%8))),.cells true 3 (tC (aV (s.kind%8))),.cells true 0 [.nilslice,.slice 3 0 (aV (s.kind%8)).length none]]:=rfl
 rw[hm0] at hF1
 rw[Sheet.P_length]
 unfold Sheet.P Sheet.T
 obtain⟨SP,hSP⟩:∃SP,SP=cN (s.kind%8):=⟨_,rfl⟩
 obtain⟨ST,hST⟩:∃SP,SP=aV (s.kind%8):=⟨_,rfl⟩
 rw[←hSP,←hST] at hF1
 rw[←hSP] at hG1 hG2
 rw[←hSP,←hST]
 have h:ad (aA Tryz.prog) (fun _=>[6,6]) (aF Tryz.prog) (lY s) 10 33 [s.av] []=some ⟨.agg [.slice 0 0 SP.length none,.slice 1 0 ST.length none],some [],[.cells true 2 (pC (SP.map fun p=>s.pt 1 p.1 p.2)),.cells true 3 (tC ST)]⟩:=by
  simp[ad,hG,Tryz.f33,Sheet.av,hF1,hG1,hG2,lY,←hSP,←hST,Ce,cJ,cu,Jo,gv,dX,bH,ax]
  exact⟨rfl,rfl⟩
 have:=(ae aa (aj _) (HV s hs) (al _) h).1
 simpa [CallRes.mem] using this
theorem Is(s:Sheet) (hs:s.Ok) (M:Mem):ACallsTo Tryz.prog 33 [s.av] M (.agg [.slice M.length 0 s.P.length none,.slice (M.length+1) 0 s.T.length none]) (M++[.cells true 2 (pC s.P),.cells true 3 (tC s.T)]):=by
 have:=ACallsTo.frame (M:=M) (new:=[.cells true 2 (pC s.P),.cells true 3 (tC s.T)]) (args:=[s.av]) [] (m:=[]) rfl (by simp) (by rfl) (fun i s hs=>by simp at hs) rfl (Ec s hs)
 simpa [AV.ren,AV.rens,cR,Slot.ren,dX,gv,Sheet.av] using this
end Go.Proofs
