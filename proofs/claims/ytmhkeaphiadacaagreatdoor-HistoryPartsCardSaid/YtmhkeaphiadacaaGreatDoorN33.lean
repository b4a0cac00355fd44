/- See N58. -/
import Derived.Test.YtmhkeaphiadacaaGreatDoorN31
import Derived.Test.YtmhkeaphiadacaaGreatDoorN32
import Derived.Test.YtmhkeaphiadacaaGreatDoorN11
import Derived.Test.YtmhkeaphiadacaaGreatDoorN24
import Derived.Test.YtmhkeaphiadacaaGreatDoorN09
set_option linter.all false
namespace Go.Proofs
open Go.Eng
def uE(a:Nat):AV×AV:=(.int .i64 (a:Int),.bool true)
def QO(L:List Nat) (a:Nat):List Nat:=if a∈L then L else L++[a]
def Rs(L:List Nat) (t:Tr):List Nat:=QO (QO (QO L t.1) t.2.1) t.2.2
def HE(TS:List Tr):List Nat:=TS.foldl Rs []
theorem PH{α:Type}{l:List α}{i:Nat}{x:α}(h:l[i]? =some x):l.set i x=l:=by
 apply List.ext_getElem?
 intro j
 rw[List.getElem?_set]
 by_cases hij:i=j
 ·subst hij
  rw[if_pos rfl,if_pos (List.getElem?_eq_some_iff.1 h).1,h]
 ·rw[if_neg hij]
theorem tD(a:Nat):∀(L:List Nat) (i:Nat),(a∉L→gL (az Tryz.prog) 3 (.int .i64 (a:Int)) (L.map uE) i=some none)∧(a∈L→∃q,gL (az Tryz.prog) 3 (.int .i64 (a:Int)) (L.map uE) i=some (some (i+q,.bool true))∧L[q]? =some a)
 | [],i=>⟨fun _=>rfl,fun h=>by cases h⟩
 |b::L,i=>by
  have e:iT (az Tryz.prog) 20 3 (.int .i64 (a:Int)) (.int .i64 (b:Int))=some (decide ((a:Int)=(b:Int))):=by simp[iT]
  simp only[List.map_cons,gL,uE,e]
  have ih:=tD a L (i+1)
  by_cases h:a=b
  ·subst h
   simp only[decide_true]
   exact⟨fun h=>absurd (List.mem_cons_self ..) h,fun _=>⟨0,rfl,rfl⟩⟩
  ·have h' :¬((a:Int)=(b:Int)):=by omega
   simp only[h',decide_false]
   refine⟨fun hn=>ih.1 (fun h2=>hn (List.mem_cons_of_mem _ h2)),fun hm=>?_⟩
   rcases List.mem_cons.1 hm with h2 | h2
   ·exact absurd h2 h
   ·obtain⟨q,q1,q2⟩:=ih.2 h2
    exact⟨q+1,by rw[q1,show i+1+q=i+(q+1) by omega],by simpa using q2⟩
theorem Mq(M:Mem) (b:Nat) (L:List Nat) (a:Nat) (hM:M[b]? =some (.map (L.map uE))):dD (az Tryz.prog) M 202 (.map b) (.int .i64 (a:Int)) (.bool true)=some (M.set b (.map ((QO L a).map uE))):=by
 have hk:jD (az Tryz.prog) 20 3 (.int .i64 (a:Int))=true:=by simp[jD]
 unfold dD
 rw[Gs]
 simp only[hM,hk,if_true]
 by_cases h:a∈L
 ·obtain⟨q,q1,q2⟩:=(tD a L 0).2 h
  rw[q1]
  have:QO L a=L:=if_pos h
  rw[this,Nat.zero_add]
  simp only[AV.scalarKey,if_true]
  rw[show((.int .i64 (a:Int),.bool true):AV×AV)=uE a from rfl,PH (l:=L.map uE) (i:=q) (x:=uE a) (by rw[List.getElem?_map,q2];rfl)]
 ·rw[(tD a L 0).1 h]
  have:QO L a=L++[a]:=if_neg h
  rw[this]
  simp[uE]
theorem Jv(n:Nat):∀L:List Nat,(L.map uE).flatMap (fun e=>e.1.refs n++e.2.refs n)=[]
 | []=>rfl
 |p::N=>by simp[uE,AV.refs,Jv n N]
theorem Mf{TS:List Tr}{n:Nat}{t:Tr}(h:TS[n]? =some t):HE (TS.take (n+1))=Rs (HE (TS.take n)) t:=by
 rw[List.take_add_one,h]
 simp[HE]
def rR(PS:List P2) (TS:List Tr) (D:List (AV×AV)) (L:List Nat):Mem:=[.cells false 2 (pC PS),.cells false 3 (tC TS),msB PS.length TS.length,.map D,.map (L.map uE)]
def xW(c:Code):List Nat:=if (ad c).contains 23 then [23] else [28]
set_option maxRecDepth 8192 in
set_option maxHeartbeats 12800000 in
theorem xX{O:Oracle}{K:Nat}(PS:List P2) (TS:List Tr) (D:List (AV×AV)) (hl2:TS.length≤1000000000) (hD:D.flatMap (fun e=>e.1.refs 5++e.2.refs 5)=[]) (hK:TS.length<K+5) {b b2:Code}(hb:am Tryz.f77=[b,b2]):
  ∃F:Env→Bool→Env,∀env0 d,(ac env0 5=.map 4∧ac env0 21=.slice 1 0 TS.length none∧ac env0 22=.int .i64 TS.length∧ac env0 23=.int .i64 0∧ac env0 1=.ptr 2 0∧ac env0 3=.map 3)→
   aO (az Tryz.prog) xW O (K+5) 55 2 true (.loop b) ⟨env0,rR PS TS D [],d⟩=some (.exit 0,⟨F env0 d,rR PS TS D (HE TS),d⟩)∧ac (F env0 d) 1=.ptr 2 0∧ac (F env0 d) 3=.map 3∧ac (F env0 d) 5=.map 4:=by
 refine bD (L:=[23]) (by simp[am,aJ,Tryz.f77] at hb;rw[←hb.1];rfl) (fun env0=>ac env0 5=.map 4∧ac env0 21=.slice 1 0 TS.length none∧ac env0 22=.int .i64 TS.length∧ac env0 23=.int .i64 0∧ac env0 1=.ptr 2 0∧ac env0 3=.map 3) (fun _ env' =>ac env' 1=.ptr 2 0∧ac env' 3=.map 3∧ac env' 5=.map 4) ?_
 rintro env0 d ⟨h5,h21,h22,h23,h1,h3⟩
 simp[am,aJ,Tryz.f77] at hb
 obtain⟨hb,-⟩:=hb
 have hn0:ay [23] (ad b) env0 ((23,.int .i64 ((0:Nat):Int))::env0)=ay [23] (ad b) env0 env0:=by simp[ay,h23]
 rw[←hn0]
 refine bR (α:=Nat) (fun n=>⟨ay [23] (ad b) env0 ((23,.int .i64 (n:Int))::env0),rR PS TS D (HE (TS.take n)),d⟩) (fun n=>TS.length-n) (fun n=>n≤TS.length) (.exit 0) _ d _ (by simp) ?_ (K+5) 0 (by omega) (by omega)
 intro n hn1
 clear hn0
 subst hb
 by_cases hlt:n<TS.length
 ·left
  obtain⟨t,ht⟩:∃q,TS[n]? =some q:=⟨TS[n],List.getElem?_eq_getElem hlt⟩
  obtain⟨k1,k2⟩:=QL ht
  have hU:=Mf ht
  obtain⟨i1,i2,i3⟩:=t
  simp only[Rs] at k1 hU
  have w1:IntKind.i64.wrap ((n:Int)+1)=((n+1:Nat):Int):=by rw[al (by omega) (by omega)];omega
  obtain⟨m,hm⟩:∃m,m=n+1:=⟨_,rfl⟩
  rw[←hm] at w1 hU
  obtain⟨L,hL⟩:∃L,L=HE (TS.take n):=⟨_,rfl⟩
  rw[←hL] at hU
  rw[←hL]
  have v1:IntKind.i64.wrap 1=1:=rfl
  have v2:IntKind.i64.wrap 2=2:=rfl
  have v3:IntKind.i64.wrap 3=3:=rfl
  have v2' :IntKind.i64.wrap (1+1)=2:=rfl
  have v3' :IntKind.i64.wrap (2+1)=3:=rfl
  have u:∀(L' :List Nat) (a:Nat),dD (az Tryz.prog) [.cells false 2 (pC PS),.cells false 3 (tC TS),.cells true 0 [.slice 0 0 PS.length none,.slice 1 0 TS.length none],.map D,.map (L'.map uE),.cells true 0 [.int .i64 (i1:Int),.int .i64 (i2:Int),.int .i64 (i3:Int)]] 202 (.map 4) (.int .i64 (a:Int)) (.bool true)=
    some [.cells false 2 (pC PS),.cells false 3 (tC TS),.cells true 0 [.slice 0 0 PS.length none,.slice 1 0 TS.length none],.map D,.map ((QO L' a).map uE),.cells true 0 [.int .i64 (i1:Int),.int .i64 (i2:Int),.int .i64 (i3:Int)]]:=fun L' a=>Mq _ 4 L' a rfl
  refine⟨m,?_⟩
  simp[rR,h5,h21,h22,hlt,k1,k2,aC,dS,v1,v2,v3,v2',v3',xW,u,hD,hU,msB,cC,cP,Jv,w1]
  omega
 ·right
  have e:TS.take n=TS:=List.take_of_length_le (by omega)
  rw[e]
  have hlt' :¬(n:Int)<TS.length:=by omega
  simp[h22,h1,h3,h5,hlt]
theorem QA(f:Nat→Option Nat) (sds:List Sd):(sds.map sdE).map (fun e=>(e.1.ren f,e.2.ren f))=sds.map sdE:=by
 rw[List.map_map]
 exact List.map_congr_left fun s _=>JC f s
theorem PG(f:Nat→Option Nat) (sds:List Sd):sds.map ((fun(e:AV×AV)=>(e.1.ren f,e.2.ren f))∘sdE)=sds.map sdE:=
 List.map_congr_left fun s _=>JC f s
def xO(PS:List P2) (TS:List Tr) (sds:List Sd):Prop:=
 ACallsTo Tryz.prog 106 [.agg [.slice 0 0 PS.length none,.slice 1 0 TS.length none]] [.absent,.cells false 3 (tC TS)] (.tuple [.map 2,.bool true]) ([.absent,.cells false 3 (tC TS)]++[.map (sds.map sdE)])
structure Tryz.Whole (PS:List P2) (TS:List Tr) (sds:List Sd) (cyc:List Nat):Prop where
 dg:∀p∈PS,pDg 2 p
 nodup:PS.Nodup
 owns:xO PS TS sds
 outer:qW sds=true
 cy:ym (pU sds)=some (cyc.map fun(n:Nat)=>(n:Int))
 used:(HE TS).length=PS.length
 once:NK PS cyc
 tr:∀t∈TS,Rq PS t
 len:PS.length≤400
 len0:TS≠[]
 len2:TS.length≤800
 len3:cyc.length≤1000000
open Classical in
noncomputable def rU(PS:List P2) (TS:List Tr) (sds:List Sd) (cyc:List Nat):Oracle:=fun c args M=>match c,args with
 |.fn 106,[.agg [.slice b 0 n none,.slice c 0 k none]]=>if n=PS.length∧k=TS.length∧b<M.length∧(∃o,M[c]? =some (.cells o 3 (tC TS))) then some ⟨.tuple [.map M.length,.bool true],none,[.map (sds.map sdE)]⟩ else none
 |.fn 107,[.agg [.slice b 0 _ none,.slice c 0 _ none],.map q]=>if b<M.length∧c<M.length∧LW M q=some (sds.map sdE) then some ⟨.tuple [.slice M.length 0 cyc.length none,.bool true],none,[.cells true 1 (cZ cyc)]⟩ else none
 |.fn 108,[.agg [.slice b 0 n none,.slice c 0 _ none],.slice q 0 l none]=>if n=PS.length∧l=cyc.length∧c<M.length∧(∃o,M[b]? =some (.cells o 2 (pC PS)))∧(∃o,M[q]? =some (.cells o 1 (cZ cyc))) then some ⟨.bool true,none,[]⟩ else none
 |_,_=>none
theorem GH:∀cyc:List Nat,AV.closeds (cZ cyc)=true
 | []=>rfl
 |c::l=>by
  have:=GH l
  simp only[cZ] at this
  simp[cZ,AV.closeds,AV.closed,this]
theorem Rk(cyc:List Nat):iZ (cyc.map fun(n:Nat)=>(n:Int))=cZ cyc:=by
 simp[iZ,cZ]
theorem oS{M:Mem}{b:Nat}{s:Slot}(h:M[b]? =some s):b<M.length:=(List.getElem?_eq_some_iff.1 h).1
theorem I2{PS:List P2}{TS:List Tr}{sds:List Sd}{cyc:List Nat}(hw:Tryz.Whole PS TS sds cyc):OracleOk Tryz.prog (rU PS TS sds cyc):=by
 refine cO fun c args M r h=>?_
 unfold rU at h
 split at h
 ·rename_i b n c k
  split at h
  ·rename_i hc
   obtain⟨rfl,rfl,hb,o,hM⟩:=hc
   cases h
   refine ap ?_
   have:=ACallsTo.frame (M:=M) (new:=[.map (sds.map sdE)]) [b,c] (m:=[.absent,.cells false 3 (tC TS)]) rfl (by
    intro k hk
    simp only[List.mem_cons,List.not_mem_nil,or_false] at hk
    rcases hk with rfl | rfl
    ·exact hb
    ·exact oS hM) (by rfl) (fun i s hs=>by
    match i with
    |0=>simp at hs;subst hs;trivial
    |1=>simp at hs;subst hs;exact bm (dL TS) hM (List.take_length)
    |i+2=>simp at hs) rfl hw.owns
   simpa [AV.rens,AV.ren,da,Slot.ren,QA,PG] using this
  ·cases h
 ·rename_i b n c k q
  split at h
  ·rename_i hc
   obtain⟨hb,hb2,hM⟩:=hc
   cases h
   refine ap ?_
   have:=ux M sds (cyc.map fun(n:Nat)=>(n:Int)) q b c n k hb hb2 hM hw.outer hw.cy
   rw[Rk,List.length_map] at this
   exact this
  ·cases h
 ·rename_i b n c k q l
  split at h
  ·rename_i hc
   obtain⟨rfl,rfl,hb2,⟨o,hM⟩,⟨o2,hM2⟩⟩:=hc
   cases h
   refine ap ?_
   have:=ACallsTo.frame (M:=M) (new:=[]) (args:=[.agg [.slice 0 0 PS.length none,.slice 1 0 k none],.slice 2 0 cyc.length none]) [b,c,q] (m:=[.cells false 2 (pC PS),.absent,.cells false 1 (cZ cyc)]) rfl (by
    intro k hk
    simp only[List.mem_cons,List.not_mem_nil,or_false] at hk
    rcases hk with rfl | rfl | rfl
    ·exact oS hM
    ·exact hb2
    ·exact oS hM2) (by rfl) (fun i s hs=>by
    match i with
    |0=>simp at hs;subst hs;exact bm (dB PS) hM (List.take_length)
    |1=>simp at hs;subst hs;trivial
    |2=>simp at hs;subst hs;exact bm (GH cyc) hM2 (List.take_length)
    |i+3=>simp at hs) rfl (by simpa using HT PS k cyc hw.dg hw.once hw.len3)
   simpa [AV.rens,AV.ren,da] using this
  ·cases h
 ·cases h
set_option maxRecDepth 8192 in
set_option maxHeartbeats 6400000 in
theorem C7{PS:List P2}{TS:List Tr}{sds:List Sd}{cyc:List Nat}(hw:Tryz.Whole PS TS sds cyc):
  ACallsTo Tryz.prog 77 [.agg [.slice 0 0 PS.length none,.slice 1 0 TS.length none]] [.cells false 2 (pC PS),.cells false 3 (tC TS)] (.bool true) [.cells false 2 (pC PS),.cells false 3 (tC TS)]:=by
 have hG:aI Tryz.prog 77=some Tryz.f77:=by kernel_rfl
 have hl:=hw.len
 have hl2:=hw.len2
 obtain⟨b,b2,hb⟩:∃b b2,am Tryz.f77=[b,b2]:=⟨_,_,rfl⟩
 obtain⟨K,hK⟩:∃K,K=TS.length:=⟨_,rfl⟩
 obtain⟨F,hF⟩:=xX (O:=rU PS TS sds cyc) (K:=K) PS TS (sds.map sdE) (by omega) (kA 5 sds) (by omega) hb
 simp[am,aJ,Tryz.f77] at hb
 obtain⟨rfl,rfl⟩:=hb
 have hF1:=fun env0 d h=>(hF env0 d h).1
 have hG1:=fun env0 d h=>(hF env0 d h).2.1
 have hG3:=fun env0 d h=>(hF env0 d h).2.2.1
 have hG5:=fun env0 d h=>(hF env0 d h).2.2.2
 clear hF
 have hu:=hw.used
 have h:ab (az Tryz.prog) xW (aI Tryz.prog) (rU PS TS sds cyc) (K+5) 77 [.agg [.slice 0 0 PS.length none,.slice 1 0 TS.length none]] [.cells false 2 (pC PS),.cells false 3 (tC TS)]=some ⟨.bool true,none,[]⟩:=by
  simp only[rR,List.map_nil,msB] at hF1
  simp[ab,hG,Tryz.f77,hF1,hG1,hG3,hG5,rU,LW,hu,kA,Jv,cC,cP,Cj]
 have:=(ae aa (ai _) (I2 hw) (aj _) h).1
 simpa [CallRes.mem] using this
theorem IN{PS:List P2}{TS:List Tr}{sds:List Sd}{cyc:List Nat}(hw:Tryz.Whole PS TS sds cyc):OracleOk Tryz.prog (kf PS TS):=by
 refine cO fun c args M r h=>?_
 unfold kf at h
 split at h
 ·rename_i b n c k
  split at h
  ·rename_i hc
   obtain⟨rfl,rfl,⟨o,hM⟩,⟨o2,hM2⟩⟩:=hc
   cases h
   refine ap ?_
   have:=ACallsTo.frame (M:=M) (new:=[]) (args:=[.agg [.slice 0 0 PS.length none,.slice 1 0 TS.length none]]) [b,c] (m:=[.cells false 2 (pC PS),.cells false 3 (tC TS)]) rfl (by
    intro k hk
    simp only[List.mem_cons,List.not_mem_nil,or_false] at hk
    rcases hk with rfl | rfl
    ·exact oS hM
    ·exact oS hM2) (by rfl) (fun i s hs=>by
    match i with
    |0=>simp at hs;subst hs;exact bm (dB PS) hM (List.take_length)
    |1=>simp at hs;subst hs;exact bm (dL TS) hM2 (List.take_length)
    |i+2=>simp at hs) rfl (by simpa using C7 hw)
   simpa [AV.rens,AV.ren,da] using this
  ·cases h
 ·exact gT xJ h
set_option maxRecDepth 8192 in
set_option maxHeartbeats 6400000 in
theorem Br{PS:List P2}{TS:List Tr}{sds:List Sd}{cyc:List Nat}(hw:Tryz.Whole PS TS sds cyc):
  ACallsTo Tryz.prog 41 [.agg [.slice 0 0 PS.length none,.slice 1 0 TS.length none]] [.cells false 2 (pC PS),.cells false 3 (tC TS)] (.int .i64 0) [.cells false 2 (pC PS),.cells false 3 (tC TS)]:=by
 have hG:aI Tryz.prog 41=some Tryz.f41:=by kernel_rfl
 have hl:=hw.len
 have hl2:=hw.len2
 have hl0:0<TS.length:=by have:=hw.len0;cases TS with | nil=>exact absurd rfl this | cons a l=>simp
 obtain⟨b1,b2,b3,b4,b5,hb⟩:∃b1 b2 b3 b4 b5,am Tryz.f41=[b1,b2,b3,b4,b5]:=⟨_,_,_,_,_,rfl⟩
 obtain⟨K,hK⟩:∃K,K=PS.length+TS.length:=⟨_,rfl⟩
 obtain⟨F,hF⟩:=tK (K:=K+5) PS TS hw.dg hw.nodup (by omega) (by omega) hb
 obtain⟨F2,hF2⟩:=tL (K:=K) PS TS (PS.map pmE) hw.dg hw.tr (by omega) (by omega) (wJ 4 PS) (by omega) hb
 simp[am,aJ,Tryz.f41] at hb
 obtain⟨rfl,rfl,rfl,rfl,rfl⟩:=hb
 have hF1:=fun env0 d h=>(hF env0 d h).1
 have hF3:=fun env0 d h=>(hF2 env0 d h).1
 have hG1:=fun env0 d h=>(hF env0 d h).2
 have hG3:=fun env0 d h=>(hF2 env0 d h).2
 clear hF hF2
 have n1:¬(800:Int)<TS.length:=by omega
 have n2:¬(400:Int)<PS.length:=by omega
 have n3:¬800<TS.length:=by omega
 have n4:¬400<PS.length:=by omega
 have n5:¬TS.length=0:=by omega
 have n6:¬(TS.length:Int)=0:=by omega
 have h:ab (az Tryz.prog) rM (aI Tryz.prog) (kf PS TS) (K+5) 41 [.agg [.slice 0 0 PS.length none,.slice 1 0 TS.length none]] [.cells false 2 (pC PS),.cells false 3 (tC TS)]=some ⟨.int .i64 0,none,[]⟩:=by
  simp only[msB] at hF1 hF3
  simp[ab,hG,Tryz.f41,hF1,hF3,hG1,hG3,kf,n1,n2,n3,n4,n5,n6,wJ,cC,cP]
 have:=(ae aa (ai _) (IN hw) (aj _) h).1
 simpa [CallRes.mem] using this
noncomputable def BZ(f:FuncId) (args:List AV):Option AV:=
 match f,args with
 |91,[.int .i64 n,.int .i64 d]=>if (d=1∨d=2)∧ -7≤n∧n≤13 then some (.tuple [.str (aN (mkRat n d.toNat)),.int .i64 0]) else none
 |_,_=>none
theorem Lc:OracleOk Tryz.prog (ao BZ):=bN fun f args v h mem=>by
 unfold BZ at h
 split at h
 ·rename_i n d
  split at h
  ·rename_i hc
   cases h
   have:=Mn n d.toNat (by omega) hc.2.1 hc.2.2 mem
   rw[Int.toNat_of_nonneg (by omega)] at this
   exact this
  ·cases h
 ·cases h
theorem jd{n:Int}(h0: -1000000≤n) (h1:n≤1000000):IntKind.i64.wrap n=n:=by rw[al (by omega) (by omega)]
set_option maxHeartbeats 1600000 in
theorem C5(s:Sheet) (hs:s.Ok) (x y:Int) (hx0:0≤x) (hx1:x≤6) (hy0:0≤y) (hy1:y≤6) (M:Mem):
  ACallsTo Tryz.prog 62 [s.av,.agg [.int .i8 x,.int .i8 y],.int .i64 1] M (pA (s.pt 1 x y)) M:=by
 have hG:aI Tryz.prog 62=some Tryz.f62:=by kernel_rfl
 obtain⟨kd,sx,sy,hf⟩:=s
 have q1:=PL sx
 have q2:=PL sy
 unfold Sheet.av Sheet.pt
 simp only
 obtain⟨u,hu⟩:∃u,u=sx.tmod 8:=⟨_,rfl⟩
 obtain⟨v,hv⟩:∃u,u=sy.tmod 8:=⟨_,rfl⟩
 rw[←hu] at q1 ⊢
 rw[←hv] at q2 ⊢
 refine aw Lc (lv:=fun _=>[]) (K:=1) rfl rfl ?_ M
 have wx:IntKind.i64.wrap x=x:=jd (by omega) (by omega)
 have wy:IntKind.i64.wrap y=y:=jd (by omega) (by omega)
 have wu:IntKind.i64.wrap u=u:=jd (by omega) (by omega)
 have wv:IntKind.i64.wrap v=v:=jd (by omega) (by omega)
 have a1:IntKind.i64.wrap (x+u)=x+u:=jd (by omega) (by omega)
 have a2:IntKind.i64.wrap (y+v)=y+v:=jd (by omega) (by omega)
 have b1:IntKind.i64.wrap 1=1:=rfl
 have b2:IntKind.i64.wrap 2=2:=rfl
 have f1: -7≤x+u:=by omega
 have g1:x+u≤13:=by omega
 have f2: -7≤y+v:=by omega
 have g2:y+v≤13:=by omega
 cases hf<;>simp[ab,hG,Tryz.f62,ao,BZ,←hu,←hv,wx,wy,wu,wv,a1,a2,b1,b2,f1,f2,g1,g2,bB,ar,pA]
theorem Bq(k:Nat) (hk:k<256):ACallsTo Tryz.prog 61 [.int .u8 (k:Int)] [] (.tuple [.slice 0 0 (cQ (k%8)).length none,.slice 1 0 (ba (k%8)).length none]) [.cells true 2 (iP (cQ (k%8))),.cells true 3 (tC (ba (k%8)))]:=by
 have hG:aI Tryz.prog 61=some Tryz.f61:=by kernel_rfl
 have ht:(k:Int).tmod 8=((k%8:Nat):Int):=rfl
 have hlt:k%8<8:=Nat.mod_lt _ (by omega)
 obtain⟨j,hj⟩:∃j,j=k%8:=⟨_,rfl⟩
 rw[←hj] at ht hlt ⊢
 have h:ab (az Tryz.prog) (fun _=>[]) (aI Tryz.prog) aE 1 61 [.int .u8 (k:Int)] []=some ⟨.tuple [.slice 0 0 (cQ j).length none,.slice 1 0 (ba j).length none],none,[.cells true 2 (iP (cQ j)),.cells true 3 (tC (ba j))]⟩:=by
  have hjj:j=0∨j=1∨j=2∨j=3∨j=4∨j=5∨j=6∨j=7:=by omega
  clear hlt hj
  rcases hjj with rfl | rfl | rfl | rfl | rfl | rfl | rfl | rfl<;>simp[ab,hG,Tryz.f61,ht,cQ,ba,sqI,iP,tC,bB,ar]<;>exact⟨rfl,rfl⟩
 have:=(ae aa (ai _) (af _) (aj _) h).1
 simpa [CallRes.mem] using this
theorem C6(k:Nat) (hk:k<256) (M:Mem):ACallsTo Tryz.prog 61 [.int .u8 (k:Int)] M (.tuple [.slice M.length 0 (cQ (k%8)).length none,.slice (M.length+1) 0 (ba (k%8)).length none]) (M++[.cells true 2 (iP (cQ (k%8))),.cells true 3 (tC (ba (k%8)))]):=by
 have:=ACallsTo.frame (M:=M) (new:=[.cells true 2 (iP (cQ (k%8))),.cells true 3 (tC (ba (k%8)))]) (args:=[.int .u8 (k:Int)]) [] (m:=[]) rfl (by simp) (by rfl) (fun i s hs=>by simp at hs) rfl (Bq k hk)
 simpa [AV.ren,AV.rens,da,Slot.ren,J0,gw] using this
noncomputable def mX(s:Sheet):Oracle:=fun c args M=>match c,args with
 |.fn 61,[.int .u8 k]=>if k=(s.kind:Int) then some ⟨.tuple [.slice M.length 0 (cQ (s.kind%8)).length none,.slice (M.length+1) 0 (ba (s.kind%8)).length none],none,[.cells true 2 (iP (cQ (s.kind%8))),.cells true 3 (tC (ba (s.kind%8)))]⟩ else none
 |.fn 62,[.agg [.int .u8 k,.int .i8 sx,.int .i8 sy,.bool h],.agg [.int .i8 x,.int .i8 y],.int .i64 n]=>if k=(s.kind:Int)∧sx=s.sx∧sy=s.sy∧h=s.half∧0≤x∧x≤6∧0≤y∧y≤6∧n=1 then some ⟨pA (s.pt 1 x y),none,[]⟩ else none
 |_,_=>none
theorem IM(s:Sheet) (hs:s.Ok):OracleOk Tryz.prog (mX s):=by
 refine cO fun c args M r h=>?_
 unfold mX at h
 split at h
 ·split at h
  ·rename_i hc
   subst hc
   cases h
   exact ap (C6 s.kind hs.kind M)
  ·cases h
 ·split at h
  ·rename_i hc
   obtain⟨rfl,rfl,rfl,rfl,h1,h2,h3,h4,rfl⟩:=hc
   cases h
   refine ap ?_
   rw[List.append_nil]
   exact C5 s hs _ _ h1 h2 h3 h4 M
  ·cases h
 ·cases h
def NZ(L:List (Int×Int)):Prop:=∀p∈L,0≤p.1∧p.1≤6∧0≤p.2∧p.2≤6
theorem Hv(k:Nat) (hk:k<8):NZ (cQ k):=by
 have hjj:k=0∨k=1∨k=2∨k=3∨k=4∨k=5∨k=6∨k=7:=by omega
 rcases hjj with rfl | rfl | rfl | rfl | rfl | rfl | rfl | rfl<;>(unfold NZ;decide)
def Q1(n:Nat):AV:=match n with
 |0=>.nilslice
 |n+1=>.slice 5 0 (n+1) none
def Jj(s:Sheet) (SP:List (Int×Int)) (TS:List Tr) (n:Nat):Mem:=
 [.cells true 0 [.int .u8 s.kind,.int .i8 s.sx,.int .i8 s.sy,.bool s.half],.cells true 0 [.nilslice,.nilslice],.cells true 2 (iP SP),.cells true 3 (tC TS),.cells true 0 [Q1 n,.slice 3 0 TS.length none]]++
  (match n with
  |0=>[]
  |n+1=>[.cells true 2 (pC ((SP.take (n+1)).map fun p=>s.pt 1 p.1 p.2))])
theorem yG{s:Sheet}{SP:List (Int×Int)}{TS:List Tr}{n:Nat}(h:0<n):Jj s SP TS n=
  [.cells true 0 [.int .u8 s.kind,.int .i8 s.sx,.int .i8 s.sy,.bool s.half],.cells true 0 [.nilslice,.nilslice],.cells true 2 (iP SP),.cells true 3 (tC TS),.cells true 0 [.slice 5 0 n none,.slice 3 0 TS.length none],.cells true 2 (pC ((SP.take n).map fun p=>s.pt 1 p.1 p.2))]:=by
 cases n with
 |zero=>omega
 |succ n=>rfl
set_option maxRecDepth 8192 in
set_option maxHeartbeats 12800000 in
theorem xI{K:Nat}(s:Sheet) (SP:List (Int×Int)) (TS:List Tr) (hsm:NZ SP) (hl:SP.length≤1000000) (hK:SP.length<K) {b:Code}(hb:am Tryz.f33=[b]):
  ∃F:Env→Env,∀env0,(ac env0 1=.ptr 0 0∧ac env0 3=.slice 2 0 SP.length none∧ac env0 5=.ptr 4 0∧ac env0 6=.int .i64 0∧ac env0 2=.ptr 1 0)→
   aO (az Tryz.prog) (fun _=>[6,6]) (mX s) K 42 0 true (.loop b) ⟨env0,Jj s SP TS 0,false⟩=some (.exit 0,⟨F env0,Jj s SP TS SP.length,decide (0<SP.length)⟩)∧ac (F env0) 5=.ptr 4 0∧ac (F env0) 2=.ptr 1 0:=by
 refine qO (L:=[6,6]) rfl false _ (fun env0=>ac env0 1=.ptr 0 0∧ac env0 3=.slice 2 0 SP.length none∧ac env0 5=.ptr 4 0∧ac env0 6=.int .i64 0∧ac env0 2=.ptr 1 0) (fun _ env' =>ac env' 5=.ptr 4 0∧ac env' 2=.ptr 1 0) ?_
 rintro env0 ⟨h1,h3,h5,h6,h2⟩
 obtain⟨ops,hops⟩:∃ops,aG Tryz.f33=[ops]:=⟨_,rfl⟩
 have hbs:=lQ hops (l:=[0,1,0,0,0,24,56,120,248,0,0,1536,3584,7680,15872,32760,65532,131068,262143,524287,1048575]) (by kernel_rfl)
 have k17:fc [0,1,0,0,0,24,56,120,248,0,0,1536,3584,7680,15872,32760,65532,131068,262143,524287,1048575] 21 17=true:=by decide
 have k18:fc [0,1,0,0,0,24,56,120,248,0,0,1536,3584,7680,15872,32760,65532,131068,262143,524287,1048575] 21 18=true:=by decide
 have k20:fc [0,1,0,0,0,24,56,120,248,0,0,1536,3584,7680,15872,32760,65532,131068,262143,524287,1048575] 21 20=true:=by decide
 have j18:aS [0,1,0,0,0,24,56,120,248,0,0,1536,3584,7680,15872,32760,65532,131068,262143,524287,1048575] 18=true:=by decide
 have j20:aS [0,1,0,0,0,24,56,120,248,0,0,1536,3584,7680,15872,32760,65532,131068,262143,524287,1048575] 20=true:=by decide
 simp[aG,bC,Tryz.f33] at hops
 simp[am,aJ,Tryz.f33] at hb
 have hn0:ay [6,6] (ad b) env0 ((6,.int .i64 ((0:Nat):Int))::env0)=ay [6,6] (ad b) env0 env0:=by simp[ay,h6]
 rw[←hn0]
 refine bR (α:=Nat) (fun n=>⟨ay [6,6] (ad b) env0 ((6,.int .i64 (n:Int))::env0),Jj s SP TS n,decide (0<n)⟩) (fun n=>SP.length-n) (fun n=>n≤SP.length) (.exit 0) _ _ _ (by simp) ?_ K 0 (by omega) (by omega)
 intro n hn1
 clear hn0
 subst hb
 subst hops
 by_cases hlt:n<SP.length
 ·left
  obtain⟨p,hp⟩:∃q,SP[n]? =some q:=⟨SP[n],List.getElem?_eq_getElem hlt⟩
  obtain⟨q1,q2,q3⟩:=Rm hp
  obtain⟨x0,x1,y0,y1⟩:=hsm p (List.mem_of_getElem? hp)
  obtain⟨px,py⟩:=p
  simp only at q1 q2 x0 x1 y0 y1
  have ht:(SP.take (n+1)).map (fun p=>s.pt 1 p.1 p.2)=(SP.take n).map (fun p=>s.pt 1 p.1 p.2)++[s.pt 1 px py]:=by rw[List.take_add_one,hp];simp
  have v1:IntKind.i8.wrap px=px:=N8 (by omega) (by omega)
  have v2:IntKind.i8.wrap py=py:=N8 (by omega) (by omega)
  have c1:0≤px:=by omega
  have c2:px≤6:=by omega
  have c3:0≤py:=by omega
  have c4:py≤6:=by omega
  have w1:IntKind.i64.wrap ((n:Int)+1)=((n+1:Nat):Int):=by rw[al (by omega) (by omega)];omega
  obtain⟨P,hP⟩:∃P,P=(SP.take n).map (fun p=>s.pt 1 p.1 p.2):=⟨_,rfl⟩
  have hPl:P.length=n:=by rw[hP,List.length_map,List.length_take];omega
  obtain⟨z,hz⟩:∃z,z=s.pt 1 px py:=⟨_,rfl⟩
  rw[←hP,←hz] at ht
  have hpc:pC (P++[z])=pC P++[.str (aN z.1),.str (aN z.2)]:=by rw[yS];rfl
  have hpl:=sJ P
  rw[hPl] at hpl
  obtain⟨m,hm⟩:∃m,m=n+1:=⟨_,rfl⟩
  refine⟨m,?_⟩
  by_cases hn0:n=0
  ·subst hn0
   have hm1:m=1:=by omega
   subst hm1
   have hP0:P=[]:=List.eq_nil_of_length_eq_zero hPl
   rw[hP0] at ht hpc
   simp at ht hpc
   have w0:IntKind.i64.wrap 1=1:=rfl
   simp[Jj,Q1,h1,h3,h5,hlt,q1,q2,v1,v2,c1,c2,c3,c4,w0,mX,←hz,pA,-aF,eG hbs,fS,ky,su,cf,k17,k18,k20,j18,j20,ht,hpc,Ct,cP,J0,gw,Q3,bB,Nat.testBit]
   omega
  ·have hpos:0<n:=by omega
   rw[←hm] at w1 ht
   have hmp:0<m:=by omega
   have hd1:decide (0<n)=true:=by simpa using hpos
   rw[yG hpos,yG hmp,hd1,←hP,ht,hpc]
   clear hP ht hpc
   have g1:m*32≤140737488355328:=by omega
   have g2:n≤140737488355327:=by omega
   have g5:(Jj s SP TS 0).length=5:=rfl
   have g4:m≤140737488355328:=by omega
   have g3:(pC P).take (n*2)=pC P:=List.take_of_length_le (by omega)
   simp[h1,h3,h5,hlt,q1,q2,v1,v2,c1,c2,c3,c4,w1,mX,←hz,pA,-aF,eG hbs,fS,ky,su,cf,k17,k18,k20,j18,j20,hpl,hmp,←hm,g1,g2,g4,g3,g5,oZ,Ct,cP,cC,J0,gw,eg,bB,Nat.testBit]
   omega
 ·right
  have e:n=SP.length:=by omega
  subst e
  simp[h3,h5,h2,hlt]
theorem Ma(k:Nat):0<(cQ k).length:=by
 unfold cQ
 split<;>simp[sqI]
theorem Bc(k:Nat):(cQ k).length≤6:=by
 unfold cQ
 split<;>simp[sqI]
theorem Sheet.P_length(s:Sheet):s.P.length=(cQ (s.kind%8)).length:=by simp[Sheet.P]
set_option maxRecDepth 8192 in
set_option maxHeartbeats 6400000 in
theorem C0(s:Sheet) (hs:s.Ok):ACallsTo Tryz.prog 33 [s.av] [] (.agg [.slice 0 0 s.P.length none,.slice 1 0 s.T.length none]) [.cells true 2 (pC s.P),.cells true 3 (tC s.T)]:=by
 have hG:aI Tryz.prog 33=some Tryz.f33:=by kernel_rfl
 have hpos:=Ma (s.kind%8)
 have hle:=Bc (s.kind%8)
 obtain⟨b,hb⟩:∃b,am Tryz.f33=[b]:=⟨_,rfl⟩
 obtain⟨F,hF⟩:=xI (K:=10) s (cQ (s.kind%8)) (ba (s.kind%8)) (Hv _ (Nat.mod_lt _ (by omega))) (by omega) (by omega) hb
 simp[am,aJ,Tryz.f33] at hb
 subst hb
 have hd:decide (0<(cQ (s.kind%8)).length)=true:=by simpa using hpos
 rw[yG hpos,hd,List.take_length] at hF
 have hF1:=fun env0 h=>(hF env0 h).1
 have hG1:=fun env0 h=>(hF env0 h).2.1
 have hG2:=fun env0 h=>(hF env0 h).2.2
 clear hF
 have hm0:Jj s (cQ (s.kind%8)) (ba (s.kind%8)) 0=[.cells true 0 [.int .u8 s.kind,.int .i8 s.sx,.int .i8 s.sy,.bool s.half],.cells true 0 [.nilslice,.nilslice],.cells true 2 (iP (cQ (s.kind%8))),.cells true 3 (tC (ba (s.kind%8))),.cells true 0 [.nilslice,.slice 3 0 (ba (s.kind%8)).length none]]:=rfl
 rw[hm0] at hF1
 rw[Sheet.P_length]
 unfold Sheet.P Sheet.T
 obtain⟨SP,hSP⟩:∃SP,SP=cQ (s.kind%8):=⟨_,rfl⟩
 obtain⟨ST,hST⟩:∃SP,SP=ba (s.kind%8):=⟨_,rfl⟩
 rw[←hSP,←hST] at hF1
 rw[←hSP] at hG1 hG2
 rw[←hSP,←hST]
 have h:ab (az Tryz.prog) (fun _=>[6,6]) (aI Tryz.prog) (mX s) 10 33 [s.av] []=some ⟨.agg [.slice 0 0 SP.length none,.slice 1 0 ST.length none],some [],[.cells true 2 (pC (SP.map fun p=>s.pt 1 p.1 p.2)),.cells true 3 (tC ST)]⟩:=by
  simp[ab,hG,Tryz.f33,Sheet.av,hF1,hG1,hG2,mX,←hSP,←hST,Ct,cP,cC,J0,gw,eg,bB,ar]
  exact⟨rfl,rfl⟩
 have:=(ae aa (ai _) (IM s hs) (aj _) h).1
 simpa [CallRes.mem] using this
theorem HQ(s:Sheet) (hs:s.Ok) (M:Mem):ACallsTo Tryz.prog 33 [s.av] M (.agg [.slice M.length 0 s.P.length none,.slice (M.length+1) 0 s.T.length none]) (M++[.cells true 2 (pC s.P),.cells true 3 (tC s.T)]):=by
 have:=ACallsTo.frame (M:=M) (new:=[.cells true 2 (pC s.P),.cells true 3 (tC s.T)]) (args:=[s.av]) [] (m:=[]) rfl (by simp) (by rfl) (fun i s hs=>by simp at hs) rfl (C0 s hs)
 simpa [AV.ren,AV.rens,da,Slot.ren,eg,gw,Sheet.av] using this
end Go.Proofs
