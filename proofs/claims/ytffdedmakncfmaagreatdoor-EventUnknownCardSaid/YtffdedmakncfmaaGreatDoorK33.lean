/- See K51. -/
import Derived.Test.YtffdedmakncfmaaGreatDoorK31
import Derived.Test.YtffdedmakncfmaaGreatDoorK32
import Derived.Test.YtffdedmakncfmaaGreatDoorK20
set_option linter.all false
namespace Go.Proofs
open Go.Eng
def uE(a:Nat):AV×AV:=(.int .i64 (a:Int),.bool true)
def Rm(L:List Nat) (a:Nat):List Nat:=if a∈L then L else L++[a]
def Sx(L:List Nat) (t:Tr):List Nat:=Rm (Rm (Rm L t.1) t.2.1) t.2.2
def HD(TS:List Tr):List Nat:=TS.foldl Sx []
theorem Qf{α:Type}{l:List α}{i:Nat}{x:α}(h:l[i]? =some x):l.set i x=l:=by
 apply List.ext_getElem?
 intro j
 rw[List.getElem?_set]
 by_cases hij:i=j
 ·subst hij
  rw[if_pos rfl,if_pos (List.getElem?_eq_some_iff.1 h).1,h]
 ·rw[if_neg hij]
theorem ug(a:Nat):∀(L:List Nat) (i:Nat),(a∉L→gN (aO Tryz.prog) 3 (.int .i64 (a:Int)) (L.map uE) i=some none)∧(a∈L→∃q,gN (aO Tryz.prog) 3 (.int .i64 (a:Int)) (L.map uE) i=some (some (i+q,.bool true))∧L[q]? =some a)
 | [],i=>⟨fun _=>rfl,fun h=>by cases h⟩
 |b::L,i=>by
  have e:iH (aO Tryz.prog) 20 3 (.int .i64 (a:Int)) (.int .i64 (b:Int))=some (decide ((a:Int)=(b:Int))):=by simp[iH]
  simp only[List.map_cons,gN,uE,e]
  have ih:=ug a L (i+1)
  by_cases h:a=b
  ·subst h
   simp only[decide_true]
   exact⟨fun h=>absurd (List.mem_cons_self ..) h,fun _=>⟨0,rfl,rfl⟩⟩
  ·have h' :¬((a:Int)=(b:Int)):=by omega
   simp only[h',decide_false]
   refine⟨fun hn=>ih.1 (fun h2=>hn (List.mem_cons_of_mem _ h2)),fun hm=>?_⟩
   rcases List.mem_cons.1 hm with h2 | h2
   ·exact absurd h2 h
   ·obtain⟨q,q1,q2⟩:=ih.2 h2
    exact⟨q+1,by rw[q1,show i+1+q=i+(q+1) by omega],by simpa using q2⟩
theorem MS(M:Mem) (b:Nat) (L:List Nat) (a:Nat) (hM:M[b]? =some (.map (L.map uE))):dI (aO Tryz.prog) M 279 (.map b) (.int .i64 (a:Int)) (.bool true)=some (M.set b (.map ((Rm L a).map uE))):=by
 have hk:jG (aO Tryz.prog) 20 3 (.int .i64 (a:Int))=true:=by simp[jG]
 unfold dI
 rw[Gi]
 simp only[hM,hk,if_true]
 by_cases h:a∈L
 ·obtain⟨q,q1,q2⟩:=(ug a L 0).2 h
  rw[q1]
  have:Rm L a=L:=if_pos h
  rw[this,Nat.zero_add]
  simp only[AV.scalarKey,if_true]
  rw[show((.int .i64 (a:Int),.bool true):AV×AV)=uE a from rfl,Qf (l:=L.map uE) (i:=q) (x:=uE a) (by rw[List.getElem?_map,q2];rfl)]
 ·rw[(ug a L 0).1 h]
  have:Rm L a=L++[a]:=if_neg h
  rw[this]
  simp[uE]
theorem On(n:Nat):∀L:List Nat,(L.map uE).flatMap (fun e=>e.1.refs n++e.2.refs n)=[]
 | []=>rfl
 |p::N=>by simp[uE,AV.refs,On n N]
theorem MB{TS:List Tr}{n:Nat}{t:Tr}(h:TS[n]? =some t):HD (TS.take (n+1))=Sx (HD (TS.take n)) t:=by
 rw[List.take_add_one,h]
 simp[HD]
def sE(PS:List P2) (TS:List Tr) (D:List (AV×AV)) (L:List Nat):Mem:=[.cells false 2 (pC PS),.cells false 3 (tC TS),msB PS.length TS.length,.map D,.map (L.map uE)]
def yC(c:Code):List Nat:=if (ad c).contains 23 then [23] else [28]
set_option maxRecDepth 8192 in
set_option maxHeartbeats 12800000 in
theorem yD{O:Oracle}{K:Nat}(PS:List P2) (TS:List Tr) (D:List (AV×AV)) (hl2:TS.length≤1000000000) (hD:D.flatMap (fun e=>e.1.refs 5++e.2.refs 5)=[]) (hK:TS.length<K+5) {b b2:Code}(hb:aj Tryz.f195=[b,b2]):
  ∃F:Env→Bool→Env,∀env0 d,(ab env0 5=.map 4∧ab env0 21=.slice 1 0 TS.length none∧ab env0 22=.int .i64 TS.length∧ab env0 23=.int .i64 0∧ab env0 1=.ptr 2 0∧ab env0 3=.map 3)→
   aU (aO Tryz.prog) yC O (K+5) 55 2 true (.loop b) ⟨env0,sE PS TS D [],d⟩=some (.exit 0,⟨F env0 d,sE PS TS D (HD TS),d⟩)∧ab (F env0 d) 1=.ptr 2 0∧ab (F env0 d) 3=.map 3∧ab (F env0 d) 5=.map 4:=by
 refine bp (L:=[23]) (by simp[aj,aM,Tryz.f195] at hb;rw[←hb.1];rfl) (fun env0=>ab env0 5=.map 4∧ab env0 21=.slice 1 0 TS.length none∧ab env0 22=.int .i64 TS.length∧ab env0 23=.int .i64 0∧ab env0 1=.ptr 2 0∧ab env0 3=.map 3) (fun _ env' =>ab env' 1=.ptr 2 0∧ab env' 3=.map 3∧ab env' 5=.map 4) ?_
 rintro env0 d ⟨h5,h21,h22,h23,h1,h3⟩
 simp[aj,aM,Tryz.f195] at hb
 obtain⟨hb,-⟩:=hb
 have hn0:az [23] (ad b) env0 ((23,.int .i64 ((0:Nat):Int))::env0)=az [23] (ad b) env0 env0:=by simp[az,h23]
 rw[←hn0]
 refine bK (α:=Nat) (fun n=>⟨az [23] (ad b) env0 ((23,.int .i64 (n:Int))::env0),sE PS TS D (HD (TS.take n)),d⟩) (fun n=>TS.length-n) (fun n=>n≤TS.length) (.exit 0) _ d _ (by simp) ?_ (K+5) 0 (by omega) (by omega)
 intro n hn1
 clear hn0
 subst hb
 by_cases hlt:n<TS.length
 ·left
  obtain⟨t,ht⟩:∃q,TS[n]? =some q:=⟨TS[n],List.getElem?_eq_getElem hlt⟩
  obtain⟨k1,k2⟩:=RZ ht
  have hU:=MB ht
  obtain⟨i1,i2,i3⟩:=t
  simp only[Sx] at k1 hU
  have w1:IntKind.i64.wrap ((n:Int)+1)=((n+1:Nat):Int):=by rw[ag (by omega) (by omega)];omega
  obtain⟨m,hm⟩:∃m,m=n+1:=⟨_,rfl⟩
  rw[←hm] at w1 hU
  obtain⟨L,hL⟩:∃L,L=HD (TS.take n):=⟨_,rfl⟩
  rw[←hL] at hU
  rw[←hL]
  have v1:IntKind.i64.wrap 1=1:=rfl
  have v2:IntKind.i64.wrap 2=2:=rfl
  have v3:IntKind.i64.wrap 3=3:=rfl
  have v2' :IntKind.i64.wrap (1+1)=2:=rfl
  have v3' :IntKind.i64.wrap (2+1)=3:=rfl
  have u:∀(L' :List Nat) (a:Nat),dI (aO Tryz.prog) [.cells false 2 (pC PS),.cells false 3 (tC TS),.cells true 0 [.slice 0 0 PS.length none,.slice 1 0 TS.length none],.map D,.map (L'.map uE),.cells true 0 [.int .i64 (i1:Int),.int .i64 (i2:Int),.int .i64 (i3:Int)]] 279 (.map 4) (.int .i64 (a:Int)) (.bool true)=
    some [.cells false 2 (pC PS),.cells false 3 (tC TS),.cells true 0 [.slice 0 0 PS.length none,.slice 1 0 TS.length none],.map D,.map ((Rm L' a).map uE),.cells true 0 [.int .i64 (i1:Int),.int .i64 (i2:Int),.int .i64 (i3:Int)]]:=fun L' a=>MS _ 4 L' a rfl
  refine⟨m,?_⟩
  simp[sE,h5,h21,h22,hlt,k1,k2,aZ,fA,v1,v2,v3,yC,u,hD,hU,msB,uU,rR,On,w1]
  omega
 ·right
  have e:TS.take n=TS:=List.take_of_length_le (by omega)
  rw[e]
  have hlt' :¬(n:Int)<TS.length:=by omega
  simp[h22,h1,h3,h5,hlt]
theorem Q9(f:Nat→Option Nat) (sds:List Sd):(sds.map sdE).map (fun e=>(e.1.ren f,e.2.ren f))=sds.map sdE:=by
 rw[List.map_map]
 exact List.map_congr_left fun s _=>Jw f s
theorem Qe(f:Nat→Option Nat) (sds:List Sd):sds.map ((fun(e:AV×AV)=>(e.1.ren f,e.2.ren f))∘sdE)=sds.map sdE:=
 List.map_congr_left fun s _=>Jw f s
def yr(PS:List P2) (TS:List Tr) (sds:List Sd):Prop:=
 ACallsTo Tryz.prog 234 [.agg [.slice 0 0 PS.length none,.slice 1 0 TS.length none]] [.absent,.cells false 3 (tC TS)] (.tuple [.map 2,.bool true]) ([.absent,.cells false 3 (tC TS)]++[.map (sds.map sdE)])
structure Tryz.Whole (PS:List P2) (TS:List Tr) (sds:List Sd) (cyc:List Nat):Prop where
 dg:∀p∈PS,pDg 200 p
 nodup:PS.Nodup
 owns:yr PS TS sds
 outer:rO sds=true
 cy:yT (qh sds)=some (cyc.map fun(n:Nat)=>(n:Int))
 used:(HD TS).length=PS.length
 once:Ob PS cyc
 tr:∀t∈TS,Su PS t
 len:PS.length≤400
 len0:TS≠[]
 len2:TS.length≤800
 len3:cyc.length≤1000000
open Classical in
noncomputable def sF(PS:List P2) (TS:List Tr) (sds:List Sd) (cyc:List Nat):Oracle:=fun c args M=>match c,args with
 |.fn 234,[.agg [.slice b 0 n none,.slice c 0 k none]]=>if n=PS.length∧k=TS.length∧b<M.length∧(∃o,M[c]? =some (.cells o 3 (tC TS))) then some ⟨.tuple [.map M.length,.bool true],none,[.map (sds.map sdE)]⟩ else none
 |.fn 235,[.agg [.slice b 0 _ none,.slice c 0 _ none],.map q]=>if b<M.length∧c<M.length∧Mi M q=some (sds.map sdE) then some ⟨.tuple [.slice M.length 0 cyc.length none,.bool true],none,[.cells true 1 (cZ cyc)]⟩ else none
 |.fn 236,[.agg [.slice b 0 n none,.slice c 0 _ none],.slice q 0 l none]=>if n=PS.length∧l=cyc.length∧c<M.length∧(∃o,M[b]? =some (.cells o 2 (pC PS)))∧(∃o,M[q]? =some (.cells o 1 (cZ cyc))) then some ⟨.bool true,none,[]⟩ else none
 |_,_=>none
theorem GC:∀cyc:List Nat,AV.closeds (cZ cyc)=true
 | []=>rfl
 |c::l=>by
  have:=GC l
  simp only[cZ] at this
  simp[cZ,AV.closeds,AV.closed,this]
theorem Sj(cyc:List Nat):iZ (cyc.map fun(n:Nat)=>(n:Int))=cZ cyc:=by
 simp[iZ,cZ]
theorem ed{M:Mem}{b:Nat}{s:Slot}(h:M[b]? =some s):b<M.length:=(List.getElem?_eq_some_iff.1 h).1
theorem IT{PS:List P2}{TS:List Tr}{sds:List Sd}{cyc:List Nat}(hw:Tryz.Whole PS TS sds cyc):OracleOk Tryz.prog (sF PS TS sds cyc):=by
 refine ca fun c args M r h=>?_
 unfold sF at h
 split at h
 ·rename_i b n c k
  split at h
  ·rename_i hc
   obtain⟨rfl,rfl,hb,o,hM⟩:=hc
   cases h
   refine ah ?_
   have:=ACallsTo.frame (M:=M) (new:=[.map (sds.map sdE)]) [b,c] (m:=[.absent,.cells false 3 (tC TS)]) rfl (by
    intro k hk
    simp only[List.mem_cons,List.not_mem_nil,or_false] at hk
    rcases hk with rfl | rfl
    ·exact hb
    ·exact ed hM) (by rfl) (fun i s hs=>by
    match i with
    |0=>simp at hs;subst hs;trivial
    |1=>simp at hs;subst hs;exact dO (jB TS) hM (List.take_length)
    |i+2=>simp at hs) rfl hw.owns
   simpa [AV.rens,AV.ren,eK,Slot.ren,Q9,Qe] using this
  ·cases h
 ·rename_i b n c k q
  split at h
  ·rename_i hc
   obtain⟨hb,hb2,hM⟩:=hc
   cases h
   refine ah ?_
   have:=vj M sds (cyc.map fun(n:Nat)=>(n:Int)) q b c n k hb hb2 hM hw.outer hw.cy
   rw[Sj,List.length_map] at this
   exact this
  ·cases h
 ·rename_i b n c k q l
  split at h
  ·rename_i hc
   obtain⟨rfl,rfl,hb2,⟨o,hM⟩,⟨o2,hM2⟩⟩:=hc
   cases h
   refine ah ?_
   have:=ACallsTo.frame (M:=M) (new:=[]) (args:=[.agg [.slice 0 0 PS.length none,.slice 1 0 k none],.slice 2 0 cyc.length none]) [b,c,q] (m:=[.cells false 2 (pC PS),.absent,.cells false 1 (cZ cyc)]) rfl (by
    intro k hk
    simp only[List.mem_cons,List.not_mem_nil,or_false] at hk
    rcases hk with rfl | rfl | rfl
    ·exact ed hM
    ·exact hb2
    ·exact ed hM2) (by rfl) (fun i s hs=>by
    match i with
    |0=>simp at hs;subst hs;exact dO (fh PS) hM (List.take_length)
    |1=>simp at hs;subst hs;trivial
    |2=>simp at hs;subst hs;exact dO (GC cyc) hM2 (List.take_length)
    |i+3=>simp at hs) rfl (by simpa using HP PS k cyc hw.dg hw.once hw.len3)
   simpa [AV.rens,AV.ren,eK] using this
  ·cases h
 ·cases h
set_option maxRecDepth 8192 in
set_option maxHeartbeats 6400000 in
theorem Du{PS:List P2}{TS:List Tr}{sds:List Sd}{cyc:List Nat}(hw:Tryz.Whole PS TS sds cyc):
  ACallsTo Tryz.prog 195 [.agg [.slice 0 0 PS.length none,.slice 1 0 TS.length none]] [.cells false 2 (pC PS),.cells false 3 (tC TS)] (.bool true) [.cells false 2 (pC PS),.cells false 3 (tC TS)]:=by
 have hG:aN Tryz.prog 195=some Tryz.f195:=by kernel_rfl
 have hl:=hw.len
 have hl2:=hw.len2
 obtain⟨b,b2,hb⟩:∃b b2,aj Tryz.f195=[b,b2]:=⟨_,_,rfl⟩
 obtain⟨K,hK⟩:∃K,K=TS.length:=⟨_,rfl⟩
 obtain⟨F,hF⟩:=yD (O:=sF PS TS sds cyc) (K:=K) PS TS (sds.map sdE) (by omega) (oW 5 sds) (by omega) hb
 simp[aj,aM,Tryz.f195] at hb
 obtain⟨rfl,rfl⟩:=hb
 have hF1:=fun env0 d h=>(hF env0 d h).1
 have hG1:=fun env0 d h=>(hF env0 d h).2.1
 have hG3:=fun env0 d h=>(hF env0 d h).2.2.1
 have hG5:=fun env0 d h=>(hF env0 d h).2.2.2
 clear hF
 have hu:=hw.used
 have h:aa (aO Tryz.prog) yC (aN Tryz.prog) (sF PS TS sds cyc) (K+5) 195 [.agg [.slice 0 0 PS.length none,.slice 1 0 TS.length none]] [.cells false 2 (pC PS),.cells false 3 (tC TS)]=some ⟨.bool true,none,[]⟩:=by
  simp only[sE,List.map_nil,msB] at hF1
  simp[aa,hG,Tryz.f195,hF1,hG1,hG3,hG5,sF,Mi,hu]
 have:=(af ae (aw _) (IT hw) (ax _) h).1
 simpa [CallRes.mem] using this
theorem IF{PS:List P2}{TS:List Tr}{sds:List Sd}{cyc:List Nat}(hw:Tryz.Whole PS TS sds cyc):OracleOk Tryz.prog (jQ PS TS):=by
 refine ca fun c args M r h=>?_
 unfold jQ at h
 split at h
 ·rename_i b n c k
  split at h
  ·rename_i hc
   obtain⟨rfl,rfl,⟨o,hM⟩,⟨o2,hM2⟩⟩:=hc
   cases h
   refine ah ?_
   have:=ACallsTo.frame (M:=M) (new:=[]) (args:=[.agg [.slice 0 0 PS.length none,.slice 1 0 TS.length none]]) [b,c] (m:=[.cells false 2 (pC PS),.cells false 3 (tC TS)]) rfl (by
    intro k hk
    simp only[List.mem_cons,List.not_mem_nil,or_false] at hk
    rcases hk with rfl | rfl
    ·exact ed hM
    ·exact ed hM2) (by rfl) (fun i s hs=>by
    match i with
    |0=>simp at hs;subst hs;exact dO (fh PS) hM (List.take_length)
    |1=>simp at hs;subst hs;exact dO (jB TS) hM2 (List.take_length)
    |i+2=>simp at hs) rfl (by simpa using Du hw)
   simpa [AV.rens,AV.ren,eK] using this
  ·cases h
 ·exact dJ yk h
set_option maxRecDepth 8192 in
set_option maxHeartbeats 6400000 in
theorem BF{PS:List P2}{TS:List Tr}{sds:List Sd}{cyc:List Nat}(hw:Tryz.Whole PS TS sds cyc):
  ACallsTo Tryz.prog 131 [.agg [.slice 0 0 PS.length none,.slice 1 0 TS.length none]] [.cells false 2 (pC PS),.cells false 3 (tC TS)] (.int .i64 0) [.cells false 2 (pC PS),.cells false 3 (tC TS)]:=by
 have hG:aN Tryz.prog 131=some Tryz.f131:=by kernel_rfl
 have hl:=hw.len
 have hl2:=hw.len2
 have hl0:0<TS.length:=by have:=hw.len0;cases TS with | nil=>exact absurd rfl this | cons a l=>simp
 obtain⟨b1,b2,b3,b4,b5,hb⟩:∃b1 b2 b3 b4 b5,aj Tryz.f131=[b1,b2,b3,b4,b5]:=⟨_,_,_,_,_,rfl⟩
 obtain⟨K,hK⟩:∃K,K=PS.length+TS.length:=⟨_,rfl⟩
 obtain⟨F,hF⟩:=uq (K:=K+5) PS TS hw.dg hw.nodup (by omega) (by omega) hb
 obtain⟨F2,hF2⟩:=ur (K:=K) PS TS (PS.map pmE) hw.dg hw.tr (by omega) (by omega) (CV 4 PS) (by omega) hb
 simp[aj,aM,Tryz.f131] at hb
 obtain⟨rfl,rfl,rfl,rfl,rfl⟩:=hb
 have hF1:=fun env0 d h=>(hF env0 d h).1
 have hF3:=fun env0 d h=>(hF2 env0 d h).1
 have hG1:=fun env0 d h=>(hF env0 d h).2
 have hG3:=fun env0 d h=>(hF2 env0 d h).2
 clear hF hF2
 have n1:¬(800:Int)<TS.length:=by omega
 have n2:¬(400:Int)<PS.length:=by omega
 have n3:¬800<TS.length:=by omega
 have n4:¬400<PS.length:=by omega
 have n5:¬TS.length=0:=by omega
 have n6:¬(TS.length:Int)=0:=by omega
 have h:aa (aO Tryz.prog) sw (aN Tryz.prog) (jQ PS TS) (K+5) 131 [.agg [.slice 0 0 PS.length none,.slice 1 0 TS.length none]] [.cells false 2 (pC PS),.cells false 3 (tC TS)]=some ⟨.int .i64 0,none,[]⟩:=by
  simp only[msB] at hF1 hF3
  simp[aa,hG,Tryz.f131,hF1,hF3,hG1,hG3,jQ,n1,n2,n5]
 have:=(af ae (aw _) (IF hw) (ax _) h).1
 simpa [CallRes.mem] using this
noncomputable def xu(f:FuncId) (args:List AV):Option AV:=
 match f,args with
 |66,[.int .i64 n,.int .i64 d]=>if 0<d∧dD n=true∧dD d=true then some (.tuple [.str (aB (mkRat n d.toNat)),.int .i64 0]) else none
 |_,_=>none
theorem Lj:OracleOk Tryz.prog (ai xu):=bM fun f args v h mem=>by
 unfold xu at h
 split at h
 ·rename_i n d
  split at h
  ·rename_i hc
   cases h
   have:=Dw n d.toNat (by omega) hc.2.1 (by rw[Int.toNat_of_nonneg (by omega)];exact hc.2.2) mem
   rw[Int.toNat_of_nonneg (by omega)] at this
   exact this
  ·cases h
 ·cases h
theorem mr{n:Int}(h0: -1000000≤n) (h1:n≤1000000):dD n=true:=by unfold dD;simp;omega
theorem eP{n:Int}(h0: -1000000≤n) (h1:n≤1000000):IntKind.i64.wrap n=n:=by rw[ag (by omega) (by omega)]
set_option maxHeartbeats 1600000 in
theorem Dq(s:Sheet) (hs:s.Ok) (x y:Int) (hx0: -128≤x) (hx1:x≤127) (hy0: -128≤y) (hy1:y≤127) (k:Nat) (hk:k=1∨k=2) (M:Mem):
  ACallsTo Tryz.prog 24 [s.av,.agg [.int .i8 x,.int .i8 y],.int .i64 (k:Int)] M (pA (s.pt k x y)) M:=by
 have hG:aN Tryz.prog 24=some Tryz.f24:=by kernel_rfl
 obtain⟨kd,sx,sy,hf⟩:=s
 have q1:=Qo sx
 have q2:=Qo sy
 unfold Sheet.av Sheet.pt
 simp only
 obtain⟨u,hu⟩:∃u,u=sx.tmod 8:=⟨_,rfl⟩
 obtain⟨v,hv⟩:∃u,u=sy.tmod 8:=⟨_,rfl⟩
 rw[←hu] at q1 ⊢
 rw[←hv] at q2 ⊢
 refine aq Lj (lv:=fun _=>[]) (K:=1) rfl rfl ?_ M
 have wx:IntKind.i64.wrap x=x:=eP (by omega) (by omega)
 have wy:IntKind.i64.wrap y=y:=eP (by omega) (by omega)
 have wu:IntKind.i64.wrap u=u:=eP (by omega) (by omega)
 have wv:IntKind.i64.wrap v=v:=eP (by omega) (by omega)
 rcases hk with rfl | rfl
 ·have a1:IntKind.i64.wrap (x+u)=x+u:=eP (by omega) (by omega)
  have a2:IntKind.i64.wrap (y+v)=y+v:=eP (by omega) (by omega)
  have b1:IntKind.i64.wrap 1=1:=rfl
  have b2:IntKind.i64.wrap 2=2:=rfl
  have f1:dD (x+u)=true:=mr (by omega) (by omega)
  have f2:dD (y+v)=true:=mr (by omega) (by omega)
  have f3:dD 1=true:=rfl
  have f4:dD 2=true:=rfl
  cases hf<;>simp[aa,hG,Tryz.f24,ai,xu,←hu,←hv,wx,wy,wu,wv,a1,a2,b1,b2,f1,f2,f3,f4,bx,aG,pA]
 ·have a1:IntKind.i64.wrap (x+u*2)=x+u*2:=eP (by omega) (by omega)
  have a2:IntKind.i64.wrap (y+v*2)=y+v*2:=eP (by omega) (by omega)
  have c1:IntKind.i64.wrap (u*2)=u*2:=eP (by omega) (by omega)
  have c2:IntKind.i64.wrap (v*2)=v*2:=eP (by omega) (by omega)
  have b2:IntKind.i64.wrap 2=2:=rfl
  have b4:IntKind.i64.wrap 4=4:=rfl
  have f1:dD (x+u*2)=true:=mr (by omega) (by omega)
  have f2:dD (y+v*2)=true:=mr (by omega) (by omega)
  have f3:dD 2=true:=rfl
  have f4:dD 4=true:=rfl
  cases hf<;>simp[aa,hG,Tryz.f24,ai,xu,←hu,←hv,wx,wy,wu,wv,a1,a2,c1,c2,b2,b4,f1,f2,f3,f4,bx,aG,pA]
theorem BE(k:Nat) (hk:k<256):ACallsTo Tryz.prog 23 [.int .u8 (k:Int)] [] (.tuple [.slice 0 0 (cP (k%8)).length none,.slice 1 0 (bq (k%8)).length none]) [.cells true 2 (iP (cP (k%8))),.cells true 3 (tC (bq (k%8)))]:=by
 have hG:aN Tryz.prog 23=some Tryz.f23:=by kernel_rfl
 have ht:(k:Int).tmod 8=((k%8:Nat):Int):=rfl
 have hlt:k%8<8:=Nat.mod_lt _ (by omega)
 obtain⟨j,hj⟩:∃j,j=k%8:=⟨_,rfl⟩
 rw[←hj] at ht hlt ⊢
 have h:aa (aO Tryz.prog) (fun _=>[]) (aN Tryz.prog) bt 1 23 [.int .u8 (k:Int)] []=some ⟨.tuple [.slice 0 0 (cP j).length none,.slice 1 0 (bq j).length none],none,[.cells true 2 (iP (cP j)),.cells true 3 (tC (bq j))]⟩:=by
  have hjj:j=0∨j=1∨j=2∨j=3∨j=4∨j=5∨j=6∨j=7:=by omega
  clear hlt hj
  rcases hjj with rfl | rfl | rfl | rfl | rfl | rfl | rfl | rfl<;>simp[aa,hG,Tryz.f23,ht,cP,bq,sqI,iP,tC,bx]<;>exact⟨rfl,rfl⟩
 have:=(af ae (aw _) (ak _) (ax _) h).1
 simpa [CallRes.mem] using this
theorem Ds(k:Nat) (hk:k<256) (M:Mem):ACallsTo Tryz.prog 23 [.int .u8 (k:Int)] M (.tuple [.slice M.length 0 (cP (k%8)).length none,.slice (M.length+1) 0 (bq (k%8)).length none]) (M++[.cells true 2 (iP (cP (k%8))),.cells true 3 (tC (bq (k%8)))]):=by
 have:=ACallsTo.frame (M:=M) (new:=[.cells true 2 (iP (cP (k%8))),.cells true 3 (tC (bq (k%8)))]) (args:=[.int .u8 (k:Int)]) [] (m:=[]) rfl (by simp) (by rfl) (fun i s hs=>by simp at hs) rfl (BE k hk)
 simpa [AV.ren,AV.rens,eK,Slot.ren,NQ,HB] using this
noncomputable def l9(s:Sheet):Oracle:=fun c args M=>match c,args with
 |.fn 23,[.int .u8 k]=>if k=(s.kind:Int) then some ⟨.tuple [.slice M.length 0 (cP (s.kind%8)).length none,.slice (M.length+1) 0 (bq (s.kind%8)).length none],none,[.cells true 2 (iP (cP (s.kind%8))),.cells true 3 (tC (bq (s.kind%8)))]⟩ else none
 |.fn 24,[.agg [.int .u8 k,.int .i8 sx,.int .i8 sy,.bool h],.agg [.int .i8 x,.int .i8 y],.int .i64 n]=>if k=(s.kind:Int)∧sx=s.sx∧sy=s.sy∧h=s.half∧ -128≤x∧x≤127∧ -128≤y∧y≤127∧n=1 then some ⟨pA (s.pt 1 x y),none,[]⟩ else none
 |_,_=>none
theorem IE(s:Sheet) (hs:s.Ok):OracleOk Tryz.prog (l9 s):=by
 refine ca fun c args M r h=>?_
 unfold l9 at h
 split at h
 ·split at h
  ·rename_i hc
   subst hc
   cases h
   exact ah (Ds s.kind hs.kind M)
  ·cases h
 ·split at h
  ·rename_i hc
   obtain⟨rfl,rfl,rfl,rfl,h1,h2,h3,h4,rfl⟩:=hc
   cases h
   refine ah ?_
   rw[List.append_nil]
   exact Dq s hs _ _ h1 h2 h3 h4 1 (.inl rfl) M
  ·cases h
 ·cases h
def OB(L:List (Int×Int)):Prop:=∀p∈L,0≤p.1∧p.1≤6∧0≤p.2∧p.2≤6
theorem Hx(k:Nat) (hk:k<8):OB (cP k):=by
 have hjj:k=0∨k=1∨k=2∨k=3∨k=4∨k=5∨k=6∨k=7:=by omega
 rcases hjj with rfl | rfl | rfl | rfl | rfl | rfl | rfl | rfl<;>(unfold OB;decide)
def RP(n:Nat):AV:=match n with
 |0=>.nilslice
 |n+1=>.slice 5 0 (n+1) none
def Jg(s:Sheet) (SP:List (Int×Int)) (TS:List Tr) (n:Nat):Mem:=
 [.cells true 0 [.int .u8 s.kind,.int .i8 s.sx,.int .i8 s.sy,.bool s.half],.cells true 0 [.nilslice,.nilslice],.cells true 2 (iP SP),.cells true 3 (tC TS),.cells true 0 [RP n,.slice 3 0 TS.length none]]++
  (match n with
  |0=>[]
  |n+1=>[.cells true 2 (pC ((SP.take (n+1)).map fun p=>s.pt 1 p.1 p.2))])
theorem zg{s:Sheet}{SP:List (Int×Int)}{TS:List Tr}{n:Nat}(h:0<n):Jg s SP TS n=
  [.cells true 0 [.int .u8 s.kind,.int .i8 s.sx,.int .i8 s.sy,.bool s.half],.cells true 0 [.nilslice,.nilslice],.cells true 2 (iP SP),.cells true 3 (tC TS),.cells true 0 [.slice 5 0 n none,.slice 3 0 TS.length none],.cells true 2 (pC ((SP.take n).map fun p=>s.pt 1 p.1 p.2))]:=by
 cases n with
 |zero=>omega
 |succ n=>rfl
set_option maxRecDepth 8192 in
set_option maxHeartbeats 12800000 in
theorem yi{K:Nat}(s:Sheet) (SP:List (Int×Int)) (TS:List Tr) (hsm:OB SP) (hl:SP.length≤1000000) (hK:SP.length<K) {b:Code}(hb:aj Tryz.f7=[b]):
  ∃F:Env→Env,∀env0,(ab env0 1=.ptr 0 0∧ab env0 3=.slice 2 0 SP.length none∧ab env0 5=.ptr 4 0∧ab env0 6=.int .i64 0∧ab env0 2=.ptr 1 0)→
   aU (aO Tryz.prog) (fun _=>[6,6]) (l9 s) K 42 0 true (.loop b) ⟨env0,Jg s SP TS 0,false⟩=some (.exit 0,⟨F env0,Jg s SP TS SP.length,decide (0<SP.length)⟩)∧ab (F env0) 5=.ptr 4 0∧ab (F env0) 2=.ptr 1 0:=by
 refine rI (L:=[6,6]) rfl false _ (fun env0=>ab env0 1=.ptr 0 0∧ab env0 3=.slice 2 0 SP.length none∧ab env0 5=.ptr 4 0∧ab env0 6=.int .i64 0∧ab env0 2=.ptr 1 0) (fun _ env' =>ab env' 5=.ptr 4 0∧ab env' 2=.ptr 1 0) ?_
 rintro env0 ⟨h1,h3,h5,h6,h2⟩
 obtain⟨ops,hops⟩:∃ops,aV Tryz.f7=[ops]:=⟨_,rfl⟩
 have hbs:=di hops (l:=[0,1,0,0,0,24,56,120,248,0,0,1536,3584,7680,15872,32760,65532,131068,262143,524287,1048575]) (by kernel_rfl)
 have k17:Gx [0,1,0,0,0,24,56,120,248,0,0,1536,3584,7680,15872,32760,65532,131068,262143,524287,1048575] 21 17=true:=by decide
 have k18:Gx [0,1,0,0,0,24,56,120,248,0,0,1536,3584,7680,15872,32760,65532,131068,262143,524287,1048575] 21 18=true:=by decide
 have k20:Gx [0,1,0,0,0,24,56,120,248,0,0,1536,3584,7680,15872,32760,65532,131068,262143,524287,1048575] 21 20=true:=by decide
 have j18:cU [0,1,0,0,0,24,56,120,248,0,0,1536,3584,7680,15872,32760,65532,131068,262143,524287,1048575] 18=true:=by decide
 have j20:cU [0,1,0,0,0,24,56,120,248,0,0,1536,3584,7680,15872,32760,65532,131068,262143,524287,1048575] 20=true:=by decide
 simp[aV,cc,Tryz.f7] at hops
 simp[aj,aM,Tryz.f7] at hb
 have hn0:az [6,6] (ad b) env0 ((6,.int .i64 ((0:Nat):Int))::env0)=az [6,6] (ad b) env0 env0:=by simp[az,h6]
 rw[←hn0]
 refine bK (α:=Nat) (fun n=>⟨az [6,6] (ad b) env0 ((6,.int .i64 (n:Int))::env0),Jg s SP TS n,decide (0<n)⟩) (fun n=>SP.length-n) (fun n=>n≤SP.length) (.exit 0) _ _ _ (by simp) ?_ K 0 (by omega) (by omega)
 intro n hn1
 clear hn0
 subst hb
 subst hops
 by_cases hlt:n<SP.length
 ·left
  obtain⟨p,hp⟩:∃q,SP[n]? =some q:=⟨SP[n],List.getElem?_eq_getElem hlt⟩
  obtain⟨q1,q2,q3⟩:=So hp
  obtain⟨x0,x1,y0,y1⟩:=hsm p (List.mem_of_getElem? hp)
  obtain⟨px,py⟩:=p
  simp only at q1 q2 x0 x1 y0 y1
  have ht:(SP.take (n+1)).map (fun p=>s.pt 1 p.1 p.2)=(SP.take n).map (fun p=>s.pt 1 p.1 p.2)++[s.pt 1 px py]:=by rw[List.take_add_one,hp];simp
  have v1:IntKind.i8.wrap px=px:=OJ (by omega) (by omega)
  have v2:IntKind.i8.wrap py=py:=OJ (by omega) (by omega)
  have c1: -128≤px:=by omega
  have c2:px≤127:=by omega
  have c3: -128≤py:=by omega
  have c4:py≤127:=by omega
  have w1:IntKind.i64.wrap ((n:Int)+1)=((n+1:Nat):Int):=by rw[ag (by omega) (by omega)];omega
  obtain⟨P,hP⟩:∃P,P=(SP.take n).map (fun p=>s.pt 1 p.1 p.2):=⟨_,rfl⟩
  have hPl:P.length=n:=by rw[hP,List.length_map,List.length_take];omega
  obtain⟨z,hz⟩:∃z,z=s.pt 1 px py:=⟨_,rfl⟩
  rw[←hP,←hz] at ht
  have hpc:pC (P++[z])=pC P++[.str (aB z.1),.str (aB z.2)]:=by rw[Hf];rfl
  have hpl:=zz P
  rw[hPl] at hpl
  obtain⟨m,hm⟩:∃m,m=n+1:=⟨_,rfl⟩
  refine⟨m,?_⟩
  by_cases hn0:n=0
  ·subst hn0
   have hm1:m=1:=by omega
   subst hm1
   have hP0:P=[]:=List.eq_nil_of_length_eq_zero hPl
   rw[hP0] at ht hpc
   simp at ht hpc
   have w0:IntKind.i64.wrap 1=1:=rfl
   simp[Jg,RP,h1,h3,h5,hlt,q1,q2,v1,v2,c1,c2,c3,c4,w0,l9,←hz,pA,-aQ,zN hbs,tG,zn,J7,cS,k17,k18,k20,j18,j20,ht,hpc,Jc,rR,NQ,HB,RS,bx,Nat.testBit]
   omega
  ·have hpos:0<n:=by omega
   rw[←hm] at w1 ht
   have hmp:0<m:=by omega
   have hd1:decide (0<n)=true:=by simpa using hpos
   rw[zg hpos,zg hmp,hd1,←hP,ht,hpc]
   clear hP ht hpc
   have g1:m*32≤140737488355328:=by omega
   have g2:n≤140737488355327:=by omega
   have g5:(Jg s SP TS 0).length=5:=rfl
   have g4:m≤140737488355328:=by omega
   have g3:(pC P).take (n*2)=pC P:=List.take_of_length_le (by omega)
   simp[h1,h3,h5,hlt,q1,q2,v1,v2,c1,c2,c3,c4,w1,l9,←hz,pA,-aQ,zN hbs,tG,zn,J7,cS,k17,k18,k20,j18,j20,hpl,hmp,←hm,g1,g4,g3,g5,RT,Jc,rR,uU,NQ,HB,Of,bx,Nat.testBit]
   omega
 ·right
  have e:n=SP.length:=by omega
  subst e
  simp[h3,h5,h2]
theorem Mu(k:Nat):0<(cP k).length:=by
 unfold cP
 split<;>simp[sqI]
theorem Bv(k:Nat):(cP k).length≤6:=by
 unfold cP
 split<;>simp[sqI]
theorem Sheet.P_length(s:Sheet):s.P.length=(cP (s.kind%8)).length:=by simp[Sheet.P]
set_option maxRecDepth 8192 in
set_option maxHeartbeats 6400000 in
theorem Dp(s:Sheet) (hs:s.Ok):ACallsTo Tryz.prog 7 [s.av] [] (.agg [.slice 0 0 s.P.length none,.slice 1 0 s.T.length none]) [.cells true 2 (pC s.P),.cells true 3 (tC s.T)]:=by
 have hG:aN Tryz.prog 7=some Tryz.f7:=by kernel_rfl
 have hpos:=Mu (s.kind%8)
 have hle:=Bv (s.kind%8)
 obtain⟨b,hb⟩:∃b,aj Tryz.f7=[b]:=⟨_,rfl⟩
 obtain⟨F,hF⟩:=yi (K:=10) s (cP (s.kind%8)) (bq (s.kind%8)) (Hx _ (Nat.mod_lt _ (by omega))) (by omega) (by omega) hb
 simp[aj,aM,Tryz.f7] at hb
 subst hb
 have hd:decide (0<(cP (s.kind%8)).length)=true:=by simpa using hpos
 rw[zg hpos,hd,List.take_length] at hF
 have hF1:=fun env0 h=>(hF env0 h).1
 have hG1:=fun env0 h=>(hF env0 h).2.1
 have hG2:=fun env0 h=>(hF env0 h).2.2
 clear hF
 have hm0:Jg s (cP (s.kind%8)) (bq (s.kind%8)) 0=[.cells true 0 [.int .u8 s.kind,.int .i8 s.sx,.int .i8 s.sy,.bool s.half],.cells true 0 [.nilslice,.nilslice],.cells true 2 (iP (cP (s.kind%8))),.cells true 3 (tC (bq (s.kind%8))),.cells true 0 [.nilslice,.slice 3 0 (bq (s.kind%8)).length none]]:=rfl
 rw[hm0] at hF1
 rw[Sheet.P_length]
 unfold Sheet.P Sheet.T
 obtain⟨SP,hSP⟩:∃SP,SP=cP (s.kind%8):=⟨_,rfl⟩
 obtain⟨ST,hST⟩:∃SP,SP=bq (s.kind%8):=⟨_,rfl⟩
 rw[←hSP,←hST] at hF1
 rw[←hSP] at hG1 hG2
 rw[←hSP,←hST]
 have h:aa (aO Tryz.prog) (fun _=>[6,6]) (aN Tryz.prog) (l9 s) 10 7 [s.av] []=some ⟨.agg [.slice 0 0 SP.length none,.slice 1 0 ST.length none],some [],[.cells true 2 (pC (SP.map fun p=>s.pt 1 p.1 p.2)),.cells true 3 (tC ST)]⟩:=by
  simp[aa,hG,Tryz.f7,Sheet.av,hF1,hG1,hG2,l9,←hSP,←hST,rR,uU,HB,Of,bx,aG]
  exact⟨rfl,rfl⟩
 have:=(af ae (aw _) (IE s hs) (ax _) h).1
 simpa [CallRes.mem] using this
theorem HN(s:Sheet) (hs:s.Ok) (M:Mem):ACallsTo Tryz.prog 7 [s.av] M (.agg [.slice M.length 0 s.P.length none,.slice (M.length+1) 0 s.T.length none]) (M++[.cells true 2 (pC s.P),.cells true 3 (tC s.T)]):=by
 have:=ACallsTo.frame (M:=M) (new:=[.cells true 2 (pC s.P),.cells true 3 (tC s.T)]) (args:=[s.av]) [] (m:=[]) rfl (by simp) (by rfl) (fun i s hs=>by simp at hs) rfl (Dp s hs)
 simpa [AV.ren,AV.rens,eK,Slot.ren,Of,HB,Sheet.av] using this
def gx(PS:List P2) (TS:List Tr) (cyc:List Nat):Bool:=
 decide PS.Nodup&&(PS.all fun p=>decide (p.1.num.natAbs<1000)&&decide (p.1.den<10)&&decide (p.2.num.natAbs<1000)&&decide (p.2.den<10))&&
  (TS.all fun t=>match PS[t.1]?,PS[t.2.1]?,PS[t.2.2]? with
   |some p,some q,some r=>decide (0<xI (xd p q r))
   |_,_,_=>false)&&
  ((List.range cyc.length).all fun i=>decide (0≤xI (xd (zC PS cyc i) (zC PS cyc (i+1)) (zC PS cyc (i+2)))))&&decide (jz PS cyc cyc.length=1)
def Qa(k:Nat) (u v:Int) (h:Bool):List P2:=
 (cP k).map fun p=>(mkRat (p.1+u*(1:Nat)) ((if h then 2 else 1)*1),mkRat (p.2+v*(1:Nat)) ((if h then 2 else 1)*1))
theorem Rc:((List.range 15).all fun a=>(List.range 15).all fun b=>[false,true].all fun h=>gx (Qa 0 ((a:Int)-7) ((b:Int)-7) h) (bq 0) (jA 0))=true:=by kernel_rfl
theorem Rd:((List.range 15).all fun a=>(List.range 15).all fun b=>[false,true].all fun h=>gx (Qa 1 ((a:Int)-7) ((b:Int)-7) h) (bq 1) (jA 1))=true:=by kernel_rfl
theorem Re:((List.range 15).all fun a=>(List.range 15).all fun b=>[false,true].all fun h=>gx (Qa 2 ((a:Int)-7) ((b:Int)-7) h) (bq 2) (jA 2))=true:=by kernel_rfl
theorem Rf:((List.range 15).all fun a=>(List.range 15).all fun b=>[false,true].all fun h=>gx (Qa 3 ((a:Int)-7) ((b:Int)-7) h) (bq 3) (jA 3))=true:=by kernel_rfl
theorem Rg:((List.range 15).all fun a=>(List.range 15).all fun b=>[false,true].all fun h=>gx (Qa 4 ((a:Int)-7) ((b:Int)-7) h) (bq 4) (jA 4))=true:=by kernel_rfl
theorem Rh:((List.range 15).all fun a=>(List.range 15).all fun b=>[false,true].all fun h=>gx (Qa 5 ((a:Int)-7) ((b:Int)-7) h) (bq 5) (jA 5))=true:=by kernel_rfl
theorem Ri:((List.range 15).all fun a=>(List.range 15).all fun b=>[false,true].all fun h=>gx (Qa 6 ((a:Int)-7) ((b:Int)-7) h) (bq 6) (jA 6))=true:=by kernel_rfl
theorem Rj:((List.range 15).all fun a=>(List.range 15).all fun b=>[false,true].all fun h=>gx (Qa 7 ((a:Int)-7) ((b:Int)-7) h) (bq 7) (jA 7))=true:=by kernel_rfl
theorem Mv(k:Nat) (hk:k<8):((List.range 15).all fun a=>(List.range 15).all fun b=>[false,true].all fun h=>gx (Qa k ((a:Int)-7) ((b:Int)-7) h) (bq k) (jA k))=true:=by
 have hjj:k=0∨k=1∨k=2∨k=3∨k=4∨k=5∨k=6∨k=7:=by omega
 rcases hjj with rfl | rfl | rfl | rfl | rfl | rfl | rfl | rfl
 ·exact Rc
 ·exact Rd
 ·exact Re
 ·exact Rf
 ·exact Rg
 ·exact Rh
 ·exact Ri
 ·exact Rj
theorem Qh(s:Sheet):gx s.P s.T (jA (s.kind%8))=true:=by
 have hk:s.kind%8<8:=Nat.mod_lt _ (by omega)
 have h:=Mv (s.kind%8) hk
 obtain⟨u0,u1⟩:=Qo s.sx
 obtain⟨v0,v1⟩:=Qo s.sy
 have h1:=List.all_eq_true.1 h (s.sx.tmod 8+7).toNat (List.mem_range.2 (by omega))
 have h2:=List.all_eq_true.1 h1 (s.sy.tmod 8+7).toNat (List.mem_range.2 (by omega))
 have h3:=List.all_eq_true.1 h2 s.half (by cases s.half<;>simp)
 have e1:(((s.sx.tmod 8+7).toNat:Nat):Int)-7=s.sx.tmod 8:=by omega
 have e2:(((s.sy.tmod 8+7).toNat:Nat):Int)-7=s.sy.tmod 8:=by omega
 rw[e1,e2] at h3
 exact h3
def Mt:List Tr→Int→List Sd
 | [],_=>[]
 |t::l,i=>((t.1,t.2.1),i)::((t.2.1,t.2.2),i)::((t.2.2,t.1),i)::Mt l (i+1)
theorem Lk:ACallsTo Tryz.prog 234 [.agg [.slice 0 0 (cP 0).length none,.slice 1 0 (bq 0).length none]] [.absent,.cells false 3 (tC (bq 0))] (.tuple [.map 2,.bool true]) ([.absent,.cells false 3 (tC (bq 0))]++[.map ((Mt (bq 0) 0).map sdE)]):=
 oJ (lv:=ad) (K:=60) (n:=10) ae (aw _) (ax _) (ak _) (by as_aux_lemma=>kernel_rfl)
theorem Ll:ACallsTo Tryz.prog 234 [.agg [.slice 0 0 (cP 1).length none,.slice 1 0 (bq 1).length none]] [.absent,.cells false 3 (tC (bq 1))] (.tuple [.map 2,.bool true]) ([.absent,.cells false 3 (tC (bq 1))]++[.map ((Mt (bq 1) 0).map sdE)]):=
 oJ (lv:=ad) (K:=60) (n:=10) ae (aw _) (ax _) (ak _) (by as_aux_lemma=>kernel_rfl)
theorem Lm:ACallsTo Tryz.prog 234 [.agg [.slice 0 0 (cP 2).length none,.slice 1 0 (bq 2).length none]] [.absent,.cells false 3 (tC (bq 2))] (.tuple [.map 2,.bool true]) ([.absent,.cells false 3 (tC (bq 2))]++[.map ((Mt (bq 2) 0).map sdE)]):=
 oJ (lv:=ad) (K:=60) (n:=10) ae (aw _) (ax _) (ak _) (by as_aux_lemma=>kernel_rfl)
theorem Ln:ACallsTo Tryz.prog 234 [.agg [.slice 0 0 (cP 3).length none,.slice 1 0 (bq 3).length none]] [.absent,.cells false 3 (tC (bq 3))] (.tuple [.map 2,.bool true]) ([.absent,.cells false 3 (tC (bq 3))]++[.map ((Mt (bq 3) 0).map sdE)]):=
 oJ (lv:=ad) (K:=60) (n:=10) ae (aw _) (ax _) (ak _) (by as_aux_lemma=>kernel_rfl)
theorem Lp:ACallsTo Tryz.prog 234 [.agg [.slice 0 0 (cP 4).length none,.slice 1 0 (bq 4).length none]] [.absent,.cells false 3 (tC (bq 4))] (.tuple [.map 2,.bool true]) ([.absent,.cells false 3 (tC (bq 4))]++[.map ((Mt (bq 4) 0).map sdE)]):=
 oJ (lv:=ad) (K:=60) (n:=10) ae (aw _) (ax _) (ak _) (by as_aux_lemma=>kernel_rfl)
theorem Lq:ACallsTo Tryz.prog 234 [.agg [.slice 0 0 (cP 5).length none,.slice 1 0 (bq 5).length none]] [.absent,.cells false 3 (tC (bq 5))] (.tuple [.map 2,.bool true]) ([.absent,.cells false 3 (tC (bq 5))]++[.map ((Mt (bq 5) 0).map sdE)]):=
 oJ (lv:=ad) (K:=60) (n:=10) ae (aw _) (ax _) (ak _) (by as_aux_lemma=>kernel_rfl)
theorem Lr:ACallsTo Tryz.prog 234 [.agg [.slice 0 0 (cP 6).length none,.slice 1 0 (bq 6).length none]] [.absent,.cells false 3 (tC (bq 6))] (.tuple [.map 2,.bool true]) ([.absent,.cells false 3 (tC (bq 6))]++[.map ((Mt (bq 6) 0).map sdE)]):=
 oJ (lv:=ad) (K:=60) (n:=10) ae (aw _) (ax _) (ak _) (by as_aux_lemma=>kernel_rfl)
theorem Ls:ACallsTo Tryz.prog 234 [.agg [.slice 0 0 (cP 7).length none,.slice 1 0 (bq 7).length none]] [.absent,.cells false 3 (tC (bq 7))] (.tuple [.map 2,.bool true]) ([.absent,.cells false 3 (tC (bq 7))]++[.map ((Mt (bq 7) 0).map sdE)]):=
 oJ (lv:=ad) (K:=60) (n:=10) ae (aw _) (ax _) (ak _) (by as_aux_lemma=>kernel_rfl)
theorem Cl(k:Nat) (hk:k<8):ACallsTo Tryz.prog 234 [.agg [.slice 0 0 (cP k).length none,.slice 1 0 (bq k).length none]] [.absent,.cells false 3 (tC (bq k))] (.tuple [.map 2,.bool true]) ([.absent,.cells false 3 (tC (bq k))]++[.map ((Mt (bq k) 0).map sdE)]):=by
 have hjj:k=0∨k=1∨k=2∨k=3∨k=4∨k=5∨k=6∨k=7:=by omega
 rcases hjj with rfl | rfl | rfl | rfl | rfl | rfl | rfl | rfl
 ·exact Lk
 ·exact Ll
 ·exact Lm
 ·exact Ln
 ·exact Lp
 ·exact Lq
 ·exact Lr
 ·exact Ls
theorem Jx(k:Nat) (hk:k<8):rO (Mt (bq k) 0)=true∧yT (qh (Mt (bq k) 0))=some ((jA k).map fun(n:Nat)=>(n:Int))∧(HD (bq k)).length=(cP k).length∧jA k≠[]∧(∀c∈jA k,c<(cP k).length)∧bq k≠[]∧(bq k).length≤4∧(jA k).length≤6:=by
 have hjj:k=0∨k=1∨k=2∨k=3∨k=4∨k=5∨k=6∨k=7:=by omega
 rcases hjj with rfl | rfl | rfl | rfl | rfl | rfl | rfl | rfl<;>decide
theorem wU(s:Sheet):Tryz.Whole s.P s.T (Mt s.T 0) (jA (s.kind%8)):=by
 have hk:s.kind%8<8:=Nat.mod_lt _ (by omega)
 have h:=Qh s
 obtain⟨f1,f2,f3,f4,f5,f6,f7,f8⟩:=Jx (s.kind%8) hk
 have hlen:=Sheet.P_length s
 have hle:=Bv (s.kind%8)
 unfold gx at h
 simp only[Bool.and_eq_true,decide_eq_true_eq] at h
 obtain⟨⟨⟨⟨h1,h2⟩,h3⟩,h4⟩,h5⟩:=h
 refine⟨fun p hp=>?_,h1,?_,f1,f2,by rw[hlen];exact f3,⟨f4,by rw[hlen];exact f5,fun i hi=>?_,h5⟩,fun t ht=>?_,by omega,f6,by show(bq _).length≤800;omega,by omega⟩
 ·have:=List.all_eq_true.1 h2 p hp
  simp only[Bool.and_eq_true,decide_eq_true_eq] at this
  obtain⟨⟨⟨a1,a2⟩,a3⟩,a4⟩:=this
  have d1:dg 3 1 p.1:=⟨a1,a2⟩
  have d2:dg 3 1 p.2:=⟨a3,a4⟩
  exact⟨d1.mono (by omega) (by omega),d2.mono (by omega) (by omega)⟩
 ·unfold yr
  rw[hlen]
  exact Cl (s.kind%8) hk
 ·have:=List.all_eq_true.1 h4 i (List.mem_range.2 hi)
  simpa using this
 ·have:=List.all_eq_true.1 h3 t ht
  unfold Su
  split at this
  ·rename_i p q r e1 e2 e3
   exact⟨p,q,r,e1,e2,e3,by simpa using this⟩
  ·cases this
theorem BG(s:Sheet):ACallsTo Tryz.prog 131 [.agg [.slice 0 0 s.P.length none,.slice 1 0 s.T.length none]] [.cells false 2 (pC s.P),.cells false 3 (tC s.T)] (.int .i64 0) [.cells false 2 (pC s.P),.cells false 3 (tC s.T)]:=
 BF (wU s)
end Go.Proofs
