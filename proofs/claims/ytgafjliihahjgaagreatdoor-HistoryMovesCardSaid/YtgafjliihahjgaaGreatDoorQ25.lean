/- See Q54. -/
import Derived.Test.YtgafjliihahjgaaGreatDoorQ23
import Derived.Test.YtgafjliihahjgaaGreatDoorQ24
import Derived.Test.YtgafjliihahjgaaGreatDoorQ17
set_option linter.all false
namespace Go.Proofs
open Go.Eng
def uE(a:Nat):AV×AV:=(.int .i64 (a:Int),.bool true)
def SG(L:List Nat) (a:Nat):List Nat:=if a∈L then L else L++[a]
def TP(L:List Nat) (t:Tr):List Nat:=SG (SG (SG L t.1) t.2.1) t.2.2
def Io(TS:List Tr):List Nat:=TS.foldl TP []
theorem RB{α:Type}{l:List α}{i:Nat}{x:α}(h:l[i]? =some x):l.set i x=l:=by
 apply List.ext_getElem?;intro j;rw[List.getElem?_set];by_cases hij:i=j
 ·subst hij
  rw[if_pos rfl,if_pos (List.getElem?_eq_some_iff.1 h).1,h]
 ·rw[if_neg hij]
theorem tT(a:Nat):∀(L:List Nat) (i:Nat),(a∉L→ig (aM Tryz.prog) 3 (.int .i64 (a:Int)) (L.map uE) i=some none)∧(a∈L→∃q,ig (aM Tryz.prog) 3 (.int .i64 (a:Int)) (L.map uE) i=some (some (i+q,.bool true))∧L[q]? =some a)
 | [],i=>⟨fun _=>rfl,fun h=>by cases h⟩
 |b::L,i=>by
  have e:gT (aM Tryz.prog) 20 3 (.int .i64 (a:Int)) (.int .i64 (b:Int))=some (decide ((a:Int)=(b:Int))):=by simp[gT]
  simp only[List.map_cons,ig,uE,e];have ih:=tT a L (i+1);by_cases h:a=b
  ·subst h
   simp only[decide_true];exact⟨fun h=>absurd (List.mem_cons_self ..) h,fun _=>⟨0,rfl,rfl⟩⟩
  ·have h' :¬((a:Int)=(b:Int)):=by omega
   simp only[h',decide_false];refine⟨fun hn=>ih.1 (fun h2=>hn (List.mem_cons_of_mem _ h2)),fun hm=>?_⟩;rcases List.mem_cons.1 hm with h2 | h2
   ·exact absurd h2 h
   ·obtain⟨q,q1,q2⟩:=ih.2 h2
    exact⟨q+1,by rw[q1,show i+1+q=i+(q+1) by omega],by simpa using q2⟩
theorem NJ(M:Mem) (b:Nat) (L:List Nat) (a:Nat) (hM:M[b]? =some (.map (L.map uE))):dU (aM Tryz.prog) M 255 (.map b) (.int .i64 (a:Int)) (.bool true)=some (M.set b (.map ((SG L a).map uE))):=by
 have hk:jN (aM Tryz.prog) 20 3 (.int .i64 (a:Int))=true:=by simp[jN]
 unfold dU;rw[G1];simp only[hM,hk,if_true];by_cases h:a∈L
 ·obtain⟨q,q1,q2⟩:=(tT a L 0).2 h
  rw[q1];have:SG L a=L:=if_pos h;rw[this,Nat.zero_add];simp only[AV.scalarKey,if_true];rw[show((.int .i64 (a:Int),.bool true):AV×AV)=uE a from rfl,RB (l:=L.map uE) (i:=q) (x:=uE a) (by rw[List.getElem?_map,q2];rfl)]
 ·rw[(tT a L 0).1 h]
  have:SG L a=L++[a]:=if_neg h;rw[this];simp[uE]
theorem PR(n:Nat):∀L:List Nat,(L.map uE).flatMap (fun e=>e.1.refs n++e.2.refs n)=[]
 | []=>rfl
 |p::N=>by simp[uE,AV.refs,PR n N]
theorem Nt{TS:List Tr}{n:Nat}{t:Tr}(h:TS[n]? =some t):Io (TS.take (n+1))=TP (Io (TS.take n)) t:=by rw[List.take_add_one,h];simp[Io]
def sk(PS:List P2) (TS:List Tr) (D:List (AV×AV)) (L:List Nat):Mem:=[.cells false 2 (pC PS),.cells false 3 (tC TS),msB PS.length TS.length,.map D,.map (L.map uE)]
def yx(c:Code):List Nat:=if (ad c).contains 23 then [23] else [28]
set_option maxRecDepth 8192 in
set_option maxHeartbeats 12800000 in
theorem yy{O:Oracle}{K:Nat}(PS:List P2) (TS:List Tr) (D:List (AV×AV)) (hl2:TS.length≤1000000000) (hD:D.flatMap (fun e=>e.1.refs 5++e.2.refs 5)=[]) (hK:TS.length<K+5) {b b2:Code}(hb:ax Tryz.f107=[b,b2]):
  ∃F:Env→Bool→Env,∀env0 d,(ab env0 5=.map 4∧ab env0 21=.slice 1 0 TS.length none∧ab env0 22=.int .i64 TS.length∧ab env0 23=.int .i64 0∧ab env0 1=.ptr 2 0∧ab env0 3=.map 3)→
   aT (aM Tryz.prog) yx O (K+5) 55 2 true (.loop b) ⟨env0,sk PS TS D [],d⟩=some (.exit 0,⟨F env0 d,sk PS TS D (Io TS),d⟩)∧ab (F env0 d) 1=.ptr 2 0∧ab (F env0 d) 3=.map 3∧ab (F env0 d) 5=.map 4:=by
 refine cg (L:=[23]) (by simp[ax,aV,Tryz.f107] at hb;rw[←hb.1];rfl) (fun env0=>ab env0 5=.map 4∧ab env0 21=.slice 1 0 TS.length none∧ab env0 22=.int .i64 TS.length∧ab env0 23=.int .i64 0∧ab env0 1=.ptr 2 0∧ab env0 3=.map 3) (fun _ env' =>ab env' 1=.ptr 2 0∧ab env' 3=.map 3∧ab env' 5=.map 4) ?_;rintro env0 d ⟨h5,h21,h22,h23,h1,h3⟩;simp[ax,aV,Tryz.f107] at hb;obtain⟨hb,-⟩:=hb;have hn0:aI [23] (ad b) env0 ((23,.int .i64 ((0:Nat):Int))::env0)=aI [23] (ad b) env0 env0:=by simp[aI,h23]
 rw[←hn0];refine cG (α:=Nat) (fun n=>⟨aI [23] (ad b) env0 ((23,.int .i64 (n:Int))::env0),sk PS TS D (Io (TS.take n)),d⟩) (fun n=>TS.length-n) (fun n=>n≤TS.length) (.exit 0) _ d _ (by simp) ?_ (K+5) 0 (by omega) (by omega);intro n hn1;clear hn0;subst hb;by_cases hlt:n<TS.length
 ·left
  obtain⟨t,ht⟩:∃q,TS[n]? =some q:=⟨TS[n],List.getElem?_eq_getElem hlt⟩
  obtain⟨k1,k2⟩:=Ti ht;have hU:=Nt ht;obtain⟨i1,i2,i3⟩:=t;simp only[TP] at k1 hU;have w1:IntKind.i64.wrap ((n:Int)+1)=((n+1:Nat):Int):=by rw[aj (by omega) (by omega)];omega
  obtain⟨m,hm⟩:∃m,m=n+1:=⟨_,rfl⟩
  rw[←hm] at w1 hU;obtain⟨L,hL⟩:∃L,L=Io (TS.take n):=⟨_,rfl⟩
  rw[←hL] at hU;rw[←hL];have v1:IntKind.i64.wrap 1=1:=rfl;have v2:IntKind.i64.wrap 2=2:=rfl;have v3:IntKind.i64.wrap 3=3:=rfl;have v2' :IntKind.i64.wrap (1+1)=2:=rfl;have v3' :IntKind.i64.wrap (2+1)=3:=rfl;have u:∀(L' :List Nat) (a:Nat),dU (aM Tryz.prog) [.cells false 2 (pC PS),.cells false 3 (tC TS),.cells true 0 [.slice 0 0 PS.length none,.slice 1 0 TS.length none],.map D,.map (L'.map uE),.cells true 0 [.int .i64 (i1:Int),.int .i64 (i2:Int),.int .i64 (i3:Int)]] 255 (.map 4) (.int .i64 (a:Int)) (.bool true)=
    some [.cells false 2 (pC PS),.cells false 3 (tC TS),.cells true 0 [.slice 0 0 PS.length none,.slice 1 0 TS.length none],.map D,.map ((SG L' a).map uE),.cells true 0 [.int .i64 (i1:Int),.int .i64 (i2:Int),.int .i64 (i3:Int)]]:=fun L' a=>NJ _ 4 L' a rfl
  refine⟨m,?_⟩;simp[sk,h5,h21,h22,hlt,k1,k2,aB,dV,v1,v2,v3,yx,u,hD,hU,msB,dK,dT,PR,w1];omega
 ·right
  have e:TS.take n=TS:=List.take_of_length_le (by omega);rw[e];have hlt' :¬(n:Int)<TS.length:=by omega
  simp[h22,h1,h3,h5,hlt]
theorem Ss(f:Nat→Option Nat) (sds:List Sd):(sds.map sdE).map (fun e=>(e.1.ren f,e.2.ren f))=sds.map sdE:=by rw[List.map_map];exact List.map_congr_left fun s _=>Kn f s
theorem RA(f:Nat→Option Nat) (sds:List Sd):sds.map ((fun(e:AV×AV)=>(e.1.ren f,e.2.ren f))∘sdE)=sds.map sdE:=
 List.map_congr_left fun s _=>Kn f s
def yq(PS:List P2) (TS:List Tr) (sds:List Sd):Prop:=
 ACallsTo Tryz.prog 160 [.agg [.slice 0 0 PS.length none,.slice 1 0 TS.length none]] [.absent,.cells false 3 (tC TS)] (.tuple [.map 2,.bool true]) ([.absent,.cells false 3 (tC TS)]++[.map (sds.map sdE)])
structure Tryz.Whole (PS:List P2) (TS:List Tr) (sds:List Sd) (cyc:List Nat):Prop where
 dg:∀p∈PS,pDg 2 p
 nodup:PS.Nodup
 owns:yq PS TS sds
 outer:rv sds=true
 cy:yN (pL sds)=some (cyc.map fun(n:Nat)=>(n:Int))
 used:(Io TS).length=PS.length
 once:PG PS cyc
 tr:∀t∈TS,TN PS t
 len:PS.length≤400
 len0:TS≠[]
 len2:TS.length≤800
 len3:cyc.length≤1000000
open Classical in
noncomputable def w8(PS:List P2) (TS:List Tr) (sds:List Sd) (cyc:List Nat):Oracle:=fun c args M=>match c,args with
 |.fn 160,[.agg [.slice b 0 n none,.slice c 0 k none]]=>if n=PS.length∧k=TS.length∧b<M.length∧(∃o,M[c]? =some (.cells o 3 (tC TS))) then some ⟨.tuple [.map M.length,.bool true],none,[.map (sds.map sdE)]⟩ else none
 |.fn 161,[.agg [.slice b 0 _ none,.slice c 0 _ none],.map q]=>if b<M.length∧c<M.length∧M8 M q=some (sds.map sdE) then some ⟨.tuple [.slice M.length 0 cyc.length none,.bool true],none,[.cells true 1 (cZ cyc)]⟩ else none
 |.fn 162,[.agg [.slice b 0 n none,.slice c 0 _ none],.slice q 0 l none]=>if n=PS.length∧l=cyc.length∧c<M.length∧(∃o,M[b]? =some (.cells o 2 (pC PS)))∧(∃o,M[q]? =some (.cells o 1 (cZ cyc))) then some ⟨.bool true,none,[]⟩ else none
 |_,_=>none
theorem Hh:∀cyc:List Nat,AV.closeds (cZ cyc)=true
 | []=>rfl
 |c::l=>by have:=Hh l;simp only[cZ] at this;simp[cZ,AV.closeds,AV.closed,this]
theorem TC(cyc:List Nat):iZ (cyc.map fun(n:Nat)=>(n:Int))=cZ cyc:=by simp[iZ,cZ]
theorem oB{M:Mem}{b:Nat}{s:Slot}(h:M[b]? =some s):b<M.length:=(List.getElem?_eq_some_iff.1 h).1
theorem JF{PS:List P2}{TS:List Tr}{sds:List Sd}{cyc:List Nat}(hw:Tryz.Whole PS TS sds cyc):OracleOk Tryz.prog (w8 PS TS sds cyc):=by
 refine cO fun c args M r h=>?_
 unfold w8 at h;split at h
 ·rename_i b n c k
  split at h
  ·rename_i hc
   obtain⟨rfl,rfl,hb,o,hM⟩:=hc;cases h;refine ag ?_;have:=ACallsTo.frame (M:=M) (new:=[.map (sds.map sdE)]) [b,c] (m:=[.absent,.cells false 3 (tC TS)]) rfl (by
    intro k hk;simp only[List.mem_cons,List.not_mem_nil,or_false] at hk;rcases hk with rfl | rfl
    ·exact hb
    ·exact oB hM) (by rfl) (fun i s hs=>by
    match i with
    |0=>simp at hs;subst hs;trivial
    |1=>simp at hs;subst hs;exact bI (eK TS) hM (List.take_length)
    |i+2=>simp at hs) rfl hw.owns
   simpa [AV.rens,AV.ren,ar,Slot.ren,Ss,RA] using this
  ·cases h
 ·rename_i b n c k q
  split at h
  ·rename_i hc
   obtain⟨hb,hb2,hM⟩:=hc;cases h;refine ag ?_;have:=uT M sds (cyc.map fun(n:Nat)=>(n:Int)) q b c n k hb hb2 hM hw.outer hw.cy;rw[TC,List.length_map] at this;exact this
  ·cases h
 ·rename_i b n c k q l
  split at h
  ·rename_i hc
   obtain⟨rfl,rfl,hb2,⟨o,hM⟩,⟨o2,hM2⟩⟩:=hc;cases h;refine ag ?_;have:=ACallsTo.frame (M:=M) (new:=[]) (args:=[.agg [.slice 0 0 PS.length none,.slice 1 0 k none],.slice 2 0 cyc.length none]) [b,c,q] (m:=[.cells false 2 (pC PS),.absent,.cells false 1 (cZ cyc)]) rfl (by
    intro k hk;simp only[List.mem_cons,List.not_mem_nil,or_false] at hk;rcases hk with rfl | rfl | rfl
    ·exact oB hM
    ·exact hb2
    ·exact oB hM2) (by rfl) (fun i s hs=>by
    match i with
    |0=>simp at hs;subst hs;exact bI (dr PS) hM (List.take_length)
    |1=>simp at hs;subst hs;trivial
    |2=>simp at hs;subst hs;exact bI (Hh cyc) hM2 (List.take_length)
    |i+3=>simp at hs) rfl (by simpa using IK PS k cyc hw.dg hw.once hw.len3)
   simpa [AV.rens,AV.ren,ar] using this
  ·cases h
 ·cases h
set_option maxRecDepth 8192 in
set_option maxHeartbeats 6400000 in
theorem Ed{PS:List P2}{TS:List Tr}{sds:List Sd}{cyc:List Nat}(hw:Tryz.Whole PS TS sds cyc):
  ACallsTo Tryz.prog 107 [.agg [.slice 0 0 PS.length none,.slice 1 0 TS.length none]] [.cells false 2 (pC PS),.cells false 3 (tC TS)] (.bool true) [.cells false 2 (pC PS),.cells false 3 (tC TS)]:=by
 have hG:aL Tryz.prog 107=some Tryz.f107:=by kernel_rfl
 have hl:=hw.len;have hl2:=hw.len2;obtain⟨b,b2,hb⟩:∃b b2,ax Tryz.f107=[b,b2]:=⟨_,_,rfl⟩
 obtain⟨K,hK⟩:∃K,K=TS.length:=⟨_,rfl⟩
 obtain⟨F,hF⟩:=yy (O:=w8 PS TS sds cyc) (K:=K) PS TS (sds.map sdE) (by omega) (oP 5 sds) (by omega) hb;simp[ax,aV,Tryz.f107] at hb;obtain⟨rfl,rfl⟩:=hb;have hF1:=fun env0 d h=>(hF env0 d h).1
 have hG1:=fun env0 d h=>(hF env0 d h).2.1
 have hG3:=fun env0 d h=>(hF env0 d h).2.2.1
 have hG5:=fun env0 d h=>(hF env0 d h).2.2.2
 clear hF;have hu:=hw.used;refine aZ (lv:=yx) (K:=(K+5)) (JF hw) ?_;simp only[sk,List.map_nil,msB] at hF1;simp[aa,hG,Tryz.f107,hF1,hG1,hG3,hG5,w8,M8,hu]
theorem Jr{PS:List P2}{TS:List Tr}{sds:List Sd}{cyc:List Nat}(hw:Tryz.Whole PS TS sds cyc):OracleOk Tryz.prog (mu true PS TS):=by
 refine cO fun c args M r h=>?_
 unfold mu at h;split at h
 ·rename_i b n c k
  split at h
  ·rename_i hc
   obtain⟨rfl,rfl,⟨o,hM⟩,⟨o2,hM2⟩⟩:=hc;cases h;refine ag ?_;have:=ACallsTo.frame (M:=M) (new:=[]) (args:=[.agg [.slice 0 0 PS.length none,.slice 1 0 TS.length none]]) [b,c] (m:=[.cells false 2 (pC PS),.cells false 3 (tC TS)]) rfl (by
    intro k hk;simp only[List.mem_cons,List.not_mem_nil,or_false] at hk;rcases hk with rfl | rfl
    ·exact oB hM
    ·exact oB hM2) (by rfl) (fun i s hs=>by
    match i with
    |0=>simp at hs;subst hs;exact bI (dr PS) hM (List.take_length)
    |1=>simp at hs;subst hs;exact bI (eK TS) hM2 (List.take_length)
    |i+2=>simp at hs) rfl (by simpa using Ed hw)
   simpa [AV.rens,AV.ren,ar] using this
  ·cases h
 ·split at h
  ·rename_i hc
   cases hc.1
  ·cases h
 ·exact iu yj h
set_option maxRecDepth 8192 in
set_option maxHeartbeats 6400000 in
theorem BX{PS:List P2}{TS:List Tr}{sds:List Sd}{cyc:List Nat}(hw:Tryz.Whole PS TS sds cyc):
  ACallsTo Tryz.prog 59 [.agg [.slice 0 0 PS.length none,.slice 1 0 TS.length none]] [.cells false 2 (pC PS),.cells false 3 (tC TS)] (.int .i64 0) [.cells false 2 (pC PS),.cells false 3 (tC TS)]:=by
 have hG:aL Tryz.prog 59=some Tryz.f59:=by kernel_rfl
 have hl:=hw.len;have hl2:=hw.len2;have hl0:0<TS.length:=by have:=hw.len0;cases TS with | nil=>exact absurd rfl this | cons a l=>simp
 obtain⟨b1,b2,b3,b4,b5,hb⟩:∃b1 b2 b3 b4 b5,ax Tryz.f59=[b1,b2,b3,b4,b5]:=⟨_,_,_,_,_,rfl⟩
 obtain⟨K,hK⟩:∃K,K=PS.length+TS.length:=⟨_,rfl⟩
 obtain⟨F,hF⟩:=tZ (K:=K+5) true PS TS hw.dg hw.nodup (by omega) (by omega) hb;obtain⟨F2,hF2⟩:=ua (K:=K) true PS TS (PS.map pmE) hw.dg hw.tr (by omega) (by omega) (Ds 4 PS) (by omega) hb;simp[ax,aV,Tryz.f59] at hb;obtain⟨rfl,rfl,rfl,rfl,rfl⟩:=hb;have hF1:=fun env0 d h=>(hF env0 d h).1
 have hF3:=fun env0 d h=>(hF2 env0 d h).1
 have hG1:=fun env0 d h=>(hF env0 d h).2
 have hG3:=fun env0 d h=>(hF2 env0 d h).2
 clear hF hF2;have n1:¬(800:Int)<TS.length:=by omega
 have n2:¬(400:Int)<PS.length:=by omega
 have n3:¬800<TS.length:=by omega
 have n4:¬400<PS.length:=by omega
 have n5:¬TS.length=0:=by omega
 have n6:¬(TS.length:Int)=0:=by omega
 refine aZ (lv:=sa) (K:=(K+5)) (Jr hw) ?_;simp only[msB] at hF1 hF3;simp[aa,hG,Tryz.f59,hF1,hF3,hG1,hG3,mu,n1,n2,n5]
noncomputable def CC(f:FuncId) (args:List AV):Option AV:=
 match f,args with
 |56,[.int .i64 n,.int .i64 d]=>if (d=1∨d=2)∧ -7≤n∧n≤13 then some (.tuple [.str (ah (mkRat n d.toNat)),.int .i64 0]) else none
 |_,_=>none
theorem Mk:OracleOk Tryz.prog (af CC):=bq fun f args v h mem=>by
 unfold CC at h;split at h
 ·rename_i n d
  split at h
  ·rename_i hc
   cases h;have:=NG n d.toNat (by omega) hc.2.1 hc.2.2 mem;rw[Int.toNat_of_nonneg (by omega)] at this;exact this
  ·cases h
 ·cases h
theorem cU{n:Int}(h0: -1000000≤n) (h1:n≤1000000):IntKind.i64.wrap n=n:=by rw[aj (by omega) (by omega)]
set_option maxHeartbeats 1600000 in
theorem Ea(s:Sheet) (hs:s.Ok) (x y:Int) (hx0:0≤x) (hx1:x≤6) (hy0:0≤y) (hy1:y≤6) (M:Mem):
  ACallsTo Tryz.prog 33 [s.av,.agg [.int .i8 x,.int .i8 y],.int .i64 1] M (pA (s.pt 1 x y)) M:=by
 have hG:aL Tryz.prog 33=some Tryz.f33:=by kernel_rfl
 obtain⟨kd,sx,sy,hf⟩:=s;have q1:=Ih sx;have q2:=Ih sy;unfold Sheet.av Sheet.pt;simp only;obtain⟨u,hu⟩:∃u,u=sx.tmod 8:=⟨_,rfl⟩
 obtain⟨v,hv⟩:∃u,u=sy.tmod 8:=⟨_,rfl⟩
 rw[←hu] at q1 ⊢;rw[←hv] at q2 ⊢;refine aq Mk (lv:=fun _=>[]) (K:=1) rfl rfl ?_ M;have wx:IntKind.i64.wrap x=x:=cU (by omega) (by omega);have wy:IntKind.i64.wrap y=y:=cU (by omega) (by omega);have wu:IntKind.i64.wrap u=u:=cU (by omega) (by omega);have wv:IntKind.i64.wrap v=v:=cU (by omega) (by omega);have a1:IntKind.i64.wrap (x+u)=x+u:=cU (by omega) (by omega);have a2:IntKind.i64.wrap (y+v)=y+v:=cU (by omega) (by omega);have b1:IntKind.i64.wrap 1=1:=rfl;have b2:IntKind.i64.wrap 2=2:=rfl;have f1: -7≤x+u:=by omega
 have g1:x+u≤13:=by omega
 have f2: -7≤y+v:=by omega
 have g2:y+v≤13:=by omega
 cases hf<;>simp[aa,hG,Tryz.f33,af,CC,←hu,←hv,wx,wy,wu,wv,a1,a2,b1,b2,f1,f2,g1,g2,bO,aH,pA]
theorem BW(k:Nat) (hk:k<256):ACallsTo Tryz.prog 45 [.int .u8 (k:Int)] [] (.tuple [.slice 0 0 (cW (k%8)).length none,.slice 1 0 (bp (k%8)).length none]) [.cells true 2 (iP (cW (k%8))),.cells true 3 (tC (bp (k%8)))]:=by
 have hG:aL Tryz.prog 45=some Tryz.f45:=by kernel_rfl
 have ht:(k:Int).tmod 8=((k%8:Nat):Int):=rfl;have hlt:k%8<8:=Nat.mod_lt _ (by omega);obtain⟨j,hj⟩:∃j,j=k%8:=⟨_,rfl⟩
 rw[←hj] at ht hlt ⊢;have h:aa (aM Tryz.prog) (fun _=>[]) (aL Tryz.prog) bJ 1 45 [.int .u8 (k:Int)] []=some ⟨.tuple [.slice 0 0 (cW j).length none,.slice 1 0 (bp j).length none],none,[.cells true 2 (iP (cW j)),.cells true 3 (tC (bp j))]⟩:=by
  have hjj:j=0∨j=1∨j=2∨j=3∨j=4∨j=5∨j=6∨j=7:=by omega
  clear hlt hj;rcases hjj with rfl | rfl | rfl | rfl | rfl | rfl | rfl | rfl<;>simp[aa,hG,Tryz.f45,ht,cW,bp,sqI,iP,tC,bO]<;>exact⟨rfl,rfl⟩
 have:=(al ae (aw _) (ao _) (az _) h).1;simpa [CallRes.mem] using this
theorem Eb(k:Nat) (hk:k<256) (M:Mem):ACallsTo Tryz.prog 45 [.int .u8 (k:Int)] M (.tuple [.slice M.length 0 (cW (k%8)).length none,.slice (M.length+1) 0 (bp (k%8)).length none]) (M++[.cells true 2 (iP (cW (k%8))),.cells true 3 (tC (bp (k%8)))]):=by have:=ACallsTo.frame (M:=M) (new:=[.cells true 2 (iP (cW (k%8))),.cells true 3 (tC (bp (k%8)))]) (args:=[.int .u8 (k:Int)]) [] (m:=[]) rfl (by simp) (by rfl) (fun i s hs=>by simp at hs) rfl (BW k hk);simpa [AV.ren,AV.rens,ar,Slot.ren,Pb,gG] using this
noncomputable def mr(s:Sheet):Oracle:=fun c args M=>match c,args with
 |.fn 45,[.int .u8 k]=>if k=(s.kind:Int) then some ⟨.tuple [.slice M.length 0 (cW (s.kind%8)).length none,.slice (M.length+1) 0 (bp (s.kind%8)).length none],none,[.cells true 2 (iP (cW (s.kind%8))),.cells true 3 (tC (bp (s.kind%8)))]⟩ else none
 |.fn 33,[.agg [.int .u8 k,.int .i8 sx,.int .i8 sy,.bool h],.agg [.int .i8 x,.int .i8 y],.int .i64 n]=>if k=(s.kind:Int)∧sx=s.sx∧sy=s.sy∧h=s.half∧0≤x∧x≤6∧0≤y∧y≤6∧n=1 then some ⟨pA (s.pt 1 x y),none,[]⟩ else none
 |_,_=>none
theorem Jq(s:Sheet) (hs:s.Ok):OracleOk Tryz.prog (mr s):=by
 refine cO fun c args M r h=>?_
 unfold mr at h;split at h
 ·split at h
  ·rename_i hc
   subst hc;cases h;exact ag (Eb s.kind hs.kind M)
  ·cases h
 ·split at h
  ·rename_i hc
   obtain⟨rfl,rfl,rfl,rfl,h1,h2,h3,h4,rfl⟩:=hc;cases h;refine ag ?_;rw[List.append_nil];exact Ea s hs _ _ h1 h2 h3 h4 M
  ·cases h
 ·cases h
def P6(L:List (Int×Int)):Prop:=∀p∈L,0≤p.1∧p.1≤6∧0≤p.2∧p.2≤6
theorem Ic(k:Nat) (hk:k<8):P6 (cW k):=by
 have hjj:k=0∨k=1∨k=2∨k=3∨k=4∨k=5∨k=6∨k=7:=by omega
 rcases hjj with rfl | rfl | rfl | rfl | rfl | rfl | rfl | rfl<;>(unfold P6;decide)
def S5(n:Nat):AV:=match n with
 |0=>.nilslice
 |n+1=>.slice 5 0 (n+1) none
def J6(s:Sheet) (SP:List (Int×Int)) (TS:List Tr) (n:Nat):Mem:=
 [.cells true 0 [.int .u8 s.kind,.int .i8 s.sx,.int .i8 s.sy,.bool s.half],.cells true 0 [.nilslice,.nilslice],.cells true 2 (iP SP),.cells true 3 (tC TS),.cells true 0 [S5 n,.slice 3 0 TS.length none]]++
  (match n with
  |0=>[]
  |n+1=>[.cells true 2 (pC ((SP.take (n+1)).map fun p=>s.pt 1 p.1 p.2))])
theorem zc{s:Sheet}{SP:List (Int×Int)}{TS:List Tr}{n:Nat}(h:0<n):J6 s SP TS n=
  [.cells true 0 [.int .u8 s.kind,.int .i8 s.sx,.int .i8 s.sy,.bool s.half],.cells true 0 [.nilslice,.nilslice],.cells true 2 (iP SP),.cells true 3 (tC TS),.cells true 0 [.slice 5 0 n none,.slice 3 0 TS.length none],.cells true 2 (pC ((SP.take n).map fun p=>s.pt 1 p.1 p.2))]:=by
 cases n with
 |zero=>omega
 |succ n=>rfl
set_option maxRecDepth 8192 in
set_option maxHeartbeats 12800000 in
theorem yi{K:Nat}(s:Sheet) (SP:List (Int×Int)) (TS:List Tr) (hsm:P6 SP) (hl:SP.length≤1000000) (hK:SP.length<K) {b:Code}(hb:ax Tryz.f27=[b]):
  ∃F:Env→Env,∀env0,(ab env0 1=.ptr 0 0∧ab env0 3=.slice 2 0 SP.length none∧ab env0 5=.ptr 4 0∧ab env0 6=.int .i64 0∧ab env0 2=.ptr 1 0)→
   aT (aM Tryz.prog) (fun _=>[6,6]) (mr s) K 42 0 true (.loop b) ⟨env0,J6 s SP TS 0,false⟩=some (.exit 0,⟨F env0,J6 s SP TS SP.length,decide (0<SP.length)⟩)∧ab (F env0) 5=.ptr 4 0∧ab (F env0) 2=.ptr 1 0:=by
 refine rm (L:=[6,6]) rfl false _ (fun env0=>ab env0 1=.ptr 0 0∧ab env0 3=.slice 2 0 SP.length none∧ab env0 5=.ptr 4 0∧ab env0 6=.int .i64 0∧ab env0 2=.ptr 1 0) (fun _ env' =>ab env' 5=.ptr 4 0∧ab env' 2=.ptr 1 0) ?_;rintro env0 ⟨h1,h3,h5,h6,h2⟩;obtain⟨ops,hops⟩:∃ops,aE Tryz.f27=[ops]:=⟨_,rfl⟩
 have hbs:=cE hops (l:=[0,1,0,0,0,24,56,120,248,0,0,1536,3584,7680,15872,32760,65532,131068,262143,524287,1048575]) (by kernel_rfl);have k17:oh [0,1,0,0,0,24,56,120,248,0,0,1536,3584,7680,15872,32760,65532,131068,262143,524287,1048575] 21 17=true:=by decide
 have k18:oh [0,1,0,0,0,24,56,120,248,0,0,1536,3584,7680,15872,32760,65532,131068,262143,524287,1048575] 21 18=true:=by decide
 have k20:oh [0,1,0,0,0,24,56,120,248,0,0,1536,3584,7680,15872,32760,65532,131068,262143,524287,1048575] 21 20=true:=by decide
 have j18:aN [0,1,0,0,0,24,56,120,248,0,0,1536,3584,7680,15872,32760,65532,131068,262143,524287,1048575] 18=true:=by decide
 have j20:aN [0,1,0,0,0,24,56,120,248,0,0,1536,3584,7680,15872,32760,65532,131068,262143,524287,1048575] 20=true:=by decide
 simp[aE,bC,Tryz.f27] at hops;simp[ax,aV,Tryz.f27] at hb;have hn0:aI [6,6] (ad b) env0 ((6,.int .i64 ((0:Nat):Int))::env0)=aI [6,6] (ad b) env0 env0:=by simp[aI,h6]
 rw[←hn0];refine cG (α:=Nat) (fun n=>⟨aI [6,6] (ad b) env0 ((6,.int .i64 (n:Int))::env0),J6 s SP TS n,decide (0<n)⟩) (fun n=>SP.length-n) (fun n=>n≤SP.length) (.exit 0) _ _ _ (by simp) ?_ K 0 (by omega) (by omega);intro n hn1;clear hn0;subst hb;subst hops;by_cases hlt:n<SP.length
 ·left
  obtain⟨p,hp⟩:∃q,SP[n]? =some q:=⟨SP[n],List.getElem?_eq_getElem hlt⟩
  obtain⟨q1,q2,q3⟩:=TF hp;obtain⟨x0,x1,y0,y1⟩:=hsm p (List.mem_of_getElem? hp);obtain⟨px,py⟩:=p;simp only at q1 q2 x0 x1 y0 y1;have ht:(SP.take (n+1)).map (fun p=>s.pt 1 p.1 p.2)=(SP.take n).map (fun p=>s.pt 1 p.1 p.2)++[s.pt 1 px py]:=by rw[List.take_add_one,hp];simp
  have v1:IntKind.i8.wrap px=px:=Qc (by omega) (by omega);have v2:IntKind.i8.wrap py=py:=Qc (by omega) (by omega);have c1:0≤px:=by omega
  have c2:px≤6:=by omega
  have c3:0≤py:=by omega
  have c4:py≤6:=by omega
  have w1:IntKind.i64.wrap ((n:Int)+1)=((n+1:Nat):Int):=by rw[aj (by omega) (by omega)];omega
  obtain⟨P,hP⟩:∃P,P=(SP.take n).map (fun p=>s.pt 1 p.1 p.2):=⟨_,rfl⟩
  have hPl:P.length=n:=by rw[hP,List.length_map,List.length_take];omega
  obtain⟨z,hz⟩:∃z,z=s.pt 1 px py:=⟨_,rfl⟩
  rw[←hP,←hz] at ht;have hpc:pC (P++[z])=pC P++[.str (ah z.1),.str (ah z.2)]:=by rw[zn];rfl
  have hpl:=sS P;rw[hPl] at hpl;obtain⟨m,hm⟩:∃m,m=n+1:=⟨_,rfl⟩
  refine⟨m,?_⟩;by_cases hn0:n=0
  ·subst hn0
   have hm1:m=1:=by omega
   subst hm1;have hP0:P=[]:=List.eq_nil_of_length_eq_zero hPl;rw[hP0] at ht hpc;simp at ht hpc;have w0:IntKind.i64.wrap 1=1:=rfl;simp[J6,S5,h1,h3,h5,hlt,q1,q2,v1,v2,c1,c2,c3,c4,w0,mr,←hz,pA,-aD,ir hbs,jf,oC,vg,cj,k17,k18,k20,j18,j20,ht,hpc,JZ,dT,Pb,gG,S8,bO,Nat.testBit];omega
  ·have hpos:0<n:=by omega
   rw[←hm] at w1 ht;have hmp:0<m:=by omega
   have hd1:decide (0<n)=true:=by simpa using hpos
   rw[zc hpos,zc hmp,hd1,←hP,ht,hpc];clear hP ht hpc;have g1:m*32≤140737488355328:=by omega
   have g2:n≤140737488355327:=by omega
   have g5:(J6 s SP TS 0).length=5:=rfl;have g4:m≤140737488355328:=by omega
   have g3:(pC P).take (n*2)=pC P:=List.take_of_length_le (by omega);simp[h1,h3,h5,hlt,q1,q2,v1,v2,c1,c2,c3,c4,w1,mr,←hz,pA,-aD,ir hbs,jf,oC,vg,cj,k17,k18,k20,j18,j20,hpl,hmp,←hm,g1,g4,g3,g5,zo,JZ,dT,dK,Pb,gG,fz,bO,Nat.testBit];omega
 ·right
  have e:n=SP.length:=by omega
  subst e;simp[h3,h5,h2]
theorem Nn(k:Nat):0<(cW k).length:=by unfold cW;split<;>simp[sqI]
theorem BE(k:Nat):(cW k).length≤6:=by unfold cW;split<;>simp[sqI]
theorem Sheet.P_length(s:Sheet):s.P.length=(cW (s.kind%8)).length:=by simp[Sheet.P]
set_option maxRecDepth 8192 in
set_option maxHeartbeats 6400000 in
theorem D8(s:Sheet) (hs:s.Ok):ACallsTo Tryz.prog 27 [s.av] [] (.agg [.slice 0 0 s.P.length none,.slice 1 0 s.T.length none]) [.cells true 2 (pC s.P),.cells true 3 (tC s.T)]:=by
 have hG:aL Tryz.prog 27=some Tryz.f27:=by kernel_rfl
 have hpos:=Nn (s.kind%8);have hle:=BE (s.kind%8);obtain⟨b,hb⟩:∃b,ax Tryz.f27=[b]:=⟨_,rfl⟩
 obtain⟨F,hF⟩:=yi (K:=10) s (cW (s.kind%8)) (bp (s.kind%8)) (Ic _ (Nat.mod_lt _ (by omega))) (by omega) (by omega) hb;simp[ax,aV,Tryz.f27] at hb;subst hb;have hd:decide (0<(cW (s.kind%8)).length)=true:=by simpa using hpos
 rw[zc hpos,hd,List.take_length] at hF;have hF1:=fun env0 h=>(hF env0 h).1
 have hG1:=fun env0 h=>(hF env0 h).2.1
 have hG2:=fun env0 h=>(hF env0 h).2.2
 clear hF;have hm0:J6 s (cW (s.kind%8)) (bp (s.kind%8)) 0=[.cells true 0 [.int .u8 s.kind,.int .i8 s.sx,.int .i8 s.sy,.bool s.half],.cells true 0 [.nilslice,.nilslice],.cells true 2 (iP (cW (s.kind%8))),.cells true 3 (tC (bp (s.kind%8))),.cells true 0 [.nilslice,.slice 3 0 (bp (s.kind%8)).length none]]:=rfl;rw[hm0] at hF1;rw[Sheet.P_length];unfold Sheet.P Sheet.T;obtain⟨SP,hSP⟩:∃SP,SP=cW (s.kind%8):=⟨_,rfl⟩
 obtain⟨ST,hST⟩:∃SP,SP=bp (s.kind%8):=⟨_,rfl⟩
 rw[←hSP,←hST] at hF1;rw[←hSP] at hG1 hG2;rw[←hSP,←hST];have h:aa (aM Tryz.prog) (fun _=>[6,6]) (aL Tryz.prog) (mr s) 10 27 [s.av] []=some ⟨.agg [.slice 0 0 SP.length none,.slice 1 0 ST.length none],some [],[.cells true 2 (pC (SP.map fun p=>s.pt 1 p.1 p.2)),.cells true 3 (tC ST)]⟩:=by simp[aa,hG,Tryz.f27,Sheet.av,hF1,hG1,hG2,mr,←hSP,←hST,dT,dK,gG,fz,bO,aH];exact⟨rfl,rfl⟩
 have:=(al ae (aw _) (Jq s hs) (az _) h).1;simpa [CallRes.mem] using this
theorem II(s:Sheet) (hs:s.Ok) (M:Mem):ACallsTo Tryz.prog 27 [s.av] M (.agg [.slice M.length 0 s.P.length none,.slice (M.length+1) 0 s.T.length none]) (M++[.cells true 2 (pC s.P),.cells true 3 (tC s.T)]):=by have:=ACallsTo.frame (M:=M) (new:=[.cells true 2 (pC s.P),.cells true 3 (tC s.T)]) (args:=[s.av]) [] (m:=[]) rfl (by simp) (by rfl) (fun i s hs=>by simp at hs) rfl (D8 s hs);simpa [AV.ren,AV.rens,ar,Slot.ren,fz,gG,Sheet.av] using this
def gP(PS:List P2) (TS:List Tr) (cyc:List Nat):Bool:=
 decide PS.Nodup&&(PS.all fun p=>decide (p.1.num.natAbs<100)&&decide (p.1.den<10)&&decide (p.2.num.natAbs<100)&&decide (p.2.den<10))&&
  (TS.all fun t=>match PS[t.1]?,PS[t.2.1]?,PS[t.2.2]? with
   |some p,some q,some r=>decide (0<Ko (wR p q r))
   |_,_,_=>false)&&
  ((List.range cyc.length).all fun i=>decide (0≤Ko (wR (zq PS cyc i) (zq PS cyc (i+1)) (zq PS cyc (i+2)))))&&decide (jE PS cyc cyc.length=1)
def Rv(k:Nat) (u v:Int) (h:Bool):List P2:=
 (cW k).map fun p=>(mkRat (p.1+u*(1:Nat)) ((if h then 2 else 1)*1),mkRat (p.2+v*(1:Nat)) ((if h then 2 else 1)*1))
theorem Sv:((List.range 15).all fun a=>(List.range 15).all fun b=>[false,true].all fun h=>gP (Rv 0 ((a:Int)-7) ((b:Int)-7) h) (bp 0) (jI 0))=true:=by kernel_rfl
theorem Sw:((List.range 15).all fun a=>(List.range 15).all fun b=>[false,true].all fun h=>gP (Rv 1 ((a:Int)-7) ((b:Int)-7) h) (bp 1) (jI 1))=true:=by kernel_rfl
theorem Sx:((List.range 15).all fun a=>(List.range 15).all fun b=>[false,true].all fun h=>gP (Rv 2 ((a:Int)-7) ((b:Int)-7) h) (bp 2) (jI 2))=true:=by kernel_rfl
theorem Sy:((List.range 15).all fun a=>(List.range 15).all fun b=>[false,true].all fun h=>gP (Rv 3 ((a:Int)-7) ((b:Int)-7) h) (bp 3) (jI 3))=true:=by kernel_rfl
theorem Sz:((List.range 15).all fun a=>(List.range 15).all fun b=>[false,true].all fun h=>gP (Rv 4 ((a:Int)-7) ((b:Int)-7) h) (bp 4) (jI 4))=true:=by kernel_rfl
theorem SA:((List.range 15).all fun a=>(List.range 15).all fun b=>[false,true].all fun h=>gP (Rv 5 ((a:Int)-7) ((b:Int)-7) h) (bp 5) (jI 5))=true:=by kernel_rfl
theorem SB:((List.range 15).all fun a=>(List.range 15).all fun b=>[false,true].all fun h=>gP (Rv 6 ((a:Int)-7) ((b:Int)-7) h) (bp 6) (jI 6))=true:=by kernel_rfl
theorem SC:((List.range 15).all fun a=>(List.range 15).all fun b=>[false,true].all fun h=>gP (Rv 7 ((a:Int)-7) ((b:Int)-7) h) (bp 7) (jI 7))=true:=by kernel_rfl
theorem No(k:Nat) (hk:k<8):((List.range 15).all fun a=>(List.range 15).all fun b=>[false,true].all fun h=>gP (Rv k ((a:Int)-7) ((b:Int)-7) h) (bp k) (jI k))=true:=by
 have hjj:k=0∨k=1∨k=2∨k=3∨k=4∨k=5∨k=6∨k=7:=by omega
 rcases hjj with rfl | rfl | rfl | rfl | rfl | rfl | rfl | rfl
 ·exact Sv
 ·exact Sw
 ·exact Sx
 ·exact Sy
 ·exact Sz
 ·exact SA
 ·exact SB
 ·exact SC
theorem RC(s:Sheet):gP s.P s.T (jI (s.kind%8))=true:=by
 have hk:s.kind%8<8:=Nat.mod_lt _ (by omega);have h:=No (s.kind%8) hk;obtain⟨u0,u1⟩:=Ih s.sx;obtain⟨v0,v1⟩:=Ih s.sy;have h1:=List.all_eq_true.1 h (s.sx.tmod 8+7).toNat (List.mem_range.2 (by omega));have h2:=List.all_eq_true.1 h1 (s.sy.tmod 8+7).toNat (List.mem_range.2 (by omega));have h3:=List.all_eq_true.1 h2 s.half (by cases s.half<;>simp);have e1:(((s.sx.tmod 8+7).toNat:Nat):Int)-7=s.sx.tmod 8:=by omega
 have e2:(((s.sy.tmod 8+7).toNat:Nat):Int)-7=s.sy.tmod 8:=by omega
 rw[e1,e2] at h3;exact h3
def Nl:List Tr→Int→List Sd
 | [],_=>[]
 |t::l,i=>((t.1,t.2.1),i)::((t.2.1,t.2.2),i)::((t.2.2,t.1),i)::Nl l (i+1)
theorem Ml:ACallsTo Tryz.prog 160 [.agg [.slice 0 0 (cW 0).length none,.slice 1 0 (bp 0).length none]] [.absent,.cells false 3 (tC (bp 0))] (.tuple [.map 2,.bool true]) ([.absent,.cells false 3 (tC (bp 0))]++[.map ((Nl (bp 0) 0).map sdE)]):=
 cR (lv:=ad) (K:=60) (n:=10) ae (aw _) (az _) (ao _) (by as_aux_lemma=>kernel_rfl)
theorem Mm:ACallsTo Tryz.prog 160 [.agg [.slice 0 0 (cW 1).length none,.slice 1 0 (bp 1).length none]] [.absent,.cells false 3 (tC (bp 1))] (.tuple [.map 2,.bool true]) ([.absent,.cells false 3 (tC (bp 1))]++[.map ((Nl (bp 1) 0).map sdE)]):=
 cR (lv:=ad) (K:=60) (n:=10) ae (aw _) (az _) (ao _) (by as_aux_lemma=>kernel_rfl)
theorem Mn:ACallsTo Tryz.prog 160 [.agg [.slice 0 0 (cW 2).length none,.slice 1 0 (bp 2).length none]] [.absent,.cells false 3 (tC (bp 2))] (.tuple [.map 2,.bool true]) ([.absent,.cells false 3 (tC (bp 2))]++[.map ((Nl (bp 2) 0).map sdE)]):=
 cR (lv:=ad) (K:=60) (n:=10) ae (aw _) (az _) (ao _) (by as_aux_lemma=>kernel_rfl)
theorem Mo:ACallsTo Tryz.prog 160 [.agg [.slice 0 0 (cW 3).length none,.slice 1 0 (bp 3).length none]] [.absent,.cells false 3 (tC (bp 3))] (.tuple [.map 2,.bool true]) ([.absent,.cells false 3 (tC (bp 3))]++[.map ((Nl (bp 3) 0).map sdE)]):=
 cR (lv:=ad) (K:=60) (n:=10) ae (aw _) (az _) (ao _) (by as_aux_lemma=>kernel_rfl)
theorem Mq:ACallsTo Tryz.prog 160 [.agg [.slice 0 0 (cW 4).length none,.slice 1 0 (bp 4).length none]] [.absent,.cells false 3 (tC (bp 4))] (.tuple [.map 2,.bool true]) ([.absent,.cells false 3 (tC (bp 4))]++[.map ((Nl (bp 4) 0).map sdE)]):=
 cR (lv:=ad) (K:=60) (n:=10) ae (aw _) (az _) (ao _) (by as_aux_lemma=>kernel_rfl)
theorem Mr:ACallsTo Tryz.prog 160 [.agg [.slice 0 0 (cW 5).length none,.slice 1 0 (bp 5).length none]] [.absent,.cells false 3 (tC (bp 5))] (.tuple [.map 2,.bool true]) ([.absent,.cells false 3 (tC (bp 5))]++[.map ((Nl (bp 5) 0).map sdE)]):=
 cR (lv:=ad) (K:=60) (n:=10) ae (aw _) (az _) (ao _) (by as_aux_lemma=>kernel_rfl)
theorem Ms:ACallsTo Tryz.prog 160 [.agg [.slice 0 0 (cW 6).length none,.slice 1 0 (bp 6).length none]] [.absent,.cells false 3 (tC (bp 6))] (.tuple [.map 2,.bool true]) ([.absent,.cells false 3 (tC (bp 6))]++[.map ((Nl (bp 6) 0).map sdE)]):=
 cR (lv:=ad) (K:=60) (n:=10) ae (aw _) (az _) (ao _) (by as_aux_lemma=>kernel_rfl)
theorem Mt:ACallsTo Tryz.prog 160 [.agg [.slice 0 0 (cW 7).length none,.slice 1 0 (bp 7).length none]] [.absent,.cells false 3 (tC (bp 7))] (.tuple [.map 2,.bool true]) ([.absent,.cells false 3 (tC (bp 7))]++[.map ((Nl (bp 7) 0).map sdE)]):=
 cR (lv:=ad) (K:=60) (n:=10) ae (aw _) (az _) (ao _) (by as_aux_lemma=>kernel_rfl)
theorem CF(k:Nat) (hk:k<8):ACallsTo Tryz.prog 160 [.agg [.slice 0 0 (cW k).length none,.slice 1 0 (bp k).length none]] [.absent,.cells false 3 (tC (bp k))] (.tuple [.map 2,.bool true]) ([.absent,.cells false 3 (tC (bp k))]++[.map ((Nl (bp k) 0).map sdE)]):=by
 have hjj:k=0∨k=1∨k=2∨k=3∨k=4∨k=5∨k=6∨k=7:=by omega
 rcases hjj with rfl | rfl | rfl | rfl | rfl | rfl | rfl | rfl
 ·exact Ml
 ·exact Mm
 ·exact Mn
 ·exact Mo
 ·exact Mq
 ·exact Mr
 ·exact Ms
 ·exact Mt
theorem Kp(k:Nat) (hk:k<8):rv (Nl (bp k) 0)=true∧yN (pL (Nl (bp k) 0))=some ((jI k).map fun(n:Nat)=>(n:Int))∧(Io (bp k)).length=(cW k).length∧jI k≠[]∧(∀c∈jI k,c<(cW k).length)∧bp k≠[]∧(bp k).length≤4∧(jI k).length≤6:=by
 have hjj:k=0∨k=1∨k=2∨k=3∨k=4∨k=5∨k=6∨k=7:=by omega
 rcases hjj with rfl | rfl | rfl | rfl | rfl | rfl | rfl | rfl<;>decide
theorem wG(s:Sheet):Tryz.Whole s.P s.T (Nl s.T 0) (jI (s.kind%8)):=by
 have hk:s.kind%8<8:=Nat.mod_lt _ (by omega);have h:=RC s;obtain⟨f1,f2,f3,f4,f5,f6,f7,f8⟩:=Kp (s.kind%8) hk;have hlen:=Sheet.P_length s;have hle:=BE (s.kind%8);unfold gP at h;simp only[Bool.and_eq_true,decide_eq_true_eq] at h;obtain⟨⟨⟨⟨h1,h2⟩,h3⟩,h4⟩,h5⟩:=h;refine⟨fun p hp=>?_,h1,?_,f1,f2,by rw[hlen];exact f3,⟨f4,by rw[hlen];exact f5,fun i hi=>?_,h5⟩,fun t ht=>?_,by omega,f6,by show(bp _).length≤800;omega,by omega⟩
 ·have:=List.all_eq_true.1 h2 p hp
  simp only[Bool.and_eq_true,decide_eq_true_eq] at this;obtain⟨⟨⟨a1,a2⟩,a3⟩,a4⟩:=this;have d1:dg 2 1 p.1:=⟨a1,a2⟩;have d2:dg 2 1 p.2:=⟨a3,a4⟩;exact⟨d1.mono (by omega) (by omega),d2.mono (by omega) (by omega)⟩
 ·unfold yq
  rw[hlen];exact CF (s.kind%8) hk
 ·have:=List.all_eq_true.1 h4 i (List.mem_range.2 hi)
  simpa using this
 ·have:=List.all_eq_true.1 h3 t ht
  unfold TN;split at this
  ·rename_i p q r e1 e2 e3
   exact⟨p,q,r,e1,e2,e3,by simpa using this⟩
  ·cases this
theorem BY(s:Sheet):ACallsTo Tryz.prog 59 [.agg [.slice 0 0 s.P.length none,.slice 1 0 s.T.length none]] [.cells false 2 (pC s.P),.cells false 3 (tC s.T)] (.int .i64 0) [.cells false 2 (pC s.P),.cells false 3 (tC s.T)]:=
 BX (wG s)
end Go.Proofs
