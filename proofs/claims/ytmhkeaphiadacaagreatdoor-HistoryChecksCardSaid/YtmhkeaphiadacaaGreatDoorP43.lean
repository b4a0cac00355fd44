/- See P53. -/
import Derived.Test.YtmhkeaphiadacaaGreatDoorP42
set_option linter.all false
set_option maxRecDepth 100000
set_option maxHeartbeats 40000000
namespace Go.Proofs
open Go.Eng
open Tryz
theorem BX(M:Mem)(ks:List Sd)(b b1 b2 n1 n2:Nat)(hb1:b1<M.length)(WE:b2<M.length)(hm:wP M b=some (ks.map sdE))(WN:K5 ks=true):
  mB prog 107 [.agg [.slice b1 0 n1 none,.slice b2 0 n2 none],.map b] M (.tuple [.kO,.bool false]) M:=by
 have hb:b<M.length:=by
  unfold wP at hm;split at hm
  ·rename_i es h;exact(List.getElem?_eq_some_iff.1 h).1
  ·rename_i es h;exact(List.getElem?_eq_some_iff.1 h).1
  ·cases hm
 have:=mB.frame (M:=M) (new:=[]) (args:=[.agg [.slice 1 0 n1 none,.slice 2 0 n2 none],.map 0]) [b,b1,b2] (m:=[.aaF (ks.map sdE),.qF,.qF]) rfl (by intro k hk;simp at hk;rcases hk with rfl | rfl | rfl<;>assumption) (by rfl) (fun i s hs=>by
  match i with
  |0=>
   simp at hs;subst hs;refine⟨ks.map sdE,?_,rfl,fun j e he=>?_⟩
   ·unfold wP at hm
    split at hm
    ·rename_i es h;cases hm;exact .inr h
    ·rename_i es h;cases hm;exact .inl h
    ·cases hm
   ·rw[List.getElem?_map] at he
    simp only[Option.map_eq_some_iff] at he;obtain⟨s0,h1,rfl⟩:=he;refine⟨KX _ _,?_⟩;rw[FP,List.getElem?_map,h1];rfl
  |1=>simp at hs;subst hs;trivial
  |2=>simp at hs;subst hs;trivial
  |i+3=>simp at hs) rfl (by simpa using Ec ks n1 n2 WN)
 simpa [AV.aal,AV.ren,dr] using this
def V6(PS:List P2) (cyc:List Nat):Prop:=nq (gr (q9 PS cyc 0) (q9 PS cyc 1) (q9 PS cyc 2))<0
structure Tryz.ac8 (PS:List P2) (TS:List Tr) (sds:List Sd) (cyc:List Nat) (tw:Bool):Prop where
 dg:∀p∈PS,pDg 2 p
 nodup:PS.Nodup
 ac3:om PS TS sds
 tr:∀t∈TS,Ua PS t
 len:PS.length≤400
 ac4:TS≠[]
 acH:TS.length≤800
 ac9:tw=true→K5 sds=true
 outer:tw=false→oH sds=true∧tW (pn sds)=some (cyc.map fun(n:Nat)=>(n:Int))∧cyc≠[]∧(∀c∈cyc,c<PS.length)∧((zf TS).length≠PS.length∨V6 PS cyc)
 ada:M9 PS TS=true
open Classical in
noncomputable def mV(tw:Bool) (PS:List P2) (TS:List Tr) (sds:List Sd) (cyc:List Nat):aac:=fun c args M=>match c,args with
 |.fn 106,[.agg [.slice b 0 n none,.slice c 0 k none]]=>if n=PS.length∧k=TS.length∧b<M.length∧(∃o,M[c]? =some (.cells o 3 (tC TS))) then some ⟨.tuple [.map M.length,.bool true],none,[.map (sds.map sdE)]⟩ else none
 |.fn 107,[.agg [.slice b 0 _ none,.slice c 0 _ none],.map q]=>if b<M.length∧c<M.length∧wP M q=some (sds.map sdE) then (if tw=true then some ⟨.tuple [.kO,.bool false],none,[]⟩ else some ⟨.tuple [.slice M.length 0 cyc.length none,.bool true],none,[.cells true 1 (cZ cyc)]⟩) else none
 |.fn 108,[.agg [.slice b 0 n none,.slice c 0 _ none],.slice q 0 l none]=>if tw=false∧V6 PS cyc∧n=PS.length∧l=cyc.length∧c<M.length∧(∃o,M[b]? =some (.cells o 2 (pC PS)))∧(∃o,M[q]? =some (.cells o 1 (cZ cyc))) then some ⟨.bool false,none,[]⟩ else none
 |_,_=>none
variable{cyc:List Nat}{sds:List Sd}{tw:Bool}
section
variable{PS:List P2}{TS:List Tr}(hw:ac8 PS TS sds cyc tw)
include PS TS hw
theorem JK:qS prog (mV tw PS TS sds cyc):=by
 refine cJ fun c args M r h=>?_
 unfold mV at h;split at h
 ·rename_i b n c k
  split at h
  ·rename_i hc
   obtain⟨rfl,rfl,hb,o,hM⟩:=hc;cases h;refine ak ?_;have:=mB.frame (M:=M) (new:=[.map (sds.map sdE)]) [b,c] (m:=[.qF,.cells false 3 (tC TS)]) rfl (by
    intro k hk;simp only[List.mem_cons,List.not_mem_nil,or_false] at hk;rcases hk with rfl | rfl
    ·exact hb
    ·exact bL hM) (by rfl) (fun i s hs=>by
    match i with
    |0=>simp at hs;subst hs;trivial
    |1=>simp at hs;subst hs;exact aV (dp TS) hM (List.take_length)
    |i+2=>simp at hs) rfl hw.ac3
   simpa [AV.aal,AV.ren,dr,aae.ren,Se,N7] using this
  ·cases h
 ·rename_i b n c k q
  split at h
  ·rename_i hc
   obtain⟨hb,WE,hM⟩:=hc;split at h
   ·rename_i htw
    cases h;refine ak ?_;rw[List.append_nil];exact BX M sds q b c n k hb WE hM (hw.ac9 htw)
   ·rename_i htw
    cases h;obtain⟨ho,hcy,-⟩:=hw.outer (by simpa using htw);refine ak ?_;have:=pH M sds (cyc.map fun(n:Nat)=>(n:Int)) q b c n k hb WE hM ho hcy;rw[Vu,List.length_map] at this;exact this
  ·cases h
 ·rename_i b n c k q l
  split at h
  ·rename_i hc
   obtain⟨htw,Xu,rfl,rfl,WE,⟨o,hM⟩,⟨o2,XH⟩⟩:=hc;cases h;obtain⟨-,-,h0,Xh,-⟩:=hw.outer htw;refine ak ?_;have:=mB.frame (M:=M) (new:=[]) (args:=[.agg [.slice 0 0 PS.length none,.slice 1 0 k none],.slice 2 0 cyc.length none]) [b,c,q] (m:=[.cells false 2 (pC PS),.qF,.cells false 1 (cZ cyc)]) rfl (by
    intro k hk;simp only[List.mem_cons,List.not_mem_nil,or_false] at hk;rcases hk with rfl | rfl | rfl
    ·exact bL hM
    ·exact WE
    ·exact bL XH) (by rfl) (fun i s hs=>by
    match i with
    |0=>simp at hs;subst hs;exact aV (bV PS) hM (List.take_length)
    |1=>simp at hs;subst hs;trivial
    |2=>simp at hs;subst hs;exact aV (AS cyc) XH (List.take_length)
    |i+3=>simp at hs) rfl (by simpa using Gp PS k cyc hw.dg Xh h0 Xu)
   simpa [AV.aal,AV.ren,dr] using this
  ·cases h
 ·cases h
theorem Ea:
  mB prog 77 [.agg [.slice 0 0 PS.length none,.slice 1 0 TS.length none]] [.cells false 2 (pC PS),.cells false 3 (tC TS)] (.bool false) [.cells false 2 (pC PS),.cells false 3 (tC TS)]:=by
 have hG:aO prog 77=some f77:=by kernel_rfl
 have hl:=hw.len;have WZ:=hw.acH;obtain⟨b,b2,hb⟩:∃b b2,aj f77=[b,b2]:=⟨_,_,rfl⟩
 obtain⟨K,hK⟩:∃K,K=TS.length:=⟨_,rfl⟩
 obtain⟨F,hF⟩:=qA (O:=mV tw PS TS sds cyc) (K:=K) PS TS (sds.map sdE) (by omega) (mg 5 sds) (by omega) hb;simp[aj,aD,f77] at hb;obtain⟨rfl,rfl⟩:=hb;have H1:=fun y' d h=>(hF y' d h).1
 have hG1:=fun y' d h=>(hF y' d h).2.1
 have hG3:=fun y' d h=>(hF y' d h).2.2.1
 have hG5:=fun y' d h=>(hF y' d h).2.2.2
 clear hF;refine aY (lv:=uW) (K:=(K+5)) (JK hw) ?_;simp only[rJ,List.map_nil,msB] at H1;cases tw with
 |true=>simp[ad,hG,f77,H1,hG1,hG3,mV,wP]
 |false=>
  obtain⟨-,-,-,-,ho⟩:=hw.outer rfl;by_cases hu:(zf TS).length=PS.length
  ·have Xu:V6 PS cyc:=ho.resolve_left (fun h=>h hu)
   simp[ad,hG,f77,H1,hG1,hG3,hG5,mV,wP,hu,Xu]
  ·have hu' :¬((zf TS).length:Int)=PS.length:=by omega
   simp[ad,hG,f77,H1,hG1,hG3,hG5,mV,wP,hu']
theorem Jp:qS prog (gE false PS TS):=by
 refine cJ fun c args M r h=>?_
 unfold gE at h;split at h
 ·rename_i b n c k
  split at h
  ·rename_i hc
   obtain⟨rfl,rfl,⟨o,hM⟩,⟨o2,XH⟩⟩:=hc;cases h;refine ak ?_;have:=mB.frame (M:=M) (new:=[]) (args:=[.agg [.slice 0 0 PS.length none,.slice 1 0 TS.length none]]) [b,c] (m:=[.cells false 2 (pC PS),.cells false 3 (tC TS)]) rfl (by
    intro k hk;simp only[List.mem_cons,List.not_mem_nil,or_false] at hk;rcases hk with rfl | rfl
    ·exact bL hM
    ·exact bL XH) (by rfl) (fun i s hs=>by
    match i with
    |0=>simp at hs;subst hs;exact aV (bV PS) hM (List.take_length)
    |1=>simp at hs;subst hs;exact aV (dp TS) XH (List.take_length)
    |i+2=>simp at hs) rfl (by simpa using Ea hw)
   simpa [AV.aal,AV.ren,dr] using this
  ·cases h
 ·rename_i b n c k i j
  split at h
  ·rename_i hc
   obtain⟨-,rfl,rfl,hM,XH,j0,hji,hit⟩:=hc;cases h;have hk:=List.all_eq_true.1 hw.ada i.toNat (List.mem_range.2 (by omega));have hk2:=List.all_eq_true.1 hk j.toNat (List.mem_range.2 (by omega));simp only[Bool.and_eq_true,Bool.not_eq_true'] at hk2;refine ak ?_;rw[List.append_nil];have:=Gn (i:=i.toNat) (j:=j.toNat) hw.tr (by omega) (by omega) hk2.1 hk2.2 hM XH;rw[Int.toNat_of_nonneg (by omega),Int.toNat_of_nonneg j0] at this;exact this
  ·cases h
 ·exact iG tS h
end
section
variable {PS:List P2}{TS:List Tr}{K:Nat}{E:List (AV×AV)}{b1 b2 b3 b4 b5:Code}
def mpM(PS:List P2) (TS:List Tr) (E:List (AV×AV)):Mem:=[.cells false 2 (pC PS),.cells false 3 (tC TS),.cells true 0 [.slice 0 0 PS.length none,.slice 1 0 TS.length none],.map E]
theorem Cm{i:Nat}(hl:TS.length≤1000)(hi:i<TS.length)(hE:E.flatMap (fun e=>e.1.refs 4++e.2.refs 4)=[])(hK:1000<K)(hb:aj f41=[b1,b2,b3,b4,b5]):
  ∃F:Env→Bool→Env,∀y' d,(aa y' 1=.ptr 2 0∧aa y' 10=.int .i64 i∧aa y' 95=.int .i64 i∧aa y' 96=.int .i64 0)→
   aQ (aC prog) kg (gE false PS TS) K 105 2 true (.loop b5) ⟨y',mpM PS TS E,d⟩=some (.exit 9,⟨F y' d,mpM PS TS E,d⟩)∧aa (F y' d) 92=aa y' 92:=by
 refine bf (L:=[96]) (by simp[aj,aD,f41] at hb;rw[←hb.2.2.2.2];rfl) (fun y'=>aa y' 1=.ptr 2 0∧aa y' 10=.int .i64 i∧aa y' 95=.int .i64 i∧aa y' 96=.int .i64 0) (fun y' z' =>aa z' 92=aa y' 92) ?_;rintro y' d ⟨h1,h10,h95,h96⟩;simp[aj,aD,f41] at hb;obtain⟨-,-,-,-,hb⟩:=hb;have UV:az [96] (ab b5) y' ((96,.int .i64 ((0:Nat):Int))::y')=az [96] (ab b5) y' y':=by simp[az,h96]
 rw[←UV];refine bA (α:=Nat) (fun n=>⟨az [96] (ab b5) y' ((96,.int .i64 (n:Int))::y'),mpM PS TS E,d⟩) (fun n=>i-n) (fun n=>n≤i) (.exit 9) _ d _ (by simp) ?_ K 0 (by omega) (by omega);intro n Xi;clear UV;subst hb;by_cases AC:n<i
 ·left
  have w1:IntKind.i64.wrap ((n:Int)+1)=((n+1:Nat):Int):=by rw[ai (by omega) (by omega)];omega
  obtain⟨m,hm⟩:∃m,m=n+1:=⟨_,rfl⟩
  rw[←hm] at w1;refine⟨m,?_⟩;simp[mpM,h1,h10,h95,AC,hi,w1,gE];omega
 ·right
  have e:n=i:=by omega
  subst e;simp[h95]
theorem Az(hl:TS.length≤1000)(hE:E.flatMap (fun e=>e.1.refs 4++e.2.refs 4)=[])(hK:1000<K)(hb:aj f41=[b1,b2,b3,b4,b5]):
  ∃F:Env→Bool→Env,∀y' d,(aa y' 1=.ptr 2 0∧aa y' 91=.int .i64 TS.length∧aa y' 92=.int .i64 0)→
   aQ (aC prog) kg (gE false PS TS) K 105 2 true (.loop b4) ⟨y',mpM PS TS E,d⟩=some (.exit 7,⟨F y' d,mpM PS TS E,d⟩)∧True:=by
 refine bf (L:=[92]) (by simp[aj,aD,f41] at hb;rw[←hb.2.2.2.1];rfl) (fun y'=>aa y' 1=.ptr 2 0∧aa y' 91=.int .i64 TS.length∧aa y' 92=.int .i64 0) (fun _ z' =>True) ?_;rintro y' d ⟨h1,h91,h92⟩;have J' :=hb;simp[aj,aD,f41] at J';obtain⟨-,-,-,hb4,hb5⟩:=J';have UV:az [92] (ab b4) y' ((92,.int .i64 ((0:Nat):Int))::y')=az [92] (ab b4) y' y':=by simp[az,h92]
 rw[←UV];refine bA (α:=Nat) (fun n=>⟨az [92] (ab b4) y' ((92,.int .i64 (n:Int))::y'),mpM PS TS E,d⟩) (fun n=>TS.length-n) (fun n=>n≤TS.length) (.exit 7) _ d _ (by simp) ?_ K 0 (by omega) (by omega);intro n Xi;clear UV;by_cases AC:n<TS.length
 ·left
  obtain⟨F,hF⟩:=Cm (PS:=PS) (TS:=TS) (K:=K) (E:=E) hl AC hE hK hb;have H1:=fun y' d h=>(hF y' d h).1
  have P':=fun y' d h=>(hF y' d h).2
  subst hb5;subst hb4;have w1:IntKind.i64.wrap ((n:Int)+1)=((n+1:Nat):Int):=by rw[ai (by omega) (by omega)];omega
  obtain⟨m,hm⟩:∃m,m=n+1:=⟨_,rfl⟩
  rw[←hm] at w1;refine⟨m,?_⟩;simp only[mpM] at H1;simp[mpM,h1,h91,AC,w1,H1,P'];omega
 ·right
  subst hb4;have e:n=TS.length:=by omega
  subst e;simp[h91]
theorem D1(hw:ac8 PS TS sds cyc tw):
  mB prog 41 [.agg [.slice 0 0 PS.length none,.slice 1 0 TS.length none]] [.cells false 2 (pC PS),.cells false 3 (tC TS)] (.int .i64 25) [.cells false 2 (pC PS),.cells false 3 (tC TS)]:=by
 have hG:aO prog 41=some f41:=by kernel_rfl
 have hl:=hw.len;have WZ:=hw.acH;have hl0:0<TS.length:=List.length_pos_iff.2 hw.ac4;obtain⟨b1,b2,b3,b4,b5,hb⟩:∃b1 b2 b3 b4 b5,aj f41=[b1,b2,b3,b4,b5]:=⟨_,_,_,_,_,rfl⟩
 obtain⟨K,hK⟩:∃K,K=PS.length+TS.length+2000:=⟨_,rfl⟩
 obtain⟨F,hF⟩:=mR (K:=K+5) false PS TS hw.dg hw.nodup (by omega) (by omega) hb;obtain⟨F2,P'⟩:=mT (K:=K) false PS TS (PS.map pmE) hw.dg hw.tr (by omega) (by omega) (vv 4 PS) (by omega) hb;obtain⟨F5,hF5⟩:=Az (PS:=PS) (TS:=TS) (K:=K+5) (E:=PS.map pmE) (by omega) (vv 4 PS) (by omega) hb;simp[aj,aD,f41] at hb;obtain⟨rfl,rfl,rfl,rfl,rfl⟩:=hb;have H1:=fun y' d h=>(hF y' d h).1
 have Xv:=fun y' d h=>(P' y' d h).1
 have hG1:=fun y' d h=>(hF y' d h).2
 have hG3:=fun y' d h=>(P' y' d h).2
 have hF6:=fun y' d h=>(hF5 y' d h).1
 clear hF P' hF5;have n1:¬(800:Int)<TS.length:=by omega
 have n2:¬(400:Int)<PS.length:=by omega
 have n3:¬800<TS.length:=by omega
 have n4:¬400<PS.length:=by omega
 have n5:¬TS.length=0:=by omega
 have n6:¬(TS.length:Int)=0:=by omega
 have w25:IntKind.i64.wrap 25=25:=rfl;refine aY (lv:=kg) (K:=(K+5)) (Jp hw) ?_;simp only[msB] at H1 Xv;simp only[mpM] at hF6;simp[ad,hG,f41,H1,Xv,hF6,hG1,hG3,gE,n1,n2,n5]
end
end Go.Proofs
