/- See R54. -/
import Derived.Test.YtgafjliihahjgaaGreatDoorR23
import Derived.Test.YtgafjliihahjgaaGreatDoorR24
import Derived.Test.YtgafjliihahjgaaGreatDoorR17
set_option linter.all false
set_option maxRecDepth 100000
set_option maxHeartbeats 40000000
namespace Go.Proofs
open Go.Eng
open Tryz
def uE(a:Nat):AV×AV:=(.int .i64 (a:Int),.bool true)
def Wt(L:List Nat) (a:Nat):List Nat:=if a∈L then L else L++[a]
def XG(L:List Nat) (t:Tr):List Nat:=Wt (Wt (Wt L t.1) t.2.1) t.2.2
def KQ(TS:List Tr):List Nat:=TS.foldl XG []
theorem U4{α:Type}{l:List α}{i:Nat}{x:α}(h:l[i]? =some x):l.set i x=l:=by
 apply List.ext_getElem?;intro j;rw[List.getElem?_set];by_cases Zp:i=j
 ·subst Zp
  rw[if_pos rfl,if_pos (gL h),h]
 ·rw[if_neg Zp]
theorem vT(a:Nat):∀(L:List Nat) (i:Nat),(a∉L→jj (aM prog) 3 (.int .i64 (a:Int)) (L.map uE) i=some none)∧(a∈L→∃q,jj (aM prog) 3 (.int .i64 (a:Int)) (L.map uE) i=some (some (i+q,.bool true))∧L[q]? =some a)
 | [],i=>⟨fun _=>rfl,fun h=>by cases h⟩
 |b::L,i=>by
  have e:lz (aM prog) 20 3 (.int .i64 (a:Int)) (.int .i64 (b:Int))=some (decide ((a:Int)=(b:Int))):=by simp[lz]
  simp only[List.map_cons,jj,uE,e];have ih:=vT a L (i+1);by_cases h:a=b
  ·subst h
   simp only[decide_true];exact⟨fun h=>absurd (List.mem_cons_self ..) h,fun _=>⟨0,rfl,rfl⟩⟩
  ·have h' :¬((a:Int)=(b:Int)):=by omega
   simp only[h',decide_false];refine⟨fun hn=>ih.1 (fun h2=>hn (List.mem_cons_of_mem _ h2)),fun hm=>?_⟩;rcases List.mem_cons.1 hm with h2 | h2
   ·exact absurd h2 h
   ·obtain⟨q,q1,q2⟩:=ih.2 h2
    exact⟨q+1,by rw[q1,show i+1+q=i+(q+1) by omega],by simpa using q2⟩
theorem Qs(M:Mem)(b:Nat)(L:List Nat)(a:Nat)(hM:M[b]? =some (.map (L.map uE))):eZ (aM prog) M 255 (.map b) (.int .i64 (a:Int)) (.bool true)=some (M.set b (.map ((Wt L a).map uE))):=by
 have hk:lE (aM prog) 20 3 (.int .i64 (a:Int))=true:=by simp[lE]
 unfold eZ;rw[Jn];simp only[hM,hk,if_true];by_cases h:a∈L
 ·obtain⟨q,q1,q2⟩:=(vT a L 0).2 h
  rw[q1];have:Wt L a=L:=if_pos h;rw[this,Nat.zero_add];simp only[AV.afn,if_true];rw[show((.int .i64 (a:Int),.bool true):AV×AV)=uE a from rfl,U4 (l:=L.map uE) (i:=q) (x:=uE a) (by rw[List.getElem?_map,q2];rfl)]
 ·rw[(vT a L 0).1 h]
  have:Wt L a=L++[a]:=if_neg h;rw[this];simp[uE]
theorem SW(n:Nat):∀L:List Nat,(L.map uE).flatMap (fun e=>e.1.refs n++e.2.refs n)=[]
 | []=>rfl
 |p::N=>by simp[uE,AV.refs,SW n N]
variable{TS:List Tr}{n:Nat}
theorem Qb{t:Tr}(h:TS[n]? =some t):KQ (TS.take (n+1))=XG (KQ (TS.take n)) t:=by rw[List.take_add_one,h];simp[KQ]
def uI(PS:List P2) (TS:List Tr) (D:List (AV×AV)) (L:List Nat):Mem:=[.cells false 2 (pC PS),.cells false 3 (tC TS),msB PS.length TS.length,.map D,.map (L.map uE)]
def As(c:Code):List Nat:=if (aa c).contains 23 then [23] else [28]
variable{K:Nat}{b:Code}
theorem At{O:adM}(PS:List P2)(TS:List Tr)(D:List (AV×AV))(YU:TS.length≤1000000000)(hD:D.flatMap (fun e=>e.1.refs 5++e.2.refs 5)=[])(hK:TS.length<K+5){b2:Code}(hb:ai f107=[b,b2]):
  ∃F:Env→Bool→Env,∀z' d,(ab z' 5=.map 4∧ab z' 21=.slice 1 0 TS.length none∧ab z' 22=.int .i64 TS.length∧ab z' 23=.int .i64 0∧ab z' 1=.ptr 2 0∧ab z' 3=.map 3)→
   aN (aM prog) As O (K+5) 55 2 true (.loop b) ⟨z',uI PS TS D [],d⟩=some (.exit 0,⟨F z' d,uI PS TS D (KQ TS),d⟩)∧ab (F z' d) 1=.ptr 2 0∧ab (F z' d) 3=.map 3∧ab (F z' d) 5=.map 4:=by
 refine cv (L:=[23]) (by simp[ai,aK,f107] at hb;rw[←hb.1];rfl) (fun z'=>ab z' 5=.map 4∧ab z' 21=.slice 1 0 TS.length none∧ab z' 22=.int .i64 TS.length∧ab z' 23=.int .i64 0∧ab z' 1=.ptr 2 0∧ab z' 3=.map 3) (fun _ AC =>ab AC 1=.ptr 2 0∧ab AC 3=.map 3∧ab AC 5=.map 4) ?_;rintro z' d ⟨h5,h21,h22,h23,h1,h3⟩;simp[ai,aK,f107] at hb;obtain⟨hb,-⟩:=hb;have YF:aD [23] (aa b) z' ((23,.int .i64 ((0:Nat):Int))::z')=aD [23] (aa b) z' z':=by simp[aD,h23]
 rw[←YF];refine cV (α:=Nat) (fun n=>⟨aD [23] (aa b) z' ((23,.int .i64 (n:Int))::z'),uI PS TS D (KQ (TS.take n)),d⟩) (fun n=>TS.length-n) (fun n=>n≤TS.length) (.exit 0) _ d _ (by simp) ?_ (K+5) 0 (by omega) (by omega);intro n Za;clear YF;subst hb;by_cases A':n<TS.length
 ·left
  obtain⟨t,ht⟩:∃q,TS[n]? =some q:=⟨TS[n],List.getElem?_eq_getElem A'⟩
  obtain⟨k1,k2⟩:=U8 ht;have hU:=Qb ht;obtain⟨i1,i2,i3⟩:=t;simp only[XG] at k1 hU;have w1:IntKind.i64.wrap ((n:Int)+1)=((n+1:Nat):Int):=by rw[al (by omega) (by omega)];omega
  obtain⟨m,hm⟩:∃m,m=n+1:=⟨_,rfl⟩
  rw[←hm] at w1 hU;obtain⟨L,hL⟩:∃L,L=KQ (TS.take n):=⟨_,rfl⟩
  rw[←hL] at hU;rw[←hL];have v1:IntKind.i64.wrap 1=1:=rfl;have v2:IntKind.i64.wrap 2=2:=rfl;have v3:IntKind.i64.wrap 3=3:=rfl;have v2' :IntKind.i64.wrap (1+1)=2:=rfl;have v3' :IntKind.i64.wrap (2+1)=3:=rfl;have u:∀(L' :List Nat) (a:Nat),eZ (aM prog) [.cells false 2 (pC PS),.cells false 3 (tC TS),.cells true 0 [.slice 0 0 PS.length none,.slice 1 0 TS.length none],.map D,.map (L'.map uE),.cells true 0 [.int .i64 (i1:Int),.int .i64 (i2:Int),.int .i64 (i3:Int)]] 255 (.map 4) (.int .i64 (a:Int)) (.bool true)=
    some [.cells false 2 (pC PS),.cells false 3 (tC TS),.cells true 0 [.slice 0 0 PS.length none,.slice 1 0 TS.length none],.map D,.map ((Wt L' a).map uE),.cells true 0 [.int .i64 (i1:Int),.int .i64 (i2:Int),.int .i64 (i3:Int)]]:=fun L' a=>Qs _ 4 L' a rfl
  refine⟨m,?_⟩;simp[uI,h5,h21,h22,A',k1,k2,aI,ej,v1,v2,v3,As,u,hD,hU,msB,dV,eO,SW,w1];omega
 ·right
  have e:TS.take n=TS:=List.take_of_length_le (by omega);rw[e];have X5 :¬(n:Int)<TS.length:=by omega
  simp[h22,h1,h3,h5,A']
theorem We(f:Nat→Option Nat)(sds:List Sd):(sds.map sdE).map (fun e=>(e.1.ren f,e.2.ren f))=sds.map sdE:=by rw[List.map_map];exact List.map_congr_left fun s _=>MS f s
theorem U3(f:Nat→Option Nat)(sds:List Sd):sds.map ((fun(e:AV×AV)=>(e.1.ren f,e.2.ren f))∘sdE)=sds.map sdE:=
 List.map_congr_left fun s _=>MS f s
def Al(PS:List P2) (TS:List Tr) (sds:List Sd):Prop:=
 kF prog 160 [.agg [.slice 0 0 PS.length none,.slice 1 0 TS.length none]] [.kO,.cells false 3 (tC TS)] (.tuple [.map 2,.bool true]) ([.kO,.cells false 3 (tC TS)]++[.map (sds.map sdE)])
structure Tryz.Whole (PS:List P2) (TS:List Tr) (sds:List Sd) (cyc:List Nat):Prop where
 dg:∀p∈PS,pDg 2 p
 nodup:PS.Nodup
 ahp:Al PS TS sds
 outer:tS sds=true
 cy:AJ (rK sds)=some (cyc.map fun(n:Nat)=>(n:Int))
 used:(KQ TS).length=PS.length
 once:SK PS cyc
 tr:∀t∈TS,XE PS t
 len:PS.length≤400
 ahq:TS≠[]
 ahm:TS.length≤800
 ahr:cyc.length≤1000000
open Classical in
noncomputable def yP(PS:List P2) (TS:List Tr) (sds:List Sd) (cyc:List Nat):adM:=fun c args M=>match c,args with
 |.fn 160,[.agg [.slice b 0 n none,.slice c 0 k none]]=>if n=PS.length∧k=TS.length∧b<M.length∧(∃o,M[c]? =some (.cells o 3 (tC TS))) then some ⟨.tuple [.map M.length,.bool true],none,[.map (sds.map sdE)]⟩ else none
 |.fn 161,[.agg [.slice b 0 _ none,.slice c 0 _ none],.map q]=>if b<M.length∧c<M.length∧PO M q=some (sds.map sdE) then some ⟨.tuple [.slice M.length 0 cyc.length none,.bool true],none,[.cells true 1 (cZ cyc)]⟩ else none
 |.fn 162,[.agg [.slice b 0 n none,.slice c 0 _ none],.slice q 0 l none]=>if n=PS.length∧l=cyc.length∧c<M.length∧(∃o,M[b]? =some (.cells o 2 (pC PS)))∧(∃o,M[q]? =some (.cells o 1 (cZ cyc))) then some ⟨.bool true,none,[]⟩ else none
 |_,_=>none
theorem JE:∀cyc:List Nat,AV.aeG (cZ cyc)=true
 | []=>rfl
 |c::l=>by have:=JE l;simp only[cZ] at this;simp[cZ,AV.aeG,AV.closed,this]
theorem Xu(cyc:List Nat):iZ (cyc.map fun(n:Nat)=>(n:Int))=cZ cyc:=by simp[iZ,cZ]
theorem qu{M:Mem}{b:Nat}{s:aeD}(h:M[b]? =some s):b<M.length:=(gL h)
variable{PS:List P2}{cyc:List Nat}{sds:List Sd}
section
variable (hw:Whole PS TS sds cyc)
include hw
theorem L7:kP prog (yP PS TS sds cyc):=by
 refine dq fun c args M r h=>?_
 unfold yP at h;split at h
 ·rename_i b n c k
  split at h
  ·rename_i hc
   obtain⟨rfl,rfl,hb,o,hM⟩:=hc;cases h;refine af ?_;have:=kF.frame (M:=M) (new:=[.map (sds.map sdE)]) [b,c] (m:=[.kO,.cells false 3 (tC TS)]) rfl (by
    intro k hk;simp only[List.mem_cons,List.not_mem_nil,or_false] at hk;rcases hk with rfl | rfl
    ·exact hb
    ·exact qu hM) (by rfl) (fun i s hs=>by
    match i with
    |0=>simp at hs;subst hs;trivial
    |1=>simp at hs;subst hs;exact bL (fJ TS) hM (List.take_length)
    |i+2=>simp at hs) rfl hw.ahp
   simpa [AV.aeM,AV.ren,aF,aeD.ren,We,U3] using this
  ·cases h
 ·rename_i b n c k q
  split at h
  ·rename_i hc
   obtain⟨hb,Yl,hM⟩:=hc;cases h;refine af ?_;have:=w9 M sds (cyc.map fun(n:Nat)=>(n:Int)) q b c n k hb Yl hM hw.outer hw.cy;rw[Xu,List.length_map] at this;exact this
  ·cases h
 ·rename_i b n c k q l
  split at h
  ·rename_i hc
   obtain⟨rfl,rfl,Yl,⟨o,hM⟩,⟨o2,hM2⟩⟩:=hc;cases h;refine af ?_;have:=kF.frame (M:=M) (new:=[]) (args:=[.agg [.slice 0 0 PS.length none,.slice 1 0 k none],.slice 2 0 cyc.length none]) [b,c,q] (m:=[.cells false 2 (pC PS),.kO,.cells false 1 (cZ cyc)]) rfl (by
    intro k hk;simp only[List.mem_cons,List.not_mem_nil,or_false] at hk;rcases hk with rfl | rfl | rfl
    ·exact qu hM
    ·exact Yl
    ·exact qu hM2) (by rfl) (fun i s hs=>by
    match i with
    |0=>simp at hs;subst hs;exact bL (dQ PS) hM (List.take_length)
    |1=>simp at hs;subst hs;trivial
    |2=>simp at hs;subst hs;exact bL (JE cyc) hM2 (List.take_length)
    |i+3=>simp at hs) rfl (by simpa using K9 PS k cyc hw.dg hw.once hw.ahr)
   simpa [AV.aeM,AV.ren,aF] using this
  ·cases h
 ·cases h
theorem Gd:
  kF prog 107 [.agg [.slice 0 0 PS.length none,.slice 1 0 TS.length none]] [.cells false 2 (pC PS),.cells false 3 (tC TS)] (.bool true) [.cells false 2 (pC PS),.cells false 3 (tC TS)]:=by
 have hG:aT prog 107=some f107:=by kernel_rfl
 have hl:=hw.len;have YU:=hw.ahm;obtain⟨b,b2,hb⟩:∃b b2,ai f107=[b,b2]:=⟨_,_,rfl⟩
 obtain⟨K,hK⟩:∃K,K=TS.length:=⟨_,rfl⟩
 obtain⟨F,hF⟩:=At (O:=yP PS TS sds cyc) (K:=K) PS TS (sds.map sdE) (by omega) (qL 5 sds) (by omega) hb;simp[ai,aK,f107] at hb;obtain⟨rfl,rfl⟩:=hb;have I':=fun z' d h=>(hF z' d h).1
 have hG1:=fun z' d h=>(hF z' d h).2.1
 have hG3:=fun z' d h=>(hF z' d h).2.2.1
 have hG5:=fun z' d h=>(hF z' d h).2.2.2
 clear hF;have hu:=hw.used;refine bB (lv:=As) (K:=(K+5)) (L7 hw) ?_;simp only[uI,List.map_nil,msB] at I';simp[ad,hG,f107,I',hG1,hG3,hG5,yP,PO,hu]
theorem LR:kP prog (nW true PS TS):=by
 refine dq fun c args M r h=>?_
 unfold nW at h;split at h
 ·rename_i b n c k
  split at h
  ·rename_i hc
   obtain⟨rfl,rfl,⟨o,hM⟩,⟨o2,hM2⟩⟩:=hc;cases h;refine af ?_;have:=kF.frame (M:=M) (new:=[]) (args:=[.agg [.slice 0 0 PS.length none,.slice 1 0 TS.length none]]) [b,c] (m:=[.cells false 2 (pC PS),.cells false 3 (tC TS)]) rfl (by
    intro k hk;simp only[List.mem_cons,List.not_mem_nil,or_false] at hk;rcases hk with rfl | rfl
    ·exact qu hM
    ·exact qu hM2) (by rfl) (fun i s hs=>by
    match i with
    |0=>simp at hs;subst hs;exact bL (dQ PS) hM (List.take_length)
    |1=>simp at hs;subst hs;exact bL (fJ TS) hM2 (List.take_length)
    |i+2=>simp at hs) rfl (by simpa using Gd hw)
   simpa [AV.aeM,AV.ren,aF] using this
  ·cases h
 ·split at h
  ·rename_i hc
   cases hc.1
  ·cases h
 ·exact jr Ad h
theorem D2:
  kF prog 59 [.agg [.slice 0 0 PS.length none,.slice 1 0 TS.length none]] [.cells false 2 (pC PS),.cells false 3 (tC TS)] (.int .i64 0) [.cells false 2 (pC PS),.cells false 3 (tC TS)]:=by
 have hG:aT prog 59=some f59:=by kernel_rfl
 have hl:=hw.len;have YU:=hw.ahm;have hl0:0<TS.length:=by have:=hw.ahq;cases TS with | nil=>exact absurd rfl this | cons a l=>simp
 obtain⟨b1,b2,b3,b4,b5,hb⟩:∃b1 b2 b3 b4 b5,ai f59=[b1,b2,b3,b4,b5]:=⟨_,_,_,_,_,rfl⟩
 obtain⟨K,hK⟩:∃K,K=PS.length+TS.length:=⟨_,rfl⟩
 obtain⟨F,hF⟩:=vZ (K:=K+5) true PS TS hw.dg hw.nodup (by omega) (by omega) hb;obtain⟨F2,T'⟩:=we (K:=K) true PS TS (PS.map pmE) hw.dg hw.tr (by omega) (by omega) (Fx 4 PS) (by omega) hb;simp[ai,aK,f59] at hb;obtain⟨rfl,rfl,rfl,rfl,rfl⟩:=hb;have I':=fun z' d h=>(hF z' d h).1
 have Yh:=fun z' d h=>(T' z' d h).1
 have hG1:=fun z' d h=>(hF z' d h).2
 have hG3:=fun z' d h=>(T' z' d h).2
 clear hF T';have n1:¬(800:Int)<TS.length:=by omega
 have n2:¬(400:Int)<PS.length:=by omega
 have n3:¬800<TS.length:=by omega
 have n4:¬400<PS.length:=by omega
 have n5:¬TS.length=0:=by omega
 have n6:¬(TS.length:Int)=0:=by omega
 refine bB (lv:=uC) (K:=(K+5)) (LR hw) ?_;simp only[msB] at I' Yh;simp[ad,hG,f59,I',Yh,hG1,hG3,nW,n1,n2,n5]
end
noncomputable def EG(f:FuncId) (args:List AV):Option AV:=
 match f,args with
 |56,[.int .i64 n,.int .i64 d]=>if (d=1∨d=2)∧ -7≤n∧n≤13 then some (.tuple [.str (aw (mkRat n d.toNat)),.int .i64 0]) else none
 |_,_=>none
theorem OX:kP prog (ag EG):=bK fun f args v h mem=>by
 unfold EG at h;split at h
 ·rename_i n d
  split at h
  ·rename_i hc
   cases h;have:=Qo n d.toNat (by omega) hc.2.1 hc.2.2 mem;rw[Int.toNat_of_nonneg (by omega)] at this;exact this
  ·cases h
 ·cases h
theorem dA{n:Int}(h0: -1000000≤n)(h1:n≤1000000):IntKind.i64.wrap n=n:=by rw[al (by omega) (by omega)]
theorem Ga(s:aeE)(hs:s.Ok)(x y:Int)(hx0:0≤x)(hx1:x≤6)(hy0:0≤y)(hy1:y≤6)(M:Mem):
  kF prog 33 [s.av,.agg [.int .i8 x,.int .i8 y],.int .i64 1] M (pA (s.pt 1 x y)) M:=by
 have hG:aT prog 33=some f33:=by kernel_rfl
 obtain⟨kd,sx,sy,hf⟩:=s;have q1:=CA sx;have q2:=CA sy;unfold aeE.av aeE.pt;simp only;obtain⟨u,hu⟩:∃u,u=sx.tmod 8:=⟨_,rfl⟩
 obtain⟨v,hv⟩:∃u,u=sy.tmod 8:=⟨_,rfl⟩
 rw[←hu] at q1 ⊢;rw[←hv] at q2 ⊢;refine az OX (lv:=fun _=>[]) (K:=1) rfl rfl ?_ M;have wx:IntKind.i64.wrap x=x:=dA (by omega) (by omega);have wy:IntKind.i64.wrap y=y:=dA (by omega) (by omega);have wu:IntKind.i64.wrap u=u:=dA (by omega) (by omega);have wv:IntKind.i64.wrap v=v:=dA (by omega) (by omega);have a1:IntKind.i64.wrap (x+u)=x+u:=dA (by omega) (by omega);have a2:IntKind.i64.wrap (y+v)=y+v:=dA (by omega) (by omega);have b1:IntKind.i64.wrap 1=1:=rfl;have b2:IntKind.i64.wrap 2=2:=rfl;have f1: -7≤x+u:=by omega
 have g1:x+u≤13:=by omega
 have f2: -7≤y+v:=by omega
 have g2:y+v≤13:=by omega
 cases hf<;>simp[ad,hG,f33,ag,EG,←hu,←hv,wx,wy,wu,wv,a1,a2,b1,b2,f1,f2,g1,g2,cM,aR,pA]
theorem D0(k:Nat)(hk:k<256):kF prog 45 [.int .u8 (k:Int)] [] (.tuple [.slice 0 0 (dx (k%8)).length none,.slice 1 0 (bD (k%8)).length none]) [.cells true 2 (iP (dx (k%8))),.cells true 3 (tC (bD (k%8)))]:=by
 have hG:aT prog 45=some f45:=by kernel_rfl
 have ht:(k:Int).tmod 8=((k%8:Nat):Int):=rfl;have A':k%8<8:=Nat.mod_lt _ (by omega);obtain⟨j,hj⟩:∃j,j=k%8:=⟨_,rfl⟩
 rw[←hj] at ht A' ⊢;have h:ad (aM prog) (fun _=>[]) (aT prog) bq 1 45 [.int .u8 (k:Int)] []=some ⟨.tuple [.slice 0 0 (dx j).length none,.slice 1 0 (bD j).length none],none,[.cells true 2 (iP (dx j)),.cells true 3 (tC (bD j))]⟩:=by
  have hjj:j=0∨j=1∨j=2∨j=3∨j=4∨j=5∨j=6∨j=7:=by omega
  clear A' hj;rcases hjj with rfl | rfl | rfl | rfl | rfl | rfl | rfl | rfl<;>simp[ad,hG,f45,ht,dx,bD,sqI,iP,tC,cM]<;>exact⟨rfl,rfl⟩
 have:=(ak ae (aq _) (ah _) (au _) h).1;simpa [HS.mem] using this
theorem Gb(k:Nat)(hk:k<256)(M:Mem):kF prog 45 [.int .u8 (k:Int)] M (.tuple [.slice M.length 0 (dx (k%8)).length none,.slice (M.length+1) 0 (bD (k%8)).length none]) (M++[.cells true 2 (iP (dx (k%8))),.cells true 3 (tC (bD (k%8)))]):=by have:=kF.frame (M:=M) (new:=[.cells true 2 (iP (dx (k%8))),.cells true 3 (tC (bD (k%8)))]) (args:=[.int .u8 (k:Int)]) [] (m:=[]) rfl (by simp) (by rfl) (fun i s hs=>by simp at hs) rfl (D0 k hk);simpa [AV.ren,AV.aeM,aF,aeD.ren,R9,iS] using this
noncomputable def nV(s:aeE):adM:=fun c args M=>match c,args with
 |.fn 45,[.int .u8 k]=>if k=(s.kind:Int) then some ⟨.tuple [.slice M.length 0 (dx (s.kind%8)).length none,.slice (M.length+1) 0 (bD (s.kind%8)).length none],none,[.cells true 2 (iP (dx (s.kind%8))),.cells true 3 (tC (bD (s.kind%8)))]⟩ else none
 |.fn 33,[.agg [.int .u8 k,.int .i8 sx,.int .i8 sy,.bool h],.agg [.int .i8 x,.int .i8 y],.int .i64 n]=>if k=(s.kind:Int)∧sx=s.sx∧sy=s.sy∧h=s.half∧0≤x∧x≤6∧0≤y∧y≤6∧n=1 then some ⟨pA (s.pt 1 x y),none,[]⟩ else none
 |_,_=>none
theorem LP(s:aeE)(hs:s.Ok):kP prog (nV s):=by
 refine dq fun c args M r h=>?_
 unfold nV at h;split at h
 ·split at h
  ·rename_i hc
   subst hc;cases h;exact af (Gb s.kind hs.kind M)
  ·cases h
 ·split at h
  ·rename_i hc
   obtain⟨rfl,rfl,rfl,rfl,h1,h2,h3,h4,rfl⟩:=hc;cases h;refine af ?_;rw[List.append_nil];exact Ga s hs _ _ h1 h2 h3 h4 M
  ·cases h
 ·cases h
def Tc(L:List (Int×Int)):Prop:=∀p∈L,0≤p.1∧p.1≤6∧0≤p.2∧p.2≤6
theorem KJ(k:Nat)(hk:k<8):Tc (dx k):=by
 have hjj:k=0∨k=1∨k=2∨k=3∨k=4∨k=5∨k=6∨k=7:=by omega
 rcases hjj with rfl | rfl | rfl | rfl | rfl | rfl | rfl | rfl<;>(unfold Tc;decide)
def WW(n:Nat):AV:=match n with
 |0=>.kK
 |n+1=>.slice 5 0 (n+1) none
def MA(s:aeE) (SP:List (Int×Int)) (TS:List Tr) (n:Nat):Mem:=
 [.cells true 0 [.int .u8 s.kind,.int .i8 s.sx,.int .i8 s.sy,.bool s.half],.cells true 0 [.kK,.kK],.cells true 2 (iP SP),.cells true 3 (tC TS),.cells true 0 [WW n,.slice 3 0 TS.length none]]++
  (match n with
  |0=>[]
  |n+1=>[.cells true 2 (pC ((SP.take (n+1)).map fun p=>s.pt 1 p.1 p.2))])
theorem A6{s:aeE}{SP:List (Int×Int)}(h:0<n):MA s SP TS n=
  [.cells true 0 [.int .u8 s.kind,.int .i8 s.sx,.int .i8 s.sy,.bool s.half],.cells true 0 [.kK,.kK],.cells true 2 (iP SP),.cells true 3 (tC TS),.cells true 0 [.slice 5 0 n none,.slice 3 0 TS.length none],.cells true 2 (pC ((SP.take n).map fun p=>s.pt 1 p.1 p.2))]:=by
 cases n with
 |zero=>omega
 |succ n=>rfl
theorem Ac(s:aeE)(SP:List (Int×Int))(TS:List Tr)(hsm:Tc SP)(hl:SP.length≤1000000)(hK:SP.length<K)(hb:ai f27=[b]):
  ∃F:Env→Env,∀z',(ab z' 1=.ptr 0 0∧ab z' 3=.slice 2 0 SP.length none∧ab z' 5=.ptr 4 0∧ab z' 6=.int .i64 0∧ab z' 2=.ptr 1 0)→
   aN (aM prog) (fun _=>[6,6]) (nV s) K 42 0 true (.loop b) ⟨z',MA s SP TS 0,false⟩=some (.exit 0,⟨F z',MA s SP TS SP.length,decide (0<SP.length)⟩)∧ab (F z') 5=.ptr 4 0∧ab (F z') 2=.ptr 1 0:=by
 refine tM (L:=[6,6]) rfl false _ (fun z'=>ab z' 1=.ptr 0 0∧ab z' 3=.slice 2 0 SP.length none∧ab z' 5=.ptr 4 0∧ab z' 6=.int .i64 0∧ab z' 2=.ptr 1 0) (fun _ AC =>ab AC 5=.ptr 4 0∧ab AC 2=.ptr 1 0) ?_;rintro z' ⟨h1,h3,h5,h6,h2⟩;obtain⟨ops,FS⟩:∃ops,aG f27=[ops]:=⟨_,rfl⟩
 have IR:=dw FS (l:=[0,1,0,0,0,24,56,120,248,0,0,1536,3584,7680,15872,32760,65532,131068,262143,524287,1048575]) (by kernel_rfl);have k17:qf [0,1,0,0,0,24,56,120,248,0,0,1536,3584,7680,15872,32760,65532,131068,262143,524287,1048575] 21 17=true:=by decide
 have k18:qf [0,1,0,0,0,24,56,120,248,0,0,1536,3584,7680,15872,32760,65532,131068,262143,524287,1048575] 21 18=true:=by decide
 have k20:qf [0,1,0,0,0,24,56,120,248,0,0,1536,3584,7680,15872,32760,65532,131068,262143,524287,1048575] 21 20=true:=by decide
 have j18:aX [0,1,0,0,0,24,56,120,248,0,0,1536,3584,7680,15872,32760,65532,131068,262143,524287,1048575] 18=true:=by decide
 have j20:aX [0,1,0,0,0,24,56,120,248,0,0,1536,3584,7680,15872,32760,65532,131068,262143,524287,1048575] 20=true:=by decide
 simp[aG,bF,f27] at FS;simp[ai,aK,f27] at hb;have YF:aD [6,6] (aa b) z' ((6,.int .i64 ((0:Nat):Int))::z')=aD [6,6] (aa b) z' z':=by simp[aD,h6]
 rw[←YF];refine cV (α:=Nat) (fun n=>⟨aD [6,6] (aa b) z' ((6,.int .i64 (n:Int))::z'),MA s SP TS n,decide (0<n)⟩) (fun n=>SP.length-n) (fun n=>n≤SP.length) (.exit 0) _ _ _ (by simp) ?_ K 0 (by omega) (by omega);intro n Za;clear YF;subst hb;subst FS;by_cases A':n<SP.length
 ·left
  obtain⟨p,hp⟩:∃q,SP[n]? =some q:=⟨SP[n],List.getElem?_eq_getElem A'⟩
  obtain⟨q1,q2,q3⟩:=Xx hp;obtain⟨x0,x1,y0,y1⟩:=hsm p (List.mem_of_getElem? hp);obtain⟨px,py⟩:=p;simp only at q1 q2 x0 x1 y0 y1;have ht:(SP.take (n+1)).map (fun p=>s.pt 1 p.1 p.2)=(SP.take n).map (fun p=>s.pt 1 p.1 p.2)++[s.pt 1 px py]:=by rw[List.take_add_one,hp];simp
  have v1:IntKind.i8.wrap px=px:=Tj (by omega) (by omega);have v2:IntKind.i8.wrap py=py:=Tj (by omega) (by omega);have c1:0≤px:=by omega
  have c2:px≤6:=by omega
  have c3:0≤py:=by omega
  have c4:py≤6:=by omega
  have w1:IntKind.i64.wrap ((n:Int)+1)=((n+1:Nat):Int):=by rw[al (by omega) (by omega)];omega
  obtain⟨P,hP⟩:∃P,P=(SP.take n).map (fun p=>s.pt 1 p.1 p.2):=⟨_,rfl⟩
  have hPl:P.length=n:=by rw[hP,List.length_map,List.length_take];omega
  obtain⟨z,hz⟩:∃z,z=s.pt 1 px py:=⟨_,rfl⟩
  rw[←hP,←hz] at ht;have hpc:pC (P++[z])=pC P++[.str (aw z.1),.str (aw z.2)]:=by rw[Bj];rfl
  have hpl:=vm P;rw[hPl] at hpl;obtain⟨m,hm⟩:∃m,m=n+1:=⟨_,rfl⟩
  refine⟨m,?_⟩;by_cases YF:n=0
  ·subst YF
   have YY:m=1:=by omega
   subst YY;have hP0:P=[]:=List.eq_nil_of_length_eq_zero hPl;rw[hP0] at ht hpc;simp at ht hpc;have w0:IntKind.i64.wrap 1=1:=rfl;simp[MA,WW,h1,h3,h5,A',q1,q2,v1,v2,c1,c2,c3,c4,w0,nV,←hz,pA,-aE,jo IR,j9,qv,xw,bW,k17,k18,k20,j18,j20,ht,hpc,Ms,eO,R9,iS,WZ,cM,Nat.testBit];omega
  ·have XQ:0<n:=by omega
   rw[←hm] at w1 ht;have hmp:0<m:=by omega
   have hd1:decide (0<n)=true:=by simpa using XQ
   rw[A6 XQ,A6 hmp,hd1,←hP,ht,hpc];clear hP ht hpc;have g1:m*32≤140737488355328:=by omega
   have g2:n≤140737488355327:=by omega
   have g5:(MA s SP TS 0).length=5:=rfl;have g4:m≤140737488355328:=by omega
   have g3:(pC P).take (n*2)=pC P:=List.take_of_length_le (by omega);simp[h1,h3,h5,A',q1,q2,v1,v2,c1,c2,c3,c4,w1,nV,←hz,pA,-aE,jo IR,j9,qv,xw,bW,k17,k18,k20,j18,j20,hpl,hmp,←hm,g1,g4,g3,g5,Bk,Ms,eO,dV,R9,iS,gA,cM,Nat.testBit];omega
 ·right
  have e:n=SP.length:=by omega
  subst e;simp[h3,h5,h2]
theorem P5(k:Nat):0<(dx k).length:=by unfold dx;split<;>simp[sqI]
theorem DE(k:Nat):(dx k).length≤6:=by unfold dx;split<;>simp[sqI]
theorem aeE.afM(s:aeE):s.P.length=(dx (s.kind%8)).length:=by simp[aeE.P]
theorem F8(s:aeE)(hs:s.Ok):kF prog 27 [s.av] [] (.agg [.slice 0 0 s.P.length none,.slice 1 0 s.T.length none]) [.cells true 2 (pC s.P),.cells true 3 (tC s.T)]:=by
 have hG:aT prog 27=some f27:=by kernel_rfl
 have XQ:=P5 (s.kind%8);have X7:=DE (s.kind%8);obtain⟨b,hb⟩:∃b,ai f27=[b]:=⟨_,rfl⟩
 obtain⟨F,hF⟩:=Ac (K:=10) s (dx (s.kind%8)) (bD (s.kind%8)) (KJ _ (Nat.mod_lt _ (by omega))) (by omega) (by omega) hb;simp[ai,aK,f27] at hb;subst hb;have hd:decide (0<(dx (s.kind%8)).length)=true:=by simpa using XQ
 rw[A6 XQ,hd,List.take_length] at hF;have I':=fun z' h=>(hF z' h).1
 have hG1:=fun z' h=>(hF z' h).2.1
 have hG2:=fun z' h=>(hF z' h).2.2
 clear hF;have Yt:MA s (dx (s.kind%8)) (bD (s.kind%8)) 0=[.cells true 0 [.int .u8 s.kind,.int .i8 s.sx,.int .i8 s.sy,.bool s.half],.cells true 0 [.kK,.kK],.cells true 2 (iP (dx (s.kind%8))),.cells true 3 (tC (bD (s.kind%8))),.cells true 0 [.kK,.slice 3 0 (bD (s.kind%8)).length none]]:=rfl;rw[Yt] at I';rw[aeE.afM];unfold aeE.P aeE.T;obtain⟨SP,hSP⟩:∃SP,SP=dx (s.kind%8):=⟨_,rfl⟩
 obtain⟨ST,hST⟩:∃SP,SP=bD (s.kind%8):=⟨_,rfl⟩
 rw[←hSP,←hST] at I';rw[←hSP] at hG1 hG2;rw[←hSP,←hST];have h:ad (aM prog) (fun _=>[6,6]) (aT prog) (nV s) 10 27 [s.av] []=some ⟨.agg [.slice 0 0 SP.length none,.slice 1 0 ST.length none],some [],[.cells true 2 (pC (SP.map fun p=>s.pt 1 p.1 p.2)),.cells true 3 (tC ST)]⟩:=by simp[ad,hG,f27,aeE.av,I',hG1,hG2,nV,←hSP,←hST,eO,dV,iS,gA,cM,aR];exact⟨rfl,rfl⟩
 have:=(ak ae (aq _) (LP s hs) (au _) h).1;simpa [HS.mem] using this
theorem K7(s:aeE)(hs:s.Ok)(M:Mem):kF prog 27 [s.av] M (.agg [.slice M.length 0 s.P.length none,.slice (M.length+1) 0 s.T.length none]) (M++[.cells true 2 (pC s.P),.cells true 3 (tC s.T)]):=by have:=kF.frame (M:=M) (new:=[.cells true 2 (pC s.P),.cells true 3 (tC s.T)]) (args:=[s.av]) [] (m:=[]) rfl (by simp) (by rfl) (fun i s hs=>by simp at hs) rfl (F8 s hs);simpa [AV.ren,AV.aeM,aF,aeD.ren,gA,iS,aeE.av] using this
def ij(PS:List P2) (TS:List Tr) (cyc:List Nat):Bool:=
 decide PS.Nodup&&(PS.all fun p=>decide (p.1.num.natAbs<100)&&decide (p.1.den<10)&&decide (p.2.num.natAbs<100)&&decide (p.2.den<10))&&
  (TS.all fun t=>match PS[t.1]?,PS[t.2.1]?,PS[t.2.2]? with
   |some p,some q,some r=>decide (0<mP (cT p q r))
   |_,_,_=>false)&&
  ((List.range cyc.length).all fun i=>decide (0≤mP (cT (Bm PS cyc i) (Bm PS cyc (i+1)) (Bm PS cyc (i+2)))))&&decide (kY PS cyc cyc.length=1)
def UW(k:Nat) (u v:Int) (h:Bool):List P2:=
 (dx k).map fun p=>(mkRat (p.1+u*(1:Nat)) ((if h then 2 else 1)*1),mkRat (p.2+v*(1:Nat)) ((if h then 2 else 1)*1))
theorem Wg:((List.range 15).all fun a=>(List.range 15).all fun b=>[false,true].all fun h=>ij (UW 0 ((a:Int)-7) ((b:Int)-7) h) (bD 0) (lh 0))=true:=by kernel_rfl
theorem Wh:((List.range 15).all fun a=>(List.range 15).all fun b=>[false,true].all fun h=>ij (UW 1 ((a:Int)-7) ((b:Int)-7) h) (bD 1) (lh 1))=true:=by kernel_rfl
theorem Wi:((List.range 15).all fun a=>(List.range 15).all fun b=>[false,true].all fun h=>ij (UW 2 ((a:Int)-7) ((b:Int)-7) h) (bD 2) (lh 2))=true:=by kernel_rfl
theorem Wj:((List.range 15).all fun a=>(List.range 15).all fun b=>[false,true].all fun h=>ij (UW 3 ((a:Int)-7) ((b:Int)-7) h) (bD 3) (lh 3))=true:=by kernel_rfl
theorem Wk:((List.range 15).all fun a=>(List.range 15).all fun b=>[false,true].all fun h=>ij (UW 4 ((a:Int)-7) ((b:Int)-7) h) (bD 4) (lh 4))=true:=by kernel_rfl
theorem Wl:((List.range 15).all fun a=>(List.range 15).all fun b=>[false,true].all fun h=>ij (UW 5 ((a:Int)-7) ((b:Int)-7) h) (bD 5) (lh 5))=true:=by kernel_rfl
theorem Wm:((List.range 15).all fun a=>(List.range 15).all fun b=>[false,true].all fun h=>ij (UW 6 ((a:Int)-7) ((b:Int)-7) h) (bD 6) (lh 6))=true:=by kernel_rfl
theorem Wn:((List.range 15).all fun a=>(List.range 15).all fun b=>[false,true].all fun h=>ij (UW 7 ((a:Int)-7) ((b:Int)-7) h) (bD 7) (lh 7))=true:=by kernel_rfl
theorem P6(k:Nat)(hk:k<8):((List.range 15).all fun a=>(List.range 15).all fun b=>[false,true].all fun h=>ij (UW k ((a:Int)-7) ((b:Int)-7) h) (bD k) (lh k))=true:=by
 have hjj:k=0∨k=1∨k=2∨k=3∨k=4∨k=5∨k=6∨k=7:=by omega
 rcases hjj with rfl | rfl | rfl | rfl | rfl | rfl | rfl | rfl
 ·exact Wg
 ·exact Wh
 ·exact Wi
 ·exact Wj
 ·exact Wk
 ·exact Wl
 ·exact Wm
 ·exact Wn
theorem NN(s:aeE):ij s.P s.T (lh (s.kind%8))=true:=by
 have hk:s.kind%8<8:=Nat.mod_lt _ (by omega);have h:=P6 (s.kind%8) hk;obtain⟨u0,u1⟩:=CA s.sx;obtain⟨v0,v1⟩:=CA s.sy;have h1:=List.all_eq_true.1 h (s.sx.tmod 8+7).toNat (List.mem_range.2 (by omega));have h2:=List.all_eq_true.1 h1 (s.sy.tmod 8+7).toNat (List.mem_range.2 (by omega));have h3:=List.all_eq_true.1 h2 s.half (by cases s.half<;>simp);have e1:(((s.sx.tmod 8+7).toNat:Nat):Int)-7=s.sx.tmod 8:=by omega
 have e2:(((s.sy.tmod 8+7).toNat:Nat):Int)-7=s.sy.tmod 8:=by omega
 rw[e1,e2] at h3;exact h3
def P4:List Tr→Int→List Sd
 | [],_=>[]
 |t::l,i=>((t.1,t.2.1),i)::((t.2.1,t.2.2),i)::((t.2.2,t.1),i)::P4 l (i+1)
theorem OY:kF prog 160 [.agg [.slice 0 0 (dx 0).length none,.slice 1 0 (bD 0).length none]] [.kO,.cells false 3 (tC (bD 0))] (.tuple [.map 2,.bool true]) ([.kO,.cells false 3 (tC (bD 0))]++[.map ((P4 (bD 0) 0).map sdE)]):=
 du (lv:=aa) (K:=60) (n:=10) ae (aq _) (au _) (ah _) (by as_aux_lemma=>kernel_rfl)
theorem OZ:kF prog 160 [.agg [.slice 0 0 (dx 1).length none,.slice 1 0 (bD 1).length none]] [.kO,.cells false 3 (tC (bD 1))] (.tuple [.map 2,.bool true]) ([.kO,.cells false 3 (tC (bD 1))]++[.map ((P4 (bD 1) 0).map sdE)]):=
 du (lv:=aa) (K:=60) (n:=10) ae (aq _) (au _) (ah _) (by as_aux_lemma=>kernel_rfl)
theorem O0:kF prog 160 [.agg [.slice 0 0 (dx 2).length none,.slice 1 0 (bD 2).length none]] [.kO,.cells false 3 (tC (bD 2))] (.tuple [.map 2,.bool true]) ([.kO,.cells false 3 (tC (bD 2))]++[.map ((P4 (bD 2) 0).map sdE)]):=
 du (lv:=aa) (K:=60) (n:=10) ae (aq _) (au _) (ah _) (by as_aux_lemma=>kernel_rfl)
theorem O2:kF prog 160 [.agg [.slice 0 0 (dx 3).length none,.slice 1 0 (bD 3).length none]] [.kO,.cells false 3 (tC (bD 3))] (.tuple [.map 2,.bool true]) ([.kO,.cells false 3 (tC (bD 3))]++[.map ((P4 (bD 3) 0).map sdE)]):=
 du (lv:=aa) (K:=60) (n:=10) ae (aq _) (au _) (ah _) (by as_aux_lemma=>kernel_rfl)
theorem O3:kF prog 160 [.agg [.slice 0 0 (dx 4).length none,.slice 1 0 (bD 4).length none]] [.kO,.cells false 3 (tC (bD 4))] (.tuple [.map 2,.bool true]) ([.kO,.cells false 3 (tC (bD 4))]++[.map ((P4 (bD 4) 0).map sdE)]):=
 du (lv:=aa) (K:=60) (n:=10) ae (aq _) (au _) (ah _) (by as_aux_lemma=>kernel_rfl)
theorem O4:kF prog 160 [.agg [.slice 0 0 (dx 5).length none,.slice 1 0 (bD 5).length none]] [.kO,.cells false 3 (tC (bD 5))] (.tuple [.map 2,.bool true]) ([.kO,.cells false 3 (tC (bD 5))]++[.map ((P4 (bD 5) 0).map sdE)]):=
 du (lv:=aa) (K:=60) (n:=10) ae (aq _) (au _) (ah _) (by as_aux_lemma=>kernel_rfl)
theorem O5:kF prog 160 [.agg [.slice 0 0 (dx 6).length none,.slice 1 0 (bD 6).length none]] [.kO,.cells false 3 (tC (bD 6))] (.tuple [.map 2,.bool true]) ([.kO,.cells false 3 (tC (bD 6))]++[.map ((P4 (bD 6) 0).map sdE)]):=
 du (lv:=aa) (K:=60) (n:=10) ae (aq _) (au _) (ah _) (by as_aux_lemma=>kernel_rfl)
theorem O6:kF prog 160 [.agg [.slice 0 0 (dx 7).length none,.slice 1 0 (bD 7).length none]] [.kO,.cells false 3 (tC (bD 7))] (.tuple [.map 2,.bool true]) ([.kO,.cells false 3 (tC (bD 7))]++[.map ((P4 (bD 7) 0).map sdE)]):=
 du (lv:=aa) (K:=60) (n:=10) ae (aq _) (au _) (ah _) (by as_aux_lemma=>kernel_rfl)
theorem EJ(k:Nat)(hk:k<8):kF prog 160 [.agg [.slice 0 0 (dx k).length none,.slice 1 0 (bD k).length none]] [.kO,.cells false 3 (tC (bD k))] (.tuple [.map 2,.bool true]) ([.kO,.cells false 3 (tC (bD k))]++[.map ((P4 (bD k) 0).map sdE)]):=by
 have hjj:k=0∨k=1∨k=2∨k=3∨k=4∨k=5∨k=6∨k=7:=by omega
 rcases hjj with rfl | rfl | rfl | rfl | rfl | rfl | rfl | rfl
 ·exact OY
 ·exact OZ
 ·exact O0
 ·exact O2
 ·exact O3
 ·exact O4
 ·exact O5
 ·exact O6
theorem MU(k:Nat)(hk:k<8):tS (P4 (bD k) 0)=true∧AJ (rK (P4 (bD k) 0))=some ((lh k).map fun(n:Nat)=>(n:Int))∧(KQ (bD k)).length=(dx k).length∧lh k≠[]∧(∀c∈lh k,c<(dx k).length)∧bD k≠[]∧(bD k).length≤4∧(lh k).length≤6:=by
 have hjj:k=0∨k=1∨k=2∨k=3∨k=4∨k=5∨k=6∨k=7:=by omega
 rcases hjj with rfl | rfl | rfl | rfl | rfl | rfl | rfl | rfl<;>decide
theorem yv(s:aeE):Whole s.P s.T (P4 s.T 0) (lh (s.kind%8)):=by
 have hk:s.kind%8<8:=Nat.mod_lt _ (by omega);have h:=NN s;obtain⟨f1,f2,f3,f4,f5,f6,f7,f8⟩:=MU (s.kind%8) hk;have F':=aeE.afM s;have X7:=DE (s.kind%8);unfold ij at h;simp only[Bool.and_eq_true,decide_eq_true_eq] at h;obtain⟨⟨⟨⟨h1,h2⟩,h3⟩,h4⟩,h5⟩:=h;refine⟨fun p hp=>?_,h1,?_,f1,f2,by rw[F'];exact f3,⟨f4,by rw[F'];exact f5,fun i hi=>?_,h5⟩,fun t ht=>?_,by omega,f6,by show(bD _).length≤800;omega,by omega⟩
 ·have:=List.all_eq_true.1 h2 p hp
  simp only[Bool.and_eq_true,decide_eq_true_eq] at this;obtain⟨⟨⟨a1,a2⟩,a3⟩,a4⟩:=this;have d1:dg 2 1 p.1:=⟨a1,a2⟩;have d2:dg 2 1 p.2:=⟨a3,a4⟩;exact⟨d1.mono (by omega) (by omega),d2.mono (by omega) (by omega)⟩
 ·unfold Al
  rw[F'];exact EJ (s.kind%8) hk
 ·have:=List.all_eq_true.1 h4 i (List.mem_range.2 hi)
  simpa using this
 ·have:=List.all_eq_true.1 h3 t ht
  unfold XE;split at this
  ·rename_i p q r e1 e2 e3
   exact⟨p,q,r,e1,e2,e3,by simpa using this⟩
  ·cases this
theorem D3(s:aeE):kF prog 59 [.agg [.slice 0 0 s.P.length none,.slice 1 0 s.T.length none]] [.cells false 2 (pC s.P),.cells false 3 (tC s.T)] (.int .i64 0) [.cells false 2 (pC s.P),.cells false 3 (tC s.T)]:=
 D2 (yv s)
end Go.Proofs
