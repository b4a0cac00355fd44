/- See P53. -/
import Derived.Test.YtmhkeaphiadacaaGreatDoorP23
import Derived.Test.YtmhkeaphiadacaaGreatDoorP24
import Derived.Test.YtmhkeaphiadacaaGreatDoorP17
set_option linter.all false
set_option maxRecDepth 100000
set_option maxHeartbeats 40000000
namespace Go.Proofs
open Go.Eng
open Tryz
def uE(a:Nat):AV×AV:=(.int .i64 (a:Int),.bool true)
def Vb(L:List Nat) (a:Nat):List Nat:=if a∈L then L else L++[a]
def Wt(L:List Nat) (t:Tr):List Nat:=Vb (Vb (Vb L t.1) t.2.1) t.2.2
def zf(TS:List Tr):List Nat:=TS.foldl Wt []
theorem T4{α:Type}{l:List α}{i:Nat}{x:α}(h:l[i]? =some x):l.set i x=l:=by
 apply List.ext_getElem?;intro j;rw[List.getElem?_set];by_cases YE:i=j
 ·subst YE
  rw[if_pos rfl,if_pos (List.getElem?_eq_some_iff.1 h).1,h]
 ·rw[if_neg YE]
theorem vX(a:Nat):∀(L:List Nat) (i:Nat),(a∉L→jc (aC prog) 3 (.int .i64 (a:Int)) (L.map uE) i=some none)∧(a∈L→∃q,jc (aC prog) 3 (.int .i64 (a:Int)) (L.map uE) i=some (some (i+q,.bool true))∧L[q]? =some a)
 | [],i=>⟨fun _=>rfl,fun h=>by cases h⟩
 |b::L,i=>by
  have e:iI (aC prog) 20 3 (.int .i64 (a:Int)) (.int .i64 (b:Int))=some (decide ((a:Int)=(b:Int))):=by simp[iI]
  simp only[List.map_cons,jc,uE,e];have ih:=vX a L (i+1);by_cases h:a=b
  ·subst h
   simp only[decide_true];exact⟨fun h=>absurd (List.mem_cons_self ..) h,fun _=>⟨0,rfl,rfl⟩⟩
  ·have h' :¬((a:Int)=(b:Int)):=by omega
   simp only[h',decide_false];refine⟨fun hn=>ih.1 (fun h2=>hn (List.mem_cons_of_mem _ h2)),fun hm=>?_⟩;rcases List.mem_cons.1 hm with h2 | h2
   ·exact absurd h2 h
   ·obtain⟨q,q1,q2⟩:=ih.2 h2
    exact⟨q+1,by rw[q1,show i+1+q=i+(q+1) by omega],by simpa using q2⟩
theorem QA(M:Mem)(b:Nat)(L:List Nat)(a:Nat)(hM:M[b]? =some (.map (L.map uE))):dq (aC prog) M 202 (.map b) (.int .i64 (a:Int)) (.bool true)=some (M.set b (.map ((Vb L a).map uE))):=by
 have hk:jf (aC prog) 20 3 (.int .i64 (a:Int))=true:=by simp[jf]
 unfold dq;rw[JQ];simp only[hM,hk,if_true];by_cases h:a∈L
 ·obtain⟨q,q1,q2⟩:=(vX a L 0).2 h
  rw[q1];have:Vb L a=L:=if_pos h;rw[this,Nat.zero_add];simp only[AV.aa1,if_true];rw[show((.int .i64 (a:Int),.bool true):AV×AV)=uE a from rfl,T4 (l:=L.map uE) (i:=q) (x:=uE a) (by rw[List.getElem?_map,q2];rfl)]
 ·rw[(vX a L 0).1 h]
  have:Vb L a=L++[a]:=if_neg h;rw[this];simp[uE]
theorem Sb(n:Nat):∀L:List Nat,(L.map uE).flatMap (fun e=>e.1.refs n++e.2.refs n)=[]
 | []=>rfl
 |p::N=>by simp[uE,AV.refs,Sb n N]
variable{TS:List Tr}{n:Nat}
theorem Qn{t:Tr}(h:TS[n]? =some t):zf (TS.take (n+1))=Wt (zf (TS.take n)) t:=by rw[List.take_add_one,h];simp[zf]
def rJ(PS:List P2) (TS:List Tr) (D:List (AV×AV)) (L:List Nat):Mem:=[.cells false 2 (pC PS),.cells false 3 (tC TS),msB PS.length TS.length,.map D,.map (L.map uE)]
def uW(c:Code):List Nat:=if (ab c).contains 23 then [23] else [28]
variable{K:Nat}{b:Code}
theorem qA{O:aac}(PS:List P2)(TS:List Tr)(D:List (AV×AV))(WZ:TS.length≤1000000000)(hD:D.flatMap (fun e=>e.1.refs 5++e.2.refs 5)=[])(hK:TS.length<K+5){b2:Code}(hb:aj f77=[b,b2]):
  ∃F:Env→Bool→Env,∀y' d,(aa y' 5=.map 4∧aa y' 21=.slice 1 0 TS.length none∧aa y' 22=.int .i64 TS.length∧aa y' 23=.int .i64 0∧aa y' 1=.ptr 2 0∧aa y' 3=.map 3)→
   aQ (aC prog) uW O (K+5) 55 2 true (.loop b) ⟨y',rJ PS TS D [],d⟩=some (.exit 0,⟨F y' d,rJ PS TS D (zf TS),d⟩)∧aa (F y' d) 1=.ptr 2 0∧aa (F y' d) 3=.map 3∧aa (F y' d) 5=.map 4:=by
 refine bf (L:=[23]) (by simp[aj,aD,f77] at hb;rw[←hb.1];rfl) (fun y'=>aa y' 5=.map 4∧aa y' 21=.slice 1 0 TS.length none∧aa y' 22=.int .i64 TS.length∧aa y' 23=.int .i64 0∧aa y' 1=.ptr 2 0∧aa y' 3=.map 3) (fun _ z' =>aa z' 1=.ptr 2 0∧aa z' 3=.map 3∧aa z' 5=.map 4) ?_;rintro y' d ⟨h5,h21,h22,h23,h1,h3⟩;simp[aj,aD,f77] at hb;obtain⟨hb,-⟩:=hb;have UV:az [23] (ab b) y' ((23,.int .i64 ((0:Nat):Int))::y')=az [23] (ab b) y' y':=by simp[az,h23]
 rw[←UV];refine bA (α:=Nat) (fun n=>⟨az [23] (ab b) y' ((23,.int .i64 (n:Int))::y'),rJ PS TS D (zf (TS.take n)),d⟩) (fun n=>TS.length-n) (fun n=>n≤TS.length) (.exit 0) _ d _ (by simp) ?_ (K+5) 0 (by omega) (by omega);intro n Xi;clear UV;subst hb;by_cases AC:n<TS.length
 ·left
  obtain⟨t,ht⟩:∃q,TS[n]? =some q:=⟨TS[n],List.getElem?_eq_getElem AC⟩
  obtain⟨k1,k2⟩:=U7 ht;have hU:=Qn ht;obtain⟨i1,i2,i3⟩:=t;simp only[Wt] at k1 hU;have w1:IntKind.i64.wrap ((n:Int)+1)=((n+1:Nat):Int):=by rw[ai (by omega) (by omega)];omega
  obtain⟨m,hm⟩:∃m,m=n+1:=⟨_,rfl⟩
  rw[←hm] at w1 hU;obtain⟨L,hL⟩:∃L,L=zf (TS.take n):=⟨_,rfl⟩
  rw[←hL] at hU;rw[←hL];have v1:IntKind.i64.wrap 1=1:=rfl;have v2:IntKind.i64.wrap 2=2:=rfl;have v3:IntKind.i64.wrap 3=3:=rfl;have v2' :IntKind.i64.wrap (1+1)=2:=rfl;have v3' :IntKind.i64.wrap (2+1)=3:=rfl;have u:∀(L' :List Nat) (a:Nat),dq (aC prog) [.cells false 2 (pC PS),.cells false 3 (tC TS),.cells true 0 [.slice 0 0 PS.length none,.slice 1 0 TS.length none],.map D,.map (L'.map uE),.cells true 0 [.int .i64 (i1:Int),.int .i64 (i2:Int),.int .i64 (i3:Int)]] 202 (.map 4) (.int .i64 (a:Int)) (.bool true)=
    some [.cells false 2 (pC PS),.cells false 3 (tC TS),.cells true 0 [.slice 0 0 PS.length none,.slice 1 0 TS.length none],.map D,.map ((Vb L' a).map uE),.cells true 0 [.int .i64 (i1:Int),.int .i64 (i2:Int),.int .i64 (i3:Int)]]:=fun L' a=>QA _ 4 L' a rfl
  refine⟨m,?_⟩;simp[rJ,h5,h21,h22,AC,k1,k2,aR,gl,v1,v2,v3,uW,u,hD,hU,msB,be,bM,Sb,w1];omega
 ·right
  have e:TS.take n=TS:=List.take_of_length_le (by omega);rw[e];have WD :¬(n:Int)<TS.length:=by omega
  simp[h22,h1,h3,h5,AC]
theorem Se(f:Nat→Option Nat)(sds:List Sd):(sds.map sdE).map (fun e=>(e.1.ren f,e.2.ren f))=sds.map sdE:=by rw[List.map_map];exact List.map_congr_left fun s _=>FP f s
theorem N7(f:Nat→Option Nat)(sds:List Sd):sds.map ((fun(e:AV×AV)=>(e.1.ren f,e.2.ren f))∘sdE)=sds.map sdE:=
 List.map_congr_left fun s _=>FP f s
def om(PS:List P2) (TS:List Tr) (sds:List Sd):Prop:=
 mB prog 106 [.agg [.slice 0 0 PS.length none,.slice 1 0 TS.length none]] [.qF,.cells false 3 (tC TS)] (.tuple [.map 2,.bool true]) ([.qF,.cells false 3 (tC TS)]++[.map (sds.map sdE)])
structure Tryz.Whole (PS:List P2) (TS:List Tr) (sds:List Sd) (cyc:List Nat):Prop where
 dg:∀p∈PS,pDg 2 p
 nodup:PS.Nodup
 ac3:om PS TS sds
 outer:oH sds=true
 cy:tW (pn sds)=some (cyc.map fun(n:Nat)=>(n:Int))
 used:(zf TS).length=PS.length
 once:RZ PS cyc
 tr:∀t∈TS,Ua PS t
 len:PS.length≤400
 ac4:TS≠[]
 acH:TS.length≤800
 adg:cyc.length≤1000000
open Classical in
noncomputable def zh(PS:List P2) (TS:List Tr) (sds:List Sd) (cyc:List Nat):aac:=fun c args M=>match c,args with
 |.fn 106,[.agg [.slice b 0 n none,.slice c 0 k none]]=>if n=PS.length∧k=TS.length∧b<M.length∧(∃o,M[c]? =some (.cells o 3 (tC TS))) then some ⟨.tuple [.map M.length,.bool true],none,[.map (sds.map sdE)]⟩ else none
 |.fn 107,[.agg [.slice b 0 _ none,.slice c 0 _ none],.map q]=>if b<M.length∧c<M.length∧wP M q=some (sds.map sdE) then some ⟨.tuple [.slice M.length 0 cyc.length none,.bool true],none,[.cells true 1 (cZ cyc)]⟩ else none
 |.fn 108,[.agg [.slice b 0 n none,.slice c 0 _ none],.slice q 0 l none]=>if n=PS.length∧l=cyc.length∧c<M.length∧(∃o,M[b]? =some (.cells o 2 (pC PS)))∧(∃o,M[q]? =some (.cells o 1 (cZ cyc))) then some ⟨.bool true,none,[]⟩ else none
 |_,_=>none
theorem AS:∀cyc:List Nat,AV.aag (cZ cyc)=true
 | []=>rfl
 |c::l=>by have:=AS l;simp only[cZ] at this;simp[cZ,AV.aag,AV.closed,this]
theorem Vu(cyc:List Nat):iZ (cyc.map fun(n:Nat)=>(n:Int))=cZ cyc:=by simp[iZ,cZ]
theorem bL{M:Mem}{b:Nat}{s:aae}(h:M[b]? =some s):b<M.length:=(List.getElem?_eq_some_iff.1 h).1
variable{PS:List P2}{cyc:List Nat}{sds:List Sd}
section
variable (hw:Whole PS TS sds cyc)
include hw
theorem MK:qS prog (zh PS TS sds cyc):=by
 refine cJ fun c args M r h=>?_
 unfold zh at h;split at h
 ·rename_i b n c k
  split at h
  ·rename_i hc
   obtain⟨rfl,rfl,hb,o,hM⟩:=hc;cases h;refine ak ?_;have:=mB.frame (M:=M) (new:=[.map (sds.map sdE)]) [b,c] (m:=[.qF,.cells false 3 (tC TS)]) rfl (by
    intro k hk;simp only[List.mem_cons,List.not_mem_nil,or_false] at hk;rcases hk with rfl | rfl
    ·exact hb
    ·exact bL hM) (by rfl) (fun i s hs=>by
    match i with
    |0=>simp at hs;subst hs;trivial
    |1=>simp at hs;subst hs;exact aV (dp TS) hM (List.take_length)
    |i+2=>simp at hs) rfl hw.ac3
   simpa [AV.aal,AV.ren,dr,aae.ren,Se,N7] using this
  ·cases h
 ·rename_i b n c k q
  split at h
  ·rename_i hc
   obtain⟨hb,WE,hM⟩:=hc;cases h;refine ak ?_;have:=pH M sds (cyc.map fun(n:Nat)=>(n:Int)) q b c n k hb WE hM hw.outer hw.cy;rw[Vu,List.length_map] at this;exact this
  ·cases h
 ·rename_i b n c k q l
  split at h
  ·rename_i hc
   obtain⟨rfl,rfl,WE,⟨o,hM⟩,⟨o2,XH⟩⟩:=hc;cases h;refine ak ?_;have:=mB.frame (M:=M) (new:=[]) (args:=[.agg [.slice 0 0 PS.length none,.slice 1 0 k none],.slice 2 0 cyc.length none]) [b,c,q] (m:=[.cells false 2 (pC PS),.qF,.cells false 1 (cZ cyc)]) rfl (by
    intro k hk;simp only[List.mem_cons,List.not_mem_nil,or_false] at hk;rcases hk with rfl | rfl | rfl
    ·exact bL hM
    ·exact WE
    ·exact bL XH) (by rfl) (fun i s hs=>by
    match i with
    |0=>simp at hs;subst hs;exact aV (bV PS) hM (List.take_length)
    |1=>simp at hs;subst hs;trivial
    |2=>simp at hs;subst hs;exact aV (AS cyc) XH (List.take_length)
    |i+3=>simp at hs) rfl (by simpa using Ls PS k cyc hw.dg hw.once hw.adg)
   simpa [AV.aal,AV.ren,dr] using this
  ·cases h
 ·cases h
theorem Gq:
  mB prog 77 [.agg [.slice 0 0 PS.length none,.slice 1 0 TS.length none]] [.cells false 2 (pC PS),.cells false 3 (tC TS)] (.bool true) [.cells false 2 (pC PS),.cells false 3 (tC TS)]:=by
 have hG:aO prog 77=some f77:=by kernel_rfl
 have hl:=hw.len;have WZ:=hw.acH;obtain⟨b,b2,hb⟩:∃b b2,aj f77=[b,b2]:=⟨_,_,rfl⟩
 obtain⟨K,hK⟩:∃K,K=TS.length:=⟨_,rfl⟩
 obtain⟨F,hF⟩:=qA (O:=zh PS TS sds cyc) (K:=K) PS TS (sds.map sdE) (by omega) (mg 5 sds) (by omega) hb;simp[aj,aD,f77] at hb;obtain⟨rfl,rfl⟩:=hb;have H1:=fun y' d h=>(hF y' d h).1
 have hG1:=fun y' d h=>(hF y' d h).2.1
 have hG3:=fun y' d h=>(hF y' d h).2.2.1
 have hG5:=fun y' d h=>(hF y' d h).2.2.2
 clear hF;have hu:=hw.used;refine aY (lv:=uW) (K:=(K+5)) (MK hw) ?_;simp only[rJ,List.map_nil,msB] at H1;simp[ad,hG,f77,H1,hG1,hG3,hG5,zh,wP,hu]
theorem My:qS prog (gE true PS TS):=by
 refine cJ fun c args M r h=>?_
 unfold gE at h;split at h
 ·rename_i b n c k
  split at h
  ·rename_i hc
   obtain⟨rfl,rfl,⟨o,hM⟩,⟨o2,XH⟩⟩:=hc;cases h;refine ak ?_;have:=mB.frame (M:=M) (new:=[]) (args:=[.agg [.slice 0 0 PS.length none,.slice 1 0 TS.length none]]) [b,c] (m:=[.cells false 2 (pC PS),.cells false 3 (tC TS)]) rfl (by
    intro k hk;simp only[List.mem_cons,List.not_mem_nil,or_false] at hk;rcases hk with rfl | rfl
    ·exact bL hM
    ·exact bL XH) (by rfl) (fun i s hs=>by
    match i with
    |0=>simp at hs;subst hs;exact aV (bV PS) hM (List.take_length)
    |1=>simp at hs;subst hs;exact aV (dp TS) XH (List.take_length)
    |i+2=>simp at hs) rfl (by simpa using Gq hw)
   simpa [AV.aal,AV.ren,dr] using this
  ·cases h
 ·split at h
  ·rename_i hc
   cases hc.1
  ·cases h
 ·exact iG tS h
theorem DY:
  mB prog 41 [.agg [.slice 0 0 PS.length none,.slice 1 0 TS.length none]] [.cells false 2 (pC PS),.cells false 3 (tC TS)] (.int .i64 0) [.cells false 2 (pC PS),.cells false 3 (tC TS)]:=by
 have hG:aO prog 41=some f41:=by kernel_rfl
 have hl:=hw.len;have WZ:=hw.acH;have hl0:0<TS.length:=by have:=hw.ac4;cases TS with | nil=>exact absurd rfl this | cons a l=>simp
 obtain⟨b1,b2,b3,b4,b5,hb⟩:∃b1 b2 b3 b4 b5,aj f41=[b1,b2,b3,b4,b5]:=⟨_,_,_,_,_,rfl⟩
 obtain⟨K,hK⟩:∃K,K=PS.length+TS.length:=⟨_,rfl⟩
 obtain⟨F,hF⟩:=mR (K:=K+5) true PS TS hw.dg hw.nodup (by omega) (by omega) hb;obtain⟨F2,P'⟩:=mT (K:=K) true PS TS (PS.map pmE) hw.dg hw.tr (by omega) (by omega) (vv 4 PS) (by omega) hb;simp[aj,aD,f41] at hb;obtain⟨rfl,rfl,rfl,rfl,rfl⟩:=hb;have H1:=fun y' d h=>(hF y' d h).1
 have Xv:=fun y' d h=>(P' y' d h).1
 have hG1:=fun y' d h=>(hF y' d h).2
 have hG3:=fun y' d h=>(P' y' d h).2
 clear hF P';have n1:¬(800:Int)<TS.length:=by omega
 have n2:¬(400:Int)<PS.length:=by omega
 have n3:¬800<TS.length:=by omega
 have n4:¬400<PS.length:=by omega
 have n5:¬TS.length=0:=by omega
 have n6:¬(TS.length:Int)=0:=by omega
 refine aY (lv:=kg) (K:=(K+5)) (My hw) ?_;simp only[msB] at H1 Xv;simp[ad,hG,f41,H1,Xv,hG1,hG3,gE,n1,n2,n5]
end
noncomputable def EV(f:FuncId) (args:List AV):Option AV:=
 match f,args with
 |91,[.int .i64 n,.int .i64 d]=>if (d=1∨d=2)∧ -7≤n∧n≤13 then some (.tuple [.str (aN (mkRat n d.toNat)),.int .i64 0]) else none
 |_,_=>none
theorem O4:qS prog (ar EV):=bZ fun f args v h mem=>by
 unfold EV at h;split at h
 ·rename_i n d
  split at h
  ·rename_i hc
   cases h;have:=Qx n d.toNat (by omega) hc.2.1 hc.2.2 mem;rw[Int.toNat_of_nonneg (by omega)] at this;exact this
  ·cases h
 ·cases h
theorem jX{n:Int}(h0: -1000000≤n)(h1:n≤1000000):IntKind.i64.wrap n=n:=by rw[ai (by omega) (by omega)]
theorem Gk(s:aaf)(hs:s.Ok)(x y:Int)(hx0:0≤x)(hx1:x≤6)(hy0:0≤y)(hy1:y≤6)(M:Mem):
  mB prog 62 [s.av,.agg [.int .i8 x,.int .i8 y],.int .i64 1] M (pA (s.pt 1 x y)) M:=by
 have hG:aO prog 62=some f62:=by kernel_rfl
 obtain⟨kd,sx,sy,hf⟩:=s;have q1:=Ql sx;have q2:=Ql sy;unfold aaf.av aaf.pt;simp only;obtain⟨u,hu⟩:∃u,u=sx.tmod 8:=⟨_,rfl⟩
 obtain⟨v,hv⟩:∃u,u=sy.tmod 8:=⟨_,rfl⟩
 rw[←hu] at q1 ⊢;rw[←hv] at q2 ⊢;refine aB O4 (lv:=fun _=>[]) (K:=1) rfl rfl ?_ M;have wx:IntKind.i64.wrap x=x:=jX (by omega) (by omega);have wy:IntKind.i64.wrap y=y:=jX (by omega) (by omega);have wu:IntKind.i64.wrap u=u:=jX (by omega) (by omega);have wv:IntKind.i64.wrap v=v:=jX (by omega) (by omega);have a1:IntKind.i64.wrap (x+u)=x+u:=jX (by omega) (by omega);have a2:IntKind.i64.wrap (y+v)=y+v:=jX (by omega) (by omega);have b1:IntKind.i64.wrap 1=1:=rfl;have b2:IntKind.i64.wrap 2=2:=rfl;have f1: -7≤x+u:=by omega
 have g1:x+u≤13:=by omega
 have f2: -7≤y+v:=by omega
 have g2:y+v≤13:=by omega
 cases hf<;>simp[ad,hG,f62,ar,EV,←hu,←hv,wx,wy,wu,wv,a1,a2,b1,b2,f1,f2,g1,g2,bO,aL,pA]
theorem DW(k:Nat)(hk:k<256):mB prog 61 [.int .u8 (k:Int)] [] (.tuple [.slice 0 0 (cD (k%8)).length none,.slice 1 0 (aI (k%8)).length none]) [.cells true 2 (iP (cD (k%8))),.cells true 3 (tC (aI (k%8)))]:=by
 have hG:aO prog 61=some f61:=by kernel_rfl
 have ht:(k:Int).tmod 8=((k%8:Nat):Int):=rfl;have AC:k%8<8:=Nat.mod_lt _ (by omega);obtain⟨j,hj⟩:∃j,j=k%8:=⟨_,rfl⟩
 rw[←hj] at ht AC ⊢;have h:ad (aC prog) (fun _=>[]) (aO prog) bt 1 61 [.int .u8 (k:Int)] []=some ⟨.tuple [.slice 0 0 (cD j).length none,.slice 1 0 (aI j).length none],none,[.cells true 2 (iP (cD j)),.cells true 3 (tC (aI j))]⟩:=by
  have ZW:j=0∨j=1∨j=2∨j=3∨j=4∨j=5∨j=6∨j=7:=by omega
  clear AC hj;rcases ZW with rfl | rfl | rfl | rfl | rfl | rfl | rfl | rfl<;>simp[ad,hG,f61,ht,cD,aI,sqI,iP,tC,bO]<;>exact⟨rfl,rfl⟩
 have:=(au af (aw _) (ah _) (ax _) h).1;simpa [HS.mem] using this
theorem Gl(k:Nat)(hk:k<256)(M:Mem):mB prog 61 [.int .u8 (k:Int)] M (.tuple [.slice M.length 0 (cD (k%8)).length none,.slice (M.length+1) 0 (aI (k%8)).length none]) (M++[.cells true 2 (iP (cD (k%8))),.cells true 3 (tC (aI (k%8)))]):=by have:=mB.frame (M:=M) (new:=[.cells true 2 (iP (cD (k%8))),.cells true 3 (tC (aI (k%8)))]) (args:=[.int .u8 (k:Int)]) [] (m:=[]) rfl (by simp) (by rfl) (fun i s hs=>by simp at hs) rfl (DW k hk);simpa [AV.ren,AV.aal,dr,aae.ren,RD,iQ] using this
noncomputable def oh(s:aaf):aac:=fun c args M=>match c,args with
 |.fn 61,[.int .u8 k]=>if k=(s.kind:Int) then some ⟨.tuple [.slice M.length 0 (cD (s.kind%8)).length none,.slice (M.length+1) 0 (aI (s.kind%8)).length none],none,[.cells true 2 (iP (cD (s.kind%8))),.cells true 3 (tC (aI (s.kind%8)))]⟩ else none
 |.fn 62,[.agg [.int .u8 k,.int .i8 sx,.int .i8 sy,.bool h],.agg [.int .i8 x,.int .i8 y],.int .i64 n]=>if k=(s.kind:Int)∧sx=s.sx∧sy=s.sy∧h=s.half∧0≤x∧x≤6∧0≤y∧y≤6∧n=1 then some ⟨pA (s.pt 1 x y),none,[]⟩ else none
 |_,_=>none
theorem Mw(s:aaf)(hs:s.Ok):qS prog (oh s):=by
 refine cJ fun c args M r h=>?_
 unfold oh at h;split at h
 ·split at h
  ·rename_i hc
   subst hc;cases h;exact ak (Gl s.kind hs.kind M)
  ·cases h
 ·split at h
  ·rename_i hc
   obtain⟨rfl,rfl,rfl,rfl,h1,h2,h3,h4,rfl⟩:=hc;cases h;refine ak ?_;rw[List.append_nil];exact Gk s hs _ _ h1 h2 h3 h4 M
  ·cases h
 ·cases h
def Sl(L:List (Int×Int)):Prop:=∀p∈L,0≤p.1∧p.1≤6∧0≤p.2∧p.2≤6
theorem KZ(k:Nat)(hk:k<8):Sl (cD k):=by
 have ZW:k=0∨k=1∨k=2∨k=3∨k=4∨k=5∨k=6∨k=7:=by omega
 rcases ZW with rfl | rfl | rfl | rfl | rfl | rfl | rfl | rfl<;>(unfold Sl;decide)
def VJ(n:Nat):AV:=match n with
 |0=>.kO
 |n+1=>.slice 5 0 (n+1) none
def M4(s:aaf) (SP:List (Int×Int)) (TS:List Tr) (n:Nat):Mem:=
 [.cells true 0 [.int .u8 s.kind,.int .i8 s.sx,.int .i8 s.sy,.bool s.half],.cells true 0 [.kO,.kO],.cells true 2 (iP SP),.cells true 3 (tC TS),.cells true 0 [VJ n,.slice 3 0 TS.length none]]++
  (match n with
  |0=>[]
  |n+1=>[.cells true 2 (pC ((SP.take (n+1)).map fun p=>s.pt 1 p.1 p.2))])
theorem Bd{s:aaf}{SP:List (Int×Int)}(h:0<n):M4 s SP TS n=
  [.cells true 0 [.int .u8 s.kind,.int .i8 s.sx,.int .i8 s.sy,.bool s.half],.cells true 0 [.kO,.kO],.cells true 2 (iP SP),.cells true 3 (tC TS),.cells true 0 [.slice 5 0 n none,.slice 3 0 TS.length none],.cells true 2 (pC ((SP.take n).map fun p=>s.pt 1 p.1 p.2))]:=by
 cases n with
 |zero=>omega
 |succ n=>rfl
theorem Au(s:aaf)(SP:List (Int×Int))(TS:List Tr)(YU:Sl SP)(hl:SP.length≤1000000)(hK:SP.length<K)(hb:aj f33=[b]):
  ∃F:Env→Env,∀y',(aa y' 1=.ptr 0 0∧aa y' 3=.slice 2 0 SP.length none∧aa y' 5=.ptr 4 0∧aa y' 6=.int .i64 0∧aa y' 2=.ptr 1 0)→
   aQ (aC prog) (fun _=>[6,6]) (oh s) K 42 0 true (.loop b) ⟨y',M4 s SP TS 0,false⟩=some (.exit 0,⟨F y',M4 s SP TS SP.length,decide (0<SP.length)⟩)∧aa (F y') 5=.ptr 4 0∧aa (F y') 2=.ptr 1 0:=by
 refine tZ (L:=[6,6]) rfl false _ (fun y'=>aa y' 1=.ptr 0 0∧aa y' 3=.slice 2 0 SP.length none∧aa y' 5=.ptr 4 0∧aa y' 6=.int .i64 0∧aa y' 2=.ptr 1 0) (fun _ z' =>aa z' 5=.ptr 4 0∧aa z' 2=.ptr 1 0) ?_;rintro y' ⟨h1,h3,h5,h6,h2⟩;obtain⟨ops,F'⟩:∃ops,aP f33=[ops]:=⟨_,rfl⟩
 have PP:=ie F' (l:=[0,1,0,0,0,24,56,120,248,0,0,1536,3584,7680,15872,32760,65532,131068,262143,524287,1048575]) (by kernel_rfl);have k17:qD [0,1,0,0,0,24,56,120,248,0,0,1536,3584,7680,15872,32760,65532,131068,262143,524287,1048575] 21 17=true:=by decide
 have k18:qD [0,1,0,0,0,24,56,120,248,0,0,1536,3584,7680,15872,32760,65532,131068,262143,524287,1048575] 21 18=true:=by decide
 have k20:qD [0,1,0,0,0,24,56,120,248,0,0,1536,3584,7680,15872,32760,65532,131068,262143,524287,1048575] 21 20=true:=by decide
 have j18:ba [0,1,0,0,0,24,56,120,248,0,0,1536,3584,7680,15872,32760,65532,131068,262143,524287,1048575] 18=true:=by decide
 have j20:ba [0,1,0,0,0,24,56,120,248,0,0,1536,3584,7680,15872,32760,65532,131068,262143,524287,1048575] 20=true:=by decide
 simp[aP,bQ,f33] at F';simp[aj,aD,f33] at hb;have UV:az [6,6] (ab b) y' ((6,.int .i64 ((0:Nat):Int))::y')=az [6,6] (ab b) y' y':=by simp[az,h6]
 rw[←UV];refine bA (α:=Nat) (fun n=>⟨az [6,6] (ab b) y' ((6,.int .i64 (n:Int))::y'),M4 s SP TS n,decide (0<n)⟩) (fun n=>SP.length-n) (fun n=>n≤SP.length) (.exit 0) _ _ _ (by simp) ?_ K 0 (by omega) (by omega);intro n Xi;clear UV;subst hb;subst F';by_cases AC:n<SP.length
 ·left
  obtain⟨p,hp⟩:∃q,SP[n]? =some q:=⟨SP[n],List.getElem?_eq_getElem AC⟩
  obtain⟨q1,q2,q3⟩:=Wf hp;obtain⟨x0,x1,y0,y1⟩:=YU p (List.mem_of_getElem? hp);obtain⟨px,py⟩:=p;simp only at q1 q2 x0 x1 y0 y1;have ht:(SP.take (n+1)).map (fun p=>s.pt 1 p.1 p.2)=(SP.take n).map (fun p=>s.pt 1 p.1 p.2)++[s.pt 1 px py]:=by rw[List.take_add_one,hp];simp
  have v1:IntKind.i8.wrap px=px:=Sr (by omega) (by omega);have v2:IntKind.i8.wrap py=py:=Sr (by omega) (by omega);have c1:0≤px:=by omega
  have c2:px≤6:=by omega
  have c3:0≤py:=by omega
  have c4:py≤6:=by omega
  have w1:IntKind.i64.wrap ((n:Int)+1)=((n+1:Nat):Int):=by rw[ai (by omega) (by omega)];omega
  obtain⟨P,hP⟩:∃P,P=(SP.take n).map (fun p=>s.pt 1 p.1 p.2):=⟨_,rfl⟩
  have hPl:P.length=n:=by rw[hP,List.length_map,List.length_take];omega
  obtain⟨z,hz⟩:∃z,z=s.pt 1 px py:=⟨_,rfl⟩
  rw[←hP,←hz] at ht;have Yh:pC (P++[z])=pC P++[.str (aN z.1),.str (aN z.2)]:=by rw[gx];rfl
  have Xk:=gy P;rw[hPl] at Xk;obtain⟨m,hm⟩:∃m,m=n+1:=⟨_,rfl⟩
  refine⟨m,?_⟩;by_cases UV:n=0
  ·subst UV
   have Yn:m=1:=by omega
   subst Yn;have hP0:P=[]:=List.eq_nil_of_length_eq_zero hPl;rw[hP0] at ht Yh;simp at ht Yh;have w0:IntKind.i64.wrap 1=1:=rfl;simp[M4,VJ,h1,h3,h5,AC,q1,q2,v1,v2,c1,c2,c3,c4,w0,oh,←hz,pA,-ay,jj PP,jN,qR,xG,cj,k17,k18,k20,j18,j20,ht,Yh,MZ,bM,RD,iQ,VM,bO,Nat.testBit];omega
  ·have WC:0<n:=by omega
   rw[←hm] at w1 ht;have hmp:0<m:=by omega
   have hd1:decide (0<n)=true:=by simpa using WC
   rw[Bd WC,Bd hmp,hd1,←hP,ht,Yh];clear hP ht Yh;have g1:m*32≤140737488355328:=by omega
   have g2:n≤140737488355327:=by omega
   have g5:(M4 s SP TS 0).length=5:=rfl;have g4:m≤140737488355328:=by omega
   have g3:(pC P).take (n*2)=pC P:=List.take_of_length_le (by omega);simp[h1,h3,h5,AC,q1,q2,v1,v2,c1,c2,c3,c4,w1,oh,←hz,pA,-ay,jj PP,jN,qR,xG,cj,k17,k18,k20,j18,j20,Xk,hmp,←hm,g1,g4,g3,g5,oI,MZ,bM,be,RD,iQ,cz,bO,Nat.testBit];omega
 ·right
  have e:n=SP.length:=by omega
  subst e;simp[h3,h5,h2]
theorem Qf(k:Nat):0<(cD k).length:=by unfold cD;split<;>simp[sqI]
theorem DL(k:Nat):(cD k).length≤6:=by unfold cD;split<;>simp[sqI]
theorem aaf.abk(s:aaf):s.P.length=(cD (s.kind%8)).length:=by simp[aaf.P]
theorem Gi(s:aaf)(hs:s.Ok):mB prog 33 [s.av] [] (.agg [.slice 0 0 s.P.length none,.slice 1 0 s.T.length none]) [.cells true 2 (pC s.P),.cells true 3 (tC s.T)]:=by
 have hG:aO prog 33=some f33:=by kernel_rfl
 have WC:=Qf (s.kind%8);have Xr:=DL (s.kind%8);obtain⟨b,hb⟩:∃b,aj f33=[b]:=⟨_,rfl⟩
 obtain⟨F,hF⟩:=Au (K:=10) s (cD (s.kind%8)) (aI (s.kind%8)) (KZ _ (Nat.mod_lt _ (by omega))) (by omega) (by omega) hb;simp[aj,aD,f33] at hb;subst hb;have hd:decide (0<(cD (s.kind%8)).length)=true:=by simpa using WC
 rw[Bd WC,hd,List.take_length] at hF;have H1:=fun y' h=>(hF y' h).1
 have hG1:=fun y' h=>(hF y' h).2.1
 have hG2:=fun y' h=>(hF y' h).2.2
 clear hF;have Xe:M4 s (cD (s.kind%8)) (aI (s.kind%8)) 0=[.cells true 0 [.int .u8 s.kind,.int .i8 s.sx,.int .i8 s.sy,.bool s.half],.cells true 0 [.kO,.kO],.cells true 2 (iP (cD (s.kind%8))),.cells true 3 (tC (aI (s.kind%8))),.cells true 0 [.kO,.slice 3 0 (aI (s.kind%8)).length none]]:=rfl;rw[Xe] at H1;rw[aaf.abk];unfold aaf.P aaf.T;obtain⟨SP,hSP⟩:∃SP,SP=cD (s.kind%8):=⟨_,rfl⟩
 obtain⟨ST,hST⟩:∃SP,SP=aI (s.kind%8):=⟨_,rfl⟩
 rw[←hSP,←hST] at H1;rw[←hSP] at hG1 hG2;rw[←hSP,←hST];have h:ad (aC prog) (fun _=>[6,6]) (aO prog) (oh s) 10 33 [s.av] []=some ⟨.agg [.slice 0 0 SP.length none,.slice 1 0 ST.length none],some [],[.cells true 2 (pC (SP.map fun p=>s.pt 1 p.1 p.2)),.cells true 3 (tC ST)]⟩:=by simp[ad,hG,f33,aaf.av,H1,hG1,hG2,oh,←hSP,←hST,bM,be,iQ,cz,bO,aL];exact⟨rfl,rfl⟩
 have:=(au af (aw _) (Mw s hs) (ax _) h).1;simpa [HS.mem] using this
theorem Lp(s:aaf)(hs:s.Ok)(M:Mem):mB prog 33 [s.av] M (.agg [.slice M.length 0 s.P.length none,.slice (M.length+1) 0 s.T.length none]) (M++[.cells true 2 (pC s.P),.cells true 3 (tC s.T)]):=by have:=mB.frame (M:=M) (new:=[.cells true 2 (pC s.P),.cells true 3 (tC s.T)]) (args:=[s.av]) [] (m:=[]) rfl (by simp) (by rfl) (fun i s hs=>by simp at hs) rfl (Gi s hs);simpa [AV.ren,AV.aal,dr,aae.ren,cz,iQ,aaf.av] using this
def iM(PS:List P2) (TS:List Tr) (cyc:List Nat):Bool:=
 decide PS.Nodup&&(PS.all fun p=>decide (p.1.num.natAbs<100)&&decide (p.1.den<10)&&decide (p.2.num.natAbs<100)&&decide (p.2.den<10))&&
  (TS.all fun t=>match PS[t.1]?,PS[t.2.1]?,PS[t.2.2]? with
   |some p,some q,some r=>decide (0<nq (gr p q r))
   |_,_,_=>false)&&
  ((List.range cyc.length).all fun i=>decide (0≤nq (gr (q9 PS cyc i) (q9 PS cyc (i+1)) (q9 PS cyc (i+2)))))&&decide (kP PS cyc cyc.length=1)
def R9(k:Nat) (u v:Int) (h:Bool):List P2:=
 (cD k).map fun p=>(mkRat (p.1+u*(1:Nat)) ((if h then 2 else 1)*1),mkRat (p.2+v*(1:Nat)) ((if h then 2 else 1)*1))
theorem UW:((List.range 15).all fun a=>(List.range 15).all fun b=>[false,true].all fun h=>iM (R9 0 ((a:Int)-7) ((b:Int)-7) h) (aI 0) (kU 0))=true:=by kernel_rfl
theorem UX:((List.range 15).all fun a=>(List.range 15).all fun b=>[false,true].all fun h=>iM (R9 1 ((a:Int)-7) ((b:Int)-7) h) (aI 1) (kU 1))=true:=by kernel_rfl
theorem UY:((List.range 15).all fun a=>(List.range 15).all fun b=>[false,true].all fun h=>iM (R9 2 ((a:Int)-7) ((b:Int)-7) h) (aI 2) (kU 2))=true:=by kernel_rfl
theorem UZ:((List.range 15).all fun a=>(List.range 15).all fun b=>[false,true].all fun h=>iM (R9 3 ((a:Int)-7) ((b:Int)-7) h) (aI 3) (kU 3))=true:=by kernel_rfl
theorem U0:((List.range 15).all fun a=>(List.range 15).all fun b=>[false,true].all fun h=>iM (R9 4 ((a:Int)-7) ((b:Int)-7) h) (aI 4) (kU 4))=true:=by kernel_rfl
theorem U3:((List.range 15).all fun a=>(List.range 15).all fun b=>[false,true].all fun h=>iM (R9 5 ((a:Int)-7) ((b:Int)-7) h) (aI 5) (kU 5))=true:=by kernel_rfl
theorem U4:((List.range 15).all fun a=>(List.range 15).all fun b=>[false,true].all fun h=>iM (R9 6 ((a:Int)-7) ((b:Int)-7) h) (aI 6) (kU 6))=true:=by kernel_rfl
theorem U5:((List.range 15).all fun a=>(List.range 15).all fun b=>[false,true].all fun h=>iM (R9 7 ((a:Int)-7) ((b:Int)-7) h) (aI 7) (kU 7))=true:=by kernel_rfl
theorem Qg(k:Nat)(hk:k<8):((List.range 15).all fun a=>(List.range 15).all fun b=>[false,true].all fun h=>iM (R9 k ((a:Int)-7) ((b:Int)-7) h) (aI k) (kU k))=true:=by
 have ZW:k=0∨k=1∨k=2∨k=3∨k=4∨k=5∨k=6∨k=7:=by omega
 rcases ZW with rfl | rfl | rfl | rfl | rfl | rfl | rfl | rfl
 ·exact UW
 ·exact UX
 ·exact UY
 ·exact UZ
 ·exact U0
 ·exact U3
 ·exact U4
 ·exact U5
theorem T5(s:aaf):iM s.P s.T (kU (s.kind%8))=true:=by
 have hk:s.kind%8<8:=Nat.mod_lt _ (by omega);have h:=Qg (s.kind%8) hk;obtain⟨u0,u1⟩:=Ql s.sx;obtain⟨v0,v1⟩:=Ql s.sy;have h1:=List.all_eq_true.1 h (s.sx.tmod 8+7).toNat (List.mem_range.2 (by omega));have h2:=List.all_eq_true.1 h1 (s.sy.tmod 8+7).toNat (List.mem_range.2 (by omega));have h3:=List.all_eq_true.1 h2 s.half (by cases s.half<;>simp);have e1:(((s.sx.tmod 8+7).toNat:Nat):Int)-7=s.sx.tmod 8:=by omega
 have e2:(((s.sy.tmod 8+7).toNat:Nat):Int)-7=s.sy.tmod 8:=by omega
 rw[e1,e2] at h3;exact h3
def zd:List Tr→Int→List Sd
 | [],_=>[]
 |t::l,i=>((t.1,t.2.1),i)::((t.2.1,t.2.2),i)::((t.2.2,t.1),i)::zd l (i+1)
theorem Pc:mB prog 106 [.agg [.slice 0 0 (cD 0).length none,.slice 1 0 (aI 0).length none]] [.qF,.cells false 3 (tC (aI 0))] (.tuple [.map 2,.bool true]) ([.qF,.cells false 3 (tC (aI 0))]++[.map ((zd (aI 0) 0).map sdE)]):=
 bU (lv:=ab) (K:=60) (n:=10) af (aw _) (ax _) (ah _) (by as_aux_lemma=>kernel_rfl)
theorem Pd:mB prog 106 [.agg [.slice 0 0 (cD 1).length none,.slice 1 0 (aI 1).length none]] [.qF,.cells false 3 (tC (aI 1))] (.tuple [.map 2,.bool true]) ([.qF,.cells false 3 (tC (aI 1))]++[.map ((zd (aI 1) 0).map sdE)]):=
 bU (lv:=ab) (K:=60) (n:=10) af (aw _) (ax _) (ah _) (by as_aux_lemma=>kernel_rfl)
theorem Pe:mB prog 106 [.agg [.slice 0 0 (cD 2).length none,.slice 1 0 (aI 2).length none]] [.qF,.cells false 3 (tC (aI 2))] (.tuple [.map 2,.bool true]) ([.qF,.cells false 3 (tC (aI 2))]++[.map ((zd (aI 2) 0).map sdE)]):=
 bU (lv:=ab) (K:=60) (n:=10) af (aw _) (ax _) (ah _) (by as_aux_lemma=>kernel_rfl)
theorem Pf:mB prog 106 [.agg [.slice 0 0 (cD 3).length none,.slice 1 0 (aI 3).length none]] [.qF,.cells false 3 (tC (aI 3))] (.tuple [.map 2,.bool true]) ([.qF,.cells false 3 (tC (aI 3))]++[.map ((zd (aI 3) 0).map sdE)]):=
 bU (lv:=ab) (K:=60) (n:=10) af (aw _) (ax _) (ah _) (by as_aux_lemma=>kernel_rfl)
theorem Pg:mB prog 106 [.agg [.slice 0 0 (cD 4).length none,.slice 1 0 (aI 4).length none]] [.qF,.cells false 3 (tC (aI 4))] (.tuple [.map 2,.bool true]) ([.qF,.cells false 3 (tC (aI 4))]++[.map ((zd (aI 4) 0).map sdE)]):=
 bU (lv:=ab) (K:=60) (n:=10) af (aw _) (ax _) (ah _) (by as_aux_lemma=>kernel_rfl)
theorem Ph:mB prog 106 [.agg [.slice 0 0 (cD 5).length none,.slice 1 0 (aI 5).length none]] [.qF,.cells false 3 (tC (aI 5))] (.tuple [.map 2,.bool true]) ([.qF,.cells false 3 (tC (aI 5))]++[.map ((zd (aI 5) 0).map sdE)]):=
 bU (lv:=ab) (K:=60) (n:=10) af (aw _) (ax _) (ah _) (by as_aux_lemma=>kernel_rfl)
theorem Pj:mB prog 106 [.agg [.slice 0 0 (cD 6).length none,.slice 1 0 (aI 6).length none]] [.qF,.cells false 3 (tC (aI 6))] (.tuple [.map 2,.bool true]) ([.qF,.cells false 3 (tC (aI 6))]++[.map ((zd (aI 6) 0).map sdE)]):=
 bU (lv:=ab) (K:=60) (n:=10) af (aw _) (ax _) (ah _) (by as_aux_lemma=>kernel_rfl)
theorem Pk:mB prog 106 [.agg [.slice 0 0 (cD 7).length none,.slice 1 0 (aI 7).length none]] [.qF,.cells false 3 (tC (aI 7))] (.tuple [.map 2,.bool true]) ([.qF,.cells false 3 (tC (aI 7))]++[.map ((zd (aI 7) 0).map sdE)]):=
 bU (lv:=ab) (K:=60) (n:=10) af (aw _) (ax _) (ah _) (by as_aux_lemma=>kernel_rfl)
theorem EX(k:Nat)(hk:k<8):mB prog 106 [.agg [.slice 0 0 (cD k).length none,.slice 1 0 (aI k).length none]] [.qF,.cells false 3 (tC (aI k))] (.tuple [.map 2,.bool true]) ([.qF,.cells false 3 (tC (aI k))]++[.map ((zd (aI k) 0).map sdE)]):=by
 have ZW:k=0∨k=1∨k=2∨k=3∨k=4∨k=5∨k=6∨k=7:=by omega
 rcases ZW with rfl | rfl | rfl | rfl | rfl | rfl | rfl | rfl
 ·exact Pc
 ·exact Pd
 ·exact Pe
 ·exact Pf
 ·exact Pg
 ·exact Ph
 ·exact Pj
 ·exact Pk
theorem Nn(k:Nat)(hk:k<8):oH (zd (aI k) 0)=true∧tW (pn (zd (aI k) 0))=some ((kU k).map fun(n:Nat)=>(n:Int))∧(zf (aI k)).length=(cD k).length∧kU k≠[]∧(∀c∈kU k,c<(cD k).length)∧aI k≠[]∧(aI k).length≤4∧(kU k).length≤6:=by
 have ZW:k=0∨k=1∨k=2∨k=3∨k=4∨k=5∨k=6∨k=7:=by omega
 rcases ZW with rfl | rfl | rfl | rfl | rfl | rfl | rfl | rfl<;>decide
theorem pc(s:aaf):Whole s.P s.T (zd s.T 0) (kU (s.kind%8)):=by
 have hk:s.kind%8<8:=Nat.mod_lt _ (by omega);have h:=T5 s;obtain⟨f1,f2,f3,f4,f5,f6,f7,f8⟩:=Nn (s.kind%8) hk;have A':=aaf.abk s;have Xr:=DL (s.kind%8);unfold iM at h;simp only[Bool.and_eq_true,decide_eq_true_eq] at h;obtain⟨⟨⟨⟨h1,h2⟩,h3⟩,h4⟩,h5⟩:=h;refine⟨fun p hp=>?_,h1,?_,f1,f2,by rw[A'];exact f3,⟨f4,by rw[A'];exact f5,fun i hi=>?_,h5⟩,fun t ht=>?_,by omega,f6,by show(aI _).length≤800;omega,by omega⟩
 ·have:=List.all_eq_true.1 h2 p hp
  simp only[Bool.and_eq_true,decide_eq_true_eq] at this;obtain⟨⟨⟨a1,a2⟩,a3⟩,a4⟩:=this;have d1:dg 2 1 p.1:=⟨a1,a2⟩;have d2:dg 2 1 p.2:=⟨a3,a4⟩;exact⟨d1.mono (by omega) (by omega),d2.mono (by omega) (by omega)⟩
 ·unfold om
  rw[A'];exact EX (s.kind%8) hk
 ·have:=List.all_eq_true.1 h4 i (List.mem_range.2 hi)
  simpa using this
 ·have:=List.all_eq_true.1 h3 t ht
  unfold Ua;split at this
  ·rename_i p q r e1 e2 e3
   exact⟨p,q,r,e1,e2,e3,by simpa using this⟩
  ·cases this
theorem DZ(s:aaf):mB prog 41 [.agg [.slice 0 0 s.P.length none,.slice 1 0 s.T.length none]] [.cells false 2 (pC s.P),.cells false 3 (tC s.T)] (.int .i64 0) [.cells false 2 (pC s.P),.cells false 3 (tC s.T)]:=
 DY (pc s)
end Go.Proofs
