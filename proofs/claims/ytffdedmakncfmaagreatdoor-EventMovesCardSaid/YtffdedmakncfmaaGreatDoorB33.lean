/- See B54. -/
import Derived.Test.YtffdedmakncfmaaGreatDoorB31
import Derived.Test.YtffdedmakncfmaaGreatDoorB32
import Derived.Test.YtffdedmakncfmaaGreatDoorB22
set_option linter.all false
set_option maxRecDepth 100000
set_option maxHeartbeats 40000000
namespace Go.Proofs
open Go.Eng
open Tryz
def uE(a:Nat):AV×AV:=(.int .i64 (a:Int),.bool true)
def WE(L:List Nat)(a:Nat):List Nat:=if a∈L then L else L++[a]
def XM(L:List Nat)(t:Tr):List Nat:=WE (WE (WE L t.1) t.2.1) t.2.2
def L3(y:List Tr):List Nat:=y.foldl XM []
theorem Vr{α:Type}{l:List α}{i:Nat}{x:α}(h:l[i]? =some x):l.set i x=l:=by
 apply List.ext_getElem?;intro j;rw[List.getElem?_set];by_cases Z:i=j
 ·subst Z
  rw[if_pos rfl,if_pos (gL h),h]
 ·rw[if_neg Z]
theorem xq(a:Nat):∀(L:List Nat) (i:Nat),(a∉L→jz (ba prog) 3 (.int .i64 (a:Int)) (L.map uE) i=some none)∧(a∈L→∃q,jz (ba prog) 3 (.int .i64 (a:Int)) (L.map uE) i=some (some (i+q,.bool true))∧L[q]? =some a)
 | [],i=>⟨fun _=>rfl,fun h=>by cases h⟩
 |b::L,i=>by
  have e:jy (ba prog) 20 3 (.int .i64 (a:Int)) (.int .i64 (b:Int))=some (decide ((a:Int)=(b:Int))):=by simp[jy]
  simp only[List.map_cons,jz,uE,e];have Z:=xq a L (i+1);by_cases h:a=b
  ·subst h
   simp only[decide_true];exact⟨fun h=>absurd (List.mem_cons_self ..) h,fun _=>⟨0,rfl,rfl⟩⟩
  ·have X :¬((a:Int)=(b:Int)):=by omega
   simp only[X,decide_false];refine⟨fun V=>Z.1 (fun h2=>V (List.mem_cons_of_mem _ h2)),fun U=>?_⟩;rcases List.mem_cons.1 U with h2 | h2
   ·exact absurd h2 h
   ·obtain⟨q,S,R⟩:=Z.2 h2
    exact⟨q+1,by rw[S,show i+1+q=i+(q+1) by omega],by simpa using R⟩
theorem RE(M:Mem)(b:Nat)(L:List Nat)(a:Nat)(y:M[b]? =some (.map (L.map uE))):eZ (ba prog) M 279 (.map b) (.int .i64 (a:Int)) (.bool true)=some (M.set b (.map ((WE L a).map uE))):=by
 have Z:lU (ba prog) 20 3 (.int .i64 (a:Int))=true:=by simp[lU]
 unfold eZ;rw[Kl];simp only[y,Z,if_true];by_cases h:a∈L
 ·obtain⟨q,X,V⟩:=(xq a L 0).2 h
  rw[X];have:WE L a=L:=if_pos h;rw[this,Nat.zero_add];simp only[AV.afV,if_true];rw[show((.int .i64 (a:Int),.bool true):AV×AV)=uE a from rfl,Vr (l:=L.map uE) (i:=q) (x:=uE a) (by rw[List.getElem?_map,V];rfl)]
 ·rw[(xq a L 0).1 h]
  have:WE L a=L++[a]:=if_neg h;rw[this];simp[uE]
theorem Ty(n:Nat):∀L:List Nat,(L.map uE).flatMap (fun e=>e.1.refs n++e.2.refs n)=[]
 | []=>rfl
 |p::N=>by simp[uE,AV.refs,Ty n N]
variable{TS:List Tr}{n:Nat}
theorem Ri{t:Tr}(h:TS[n]? =some t):L3 (TS.take (n+1))=XM (L3 (TS.take n)) t:=by rw[List.take_add_one,h];simp[L3]
def vO(y:List P2)(TS:List Tr)(D:List (AV×AV))(L:List Nat):Mem:=[.cells false 2 (pC y),.cells false 3 (tC TS),msB y.length TS.length,.map D,.map (L.map uE)]
def BH(c:Code):List Nat:=if (ad c).contains 23 then [23] else [28]
variable{K:Nat}{b:Code}
theorem BI{O:ae3}(y:List P2)(TS:List Tr)(D:List (AV×AV))(Yb:TS.length≤1000000000)(I:D.flatMap (fun e=>e.1.refs 5++e.2.refs 5)=[])(hK:TS.length<K+5){J:Code}(H:ah f195=[b,J]):
  ∃F:Env→Bool→Env,∀Z d,(ab Z 5=.map 4∧ab Z 21=.slice 1 0 TS.length none∧ab Z 22=.int .i64 TS.length∧ab Z 23=.int .i64 0∧ab Z 1=.ptr 2 0∧ab Z 3=.map 3)→
   bh (ba prog) BH O (K+5) 55 2 true (.loop b) ⟨Z,vO y TS D [],d⟩=some (.exit 0,⟨F Z d,vO y TS D (L3 TS),d⟩)∧ab (F Z d) 1=.ptr 2 0∧ab (F Z d) 3=.map 3∧ab (F Z d) 5=.map 4:=by
 refine bj (L:=[23]) (by simp[ah,aE,f195] at H;rw[←H.1];rfl) (fun Z=>ab Z 5=.map 4∧ab Z 21=.slice 1 0 TS.length none∧ab Z 22=.int .i64 TS.length∧ab Z 23=.int .i64 0∧ab Z 1=.ptr 2 0∧ab Z 3=.map 3) (fun _ U =>ab U 1=.ptr 2 0∧ab U 3=.map 3∧ab U 5=.map 4) ?_;rintro Z d ⟨h5,h21,h22,h23,h1,h3⟩;simp[ah,aE,f195] at H;obtain⟨H,-⟩:=H;have R:ay [23] (ad b) Z ((23,.int .i64 ((0:Nat):Int))::Z)=ay [23] (ad b) Z Z:=by simp[ay,h23]
 rw[←R];refine bx (α:=Nat) (fun n=>⟨ay [23] (ad b) Z ((23,.int .i64 (n:Int))::Z),vO y TS D (L3 (TS.take n)),d⟩) (fun n=>TS.length-n) (fun n=>n≤TS.length) (.exit 0) _ d _ (by simp) ?_ (K+5) 0 (by omega) (by omega);intro n Zg;clear R;subst H;by_cases S:n<TS.length
 ·left
  obtain⟨t,Q⟩:∃q,TS[n]? =some q:=⟨TS[n],List.getElem?_eq_getElem S⟩
  obtain⟨N,o⟩:=Xg Q;have X:=Ri Q;obtain⟨M,G,C⟩:=t;simp only[XM] at N X;have w1:IntKind.i64.wrap ((n:Int)+1)=((n+1:Nat):Int):=by rw[ae];omega
  obtain⟨m,j⟩:=xE (n+1);rw[←j] at w1 X;obtain⟨L,B⟩:=xE (L3 (TS.take n));rw[←B] at X;rw[←B];have Y:IntKind.i64.wrap 1=1:=rfl;have W:IntKind.i64.wrap 2=2:=rfl;have v3:IntKind.i64.wrap 3=3:=rfl;have v2' :IntKind.i64.wrap (1+1)=2:=rfl;have v3' :IntKind.i64.wrap (2+1)=3:=rfl;have u:∀(V :List Nat) (a:Nat),eZ (ba prog) [.cells false 2 (pC y),.cells false 3 (tC TS),.cells true 0 [.slice 0 0 y.length none,.slice 1 0 TS.length none],.map D,.map (V.map uE),.cells true 0 [.int .i64 (M:Int),.int .i64 (G:Int),.int .i64 (C:Int)]] 279 (.map 4) (.int .i64 (a:Int)) (.bool true)=
    some [.cells false 2 (pC y),.cells false 3 (tC TS),.cells true 0 [.slice 0 0 y.length none,.slice 1 0 TS.length none],.map D,.map ((WE V a).map uE),.cells true 0 [.int .i64 (M:Int),.int .i64 (G:Int),.int .i64 (C:Int)]]:=fun V a=>RE _ 4 V a rfl
  refine⟨m,?_⟩;simp[vO,h5,h21,h22,S,N,o,bp,gi,Y,W,v3,BH,u,I,X,msB,uR,sf,Ty,w1];omega
 ·right
  have e:TS.take n=TS:=List.take_of_length_le (by omega);rw[e];have T' :¬(n:Int)<TS.length:=by omega
  simp[h22,h1,h3,h5,S]
theorem Wn(f:Nat→Option Nat)(y:List Sd):(y.map sdE).map (fun e=>(e.1.ren f,e.2.ren f))=y.map sdE:=by rw[List.map_map];exact List.map_congr_left fun s _=>Oh f s
theorem Vq(f:Nat→Option Nat)(y:List Sd):y.map ((fun(e:AV×AV)=>(e.1.ren f,e.2.ren f))∘sdE)=y.map sdE:=
 List.map_congr_left fun s _=>Oh f s
def Bq(H:List P2)(TS:List Tr)(y:List Sd):Prop:=
 kO prog 234 [.agg [.slice 0 0 H.length none,.slice 1 0 TS.length none]] [.qK,.cells false 3 (tC TS)] (.tuple [.map 2,.bool true]) ([.qK,.cells false 3 (tC TS)]++[.map (y.map sdE)])
structure Tryz.Whole (PS:List P2)(TS:List Tr)(sds:List Sd)(cyc:List Nat):Prop where
 dg:∀p∈PS,pDg 200 p
 nodup:PS.Nodup
 ahP:Bq PS TS sds
 outer:uQ sds=true
 cy:B0 (sW sds)=some (cyc.map fun(n:Nat)=>(n:Int))
 used:(L3 TS).length=PS.length
 once:Tn PS cyc
 tr:∀t∈TS,XJ PS t
 len:PS.length≤400
 ahQ:TS≠[]
 ahI:TS.length≤800
 ahR:cyc.length≤1000000
open Classical in
noncomputable def As(I:List P2)(TS:List Tr)(H:List Sd)(y:List Nat):ae3:=fun c Z M=>match c,Z with
 |.fn 234,[.agg [.slice b 0 n none,.slice c 0 k none]]=>if n=I.length∧k=TS.length∧b<M.length∧(∃o,M[c]? =some (.cells o 3 (tC TS))) then some ⟨.tuple [.map M.length,.bool true],none,[.map (H.map sdE)]⟩ else none
 |.fn 235,[.agg [.slice b 0 _ none,.slice c 0 _ none],.map q]=>if b<M.length∧c<M.length∧Q0 M q=some (H.map sdE) then some ⟨.tuple [.slice M.length 0 y.length none,.bool true],none,[.cells true 1 (cZ y)]⟩ else none
 |.fn 236,[.agg [.slice b 0 n none,.slice c 0 _ none],.slice q 0 l none]=>if n=I.length∧l=y.length∧c<M.length∧(∃o,M[b]? =some (.cells o 2 (pC I)))∧(∃o,M[q]? =some (.cells o 1 (cZ y))) then some ⟨.bool true,none,[]⟩ else none
 |_,_=>none
theorem KE:∀Z:List Nat,AV.ae8 (cZ Z)=true
 | []=>rfl
 |c::l=>by have:=KE l;simp only[cZ] at this;simp[cZ,AV.ae8,AV.closed,this]
theorem Xz(y:List Nat):iZ (y.map fun(n:Nat)=>(n:Int))=cZ y:=by simp[iZ,cZ]
theorem fy{M:Mem}{b:Nat}{s:afb}(h:M[b]? =some s):b<M.length:=gL h
variable{PS:List P2}{cyc:List Nat}{sds:List Sd}
section
variable (hw:Whole PS TS sds cyc)
include hw
theorem NF:qS prog (As PS TS sds cyc):=by
 refine bZ fun c V M r h=>?_
 unfold As at h;split at h
 ·rename_i b n c k
  split at h
  ·rename_i U
   obtain⟨rfl,rfl,Q,o,X⟩:=U;cases h;refine aw ?_;have:=kO.frame (M:=M) (new:=[.map (sds.map sdE)]) [b,c] (m:=[.qK,.cells false 3 (tC TS)]) rfl (by
    intro k S;simp only[lM] at S;rcases S with rfl | rfl
    ·exact Q
    ·exact fy X) (by rfl) (fun i s Z=>by
    match i with
    |0=>simp at Z;subst Z;trivial
    |1=>simp at Z;subst Z;exact fe (fC TS) X (List.take_length)
    |i+2=>simp at Z) rfl hw.ahP
   simpa [AV.afp,AV.ren,eL,afb.ren,Wn,Vq] using this
  ·cases h
 ·rename_i b n c k q
  split at h
  ·rename_i U
   obtain⟨Q,O,X⟩:=U;cases h;refine aw ?_;have:=yz M sds (cyc.map fun(n:Nat)=>(n:Int)) q b c n k Q O X hw.outer hw.cy;rw[Xz,List.length_map] at this;exact this
  ·cases h
 ·rename_i b n c k q l
  split at h
  ·rename_i U
   obtain⟨rfl,rfl,O,⟨o,X⟩,⟨N,R⟩⟩:=U;cases h;refine aw ?_;have:=kO.frame (M:=M) (new:=[]) (args:=[.agg [.slice 0 0 PS.length none,.slice 1 0 k none],.slice 2 0 cyc.length none]) [b,c,q] (m:=[.cells false 2 (pC PS),.qK,.cells false 1 (cZ cyc)]) rfl (by
    intro k S;simp only[lM] at S;rcases S with rfl | rfl | rfl
    ·exact fy X
    ·exact O
    ·exact fy R) (by rfl) (fun i s Z=>by
    match i with
    |0=>simp at Z;subst Z;exact fe (dY PS) X (List.take_length)
    |1=>simp at Z;subst Z;trivial
    |2=>simp at Z;subst Z;exact fe (KE cyc) R (List.take_length)
    |i+3=>simp at Z) rfl (by simpa using Mn PS k cyc hw.dg hw.once hw.ahR)
   simpa [AV.afp,AV.ren,eL] using this
  ·cases h
 ·cases h
theorem Hx:
  kO prog 195 [.agg [.slice 0 0 PS.length none,.slice 1 0 TS.length none]] [.cells false 2 (pC PS),.cells false 3 (tC TS)] (.bool true) [.cells false 2 (pC PS),.cells false 3 (tC TS)]:=by
 have M:aT prog 195=some f195:=by kernel_rfl
 have G:=hw.len;have D:=hw.ahI;obtain⟨b,Q,V⟩:∃b Q,ah f195=[b,Q]:=⟨_,_,rfl⟩
 obtain⟨K,C⟩:=xE TS.length;obtain⟨F,X⟩:=BI (O:=As PS TS sds cyc) (K:=K) PS TS (sds.map sdE) (by omega) (rQ 5 sds) (by omega) V;simp[ah,aE,f195] at V;obtain⟨rfl,rfl⟩:=V;have N:=fun Z d h=>(X Z d h).1
 have U:=fun Z d h=>(X Z d h).2.1
 have S:=fun Z d h=>(X Z d h).2.2.1
 have R:=fun Z d h=>(X Z d h).2.2.2
 clear X;have L:=hw.used;refine cv (lv:=BH) (K:=(K+5)) (NF hw) ?_;simp only[vO,List.map_nil,msB] at N;simp[aa,M,f195,N,U,S,R,As,Q0,L]
theorem Ni:qS prog (oP PS TS):=by
 refine bZ fun c Z M r h=>?_
 unfold oP at h;split at h
 ·rename_i b n c k
  split at h
  ·rename_i R
   obtain⟨rfl,rfl,⟨o,U⟩,⟨Q,X⟩⟩:=R;cases h;refine aw ?_;have:=kO.frame (M:=M) (new:=[]) (args:=[.agg [.slice 0 0 PS.length none,.slice 1 0 TS.length none]]) [b,c] (m:=[.cells false 2 (pC PS),.cells false 3 (tC TS)]) rfl (by
    intro k S;simp only[lM] at S;rcases S with rfl | rfl
    ·exact fy U
    ·exact fy X) (by rfl) (fun i s V=>by
    match i with
    |0=>simp at V;subst V;exact fe (dY PS) U (List.take_length)
    |1=>simp at V;subst V;exact fe (fC TS) X (List.take_length)
    |i+2=>simp at V) rfl (by simpa using Hx hw)
   simpa [AV.afp,AV.ren,eL] using this
  ·cases h
 ·exact dr Bk h
theorem Fj:
  kO prog 131 [.agg [.slice 0 0 PS.length none,.slice 1 0 TS.length none]] [.cells false 2 (pC PS),.cells false 3 (tC TS)] (.int .i64 0) [.cells false 2 (pC PS),.cells false 3 (tC TS)]:=by
 have C:aT prog 131=some f131:=by kernel_rfl
 have j:=hw.len;have Y:=hw.ahI;have B:0<TS.length:=by have:=hw.ahQ;cases TS with | nil=>exact absurd rfl this | cons a l=>simp
 obtain⟨O,N,M,L,G,V⟩:∃O N M L G,ah f131=[O,N,M,L,G]:=⟨_,_,_,_,_,rfl⟩
 obtain⟨K,W⟩:=xE (PS.length+TS.length);obtain⟨F,U⟩:=xx (K:=K+5) PS TS hw.dg hw.nodup (by omega) (by omega) V;obtain⟨J,S⟩:=xz (K:=K) PS TS (PS.map pmE) hw.dg hw.tr (by omega) (by omega) (GV 4 PS) (by omega) V;simp[ah,aE,f131] at V;obtain⟨rfl,rfl,rfl,rfl,rfl⟩:=V;have D:=fun Z d h=>(U Z d h).1
 have X:=fun Z d h=>(S Z d h).1
 have R:=fun Z d h=>(U Z d h).2
 have Q:=fun Z d h=>(S Z d h).2
 clear U S;have u:¬(800:Int)<TS.length:=by omega
 have o:¬(400:Int)<PS.length:=by omega
 have I:¬800<TS.length:=by omega
 have H:¬400<PS.length:=by omega
 have m:¬TS.length=0:=by omega
 have y:¬(TS.length:Int)=0:=by omega
 refine cv (lv:=vH) (K:=(K+5)) (Ni hw) ?_;simp only[msB] at D X;simp[aa,C,f131,D,X,R,Q,oP,u,o,m]
end
noncomputable def Aq(f:FuncId)(args:List AV):Option AV:=
 match f,args with
 |66,[.int .i64 n,.int .i64 d]=>if 0<d∧dF n=true∧dF d=true then some (.tuple [.str (aB (mkRat n d.toNat)),.int .i64 0]) else none
 |_,_=>none
theorem Qf:qS prog (af Aq):=bH fun f Z v h mem=>by
 unfold Aq at h;split at h
 ·rename_i n d
  split at h
  ·rename_i X
   cases h;have:=Hz n d.toNat (by omega) X.2.1 (by rw[Int.toNat_of_nonneg (by omega)];exact X.2.2) mem;rw[Int.toNat_of_nonneg (by omega)] at this;exact this
  ·cases h
 ·cases h
theorem pg{n:Int}(h0: -1000000≤n)(h1:n≤1000000):dF n=true:=by unfold dF;simp;omega
theorem fZ{n:Int}(h0: -1000000≤n)(h1:n≤1000000):IntKind.i64.wrap n=n:=by rw[ae]
theorem Hs(s:afh)(hs:s.Ok)(x y:Int)(H: -128≤x)(I:x≤127)(J: -128≤y)(W:y≤127)(k:Nat)(hk:k=1∨k=2)(M:Mem):
  kO prog 24 [s.av,.agg [.int .i8 x,.int .i8 y],.int .i64 (k:Int)] M (pA (s.pt k x y)) M:=by
 have R:aT prog 24=some f24:=by kernel_rfl
 obtain⟨kd,Q,O,N⟩:=s;have C:=Vy Q;have B:=Vy O;unfold afh.av afh.pt;simp only;obtain⟨u,Z⟩:=xE (Q.tmod 8);obtain⟨v,X⟩:=xE (O.tmod 8);rw[←Z] at C ⊢;rw[←X] at B ⊢;refine ao Qf ?_ M;have L:IntKind.i64.wrap x=x:=fZ (by omega) (by omega);have G:IntKind.i64.wrap y=y:=fZ (by omega) (by omega);have F:IntKind.i64.wrap u=u:=fZ (by omega) (by omega);have D:IntKind.i64.wrap v=v:=fZ (by omega) (by omega);rcases hk with rfl | rfl
 ·have V:IntKind.i64.wrap (x+u)=x+u:=fZ (by omega) (by omega)
  have U:IntKind.i64.wrap (y+v)=y+v:=fZ (by omega) (by omega);have o:IntKind.i64.wrap 1=1:=rfl;have S:IntKind.i64.wrap 2=2:=rfl;have f1:dF (x+u)=true:=pg (by omega) (by omega);have f2:dF (y+v)=true:=pg (by omega) (by omega);have f3:dF 1=true:=rfl;have f4:dF 2=true:=rfl;cases N<;>simp[aa,R,f24,af,Aq,←Z,←X,L,G,F,D,V,U,o,S,f1,f2,f3,f4,bW,aH,pA]
 ·have V:IntKind.i64.wrap (x+u*2)=x+u*2:=fZ (by omega) (by omega)
  have U:IntKind.i64.wrap (y+v*2)=y+v*2:=fZ (by omega) (by omega);have m:IntKind.i64.wrap (u*2)=u*2:=fZ (by omega) (by omega);have j:IntKind.i64.wrap (v*2)=v*2:=fZ (by omega) (by omega);have S:IntKind.i64.wrap 2=2:=rfl;have Y:IntKind.i64.wrap 4=4:=rfl;have f1:dF (x+u*2)=true:=pg (by omega) (by omega);have f2:dF (y+v*2)=true:=pg (by omega) (by omega);have f3:dF 2=true:=rfl;have f4:dF 4=true:=rfl;cases N<;>simp[aa,R,f24,af,Aq,←Z,←X,L,G,F,D,V,U,m,j,S,Y,f1,f2,f3,f4,bW,aH,pA]
theorem Fi(k:Nat)(hk:k<256):kO prog 23 [.int .u8 (k:Int)] [] (.tuple [.slice 0 0 (dU (k%8)).length none,.slice 1 0 (bR (k%8)).length none]) [.cells true 2 (iP (dU (k%8))),.cells true 3 (tC (bR (k%8)))]:=by
 have S:aT prog 23=some f23:=by kernel_rfl
 have X:(k:Int).tmod 8=((k%8:Nat):Int):=rfl;have V:k%8<8:=Nat.mod_lt _ (by omega);obtain⟨j,U⟩:=xE (k%8);rw[←U] at X V ⊢;have h:aa (ba prog) (fun _=>[]) (aT prog) cN 1 23 [.int .u8 (k:Int)] []=some ⟨.tuple [.slice 0 0 (dU j).length none,.slice 1 0 (bR j).length none],none,[.cells true 2 (iP (dU j)),.cells true 3 (tC (bR j))]⟩:=by
  have Z:j=0∨j=1∨j=2∨j=3∨j=4∨j=5∨j=6∨j=7:=by omega
  clear V U;rcases Z with rfl | rfl | rfl | rfl | rfl | rfl | rfl | rfl<;>simp[aa,S,f23,X,dU,bR,sqI,iP,tC,bW]<;>exact⟨rfl,rfl⟩
 have:=(ar aj (aI _) (ax _) (aP _) h).1;simpa [y9.mem] using this
theorem Hv(k:Nat)(hk:k<256)(M:Mem):kO prog 23 [.int .u8 (k:Int)] M (.tuple [.slice M.length 0 (dU (k%8)).length none,.slice (M.length+1) 0 (bR (k%8)).length none]) (M++[.cells true 2 (iP (dU (k%8))),.cells true 3 (tC (bR (k%8)))]):=by have:=kO.frame (M:=M) (new:=[.cells true 2 (iP (dU (k%8))),.cells true 3 (tC (bR (k%8)))]) (args:=[.int .u8 (k:Int)]) [] (m:=[]) rfl (by simp) (by rfl) (fun i s Z=>by simp at Z) rfl (Fi k hk);simpa [AV.ren,AV.afp,eL,afb.ren,SI,E8] using this
noncomputable def oO(s:afh):ae3:=fun c Z M=>match c,Z with
 |.fn 23,[.int .u8 k]=>if k=(s.kind:Int) then some ⟨.tuple [.slice M.length 0 (dU (s.kind%8)).length none,.slice (M.length+1) 0 (bR (s.kind%8)).length none],none,[.cells true 2 (iP (dU (s.kind%8))),.cells true 3 (tC (bR (s.kind%8)))]⟩ else none
 |.fn 24,[.agg [.int .u8 k,.int .i8 sx,.int .i8 sy,.bool h],.agg [.int .i8 x,.int .i8 y],.int .i64 n]=>if k=(s.kind:Int)∧sx=s.sx∧sy=s.sy∧h=s.half∧ -128≤x∧x≤127∧ -128≤y∧y≤127∧n=1 then some ⟨pA (s.pt 1 x y),none,[]⟩ else none
 |_,_=>none
theorem Nc(s:afh)(hs:s.Ok):qS prog (oO s):=by
 refine bZ fun c X M r h=>?_
 unfold oO at h;split at h
 ·split at h
  ·rename_i Z
   subst Z;cases h;exact aw (Hv s.kind hs.kind M)
  ·cases h
 ·split at h
  ·rename_i Z
   obtain⟨rfl,rfl,rfl,rfl,V,U,h3,S,rfl⟩:=Z;cases h;refine aw ?_;rw[List.append_nil];exact Hs s hs _ _ V U h3 S 1 (.inl rfl) M
  ·cases h
 ·cases h
def TK(L:List (Int×Int)):Prop:=∀p∈L,0≤p.1∧p.1≤6∧0≤p.2∧p.2≤6
theorem LV(k:Nat)(hk:k<8):TK (dU k):=by
 have Z:k=0∨k=1∨k=2∨k=3∨k=4∨k=5∨k=6∨k=7:=by omega
 rcases Z with rfl | rfl | rfl | rfl | rfl | rfl | rfl | rfl<;>(unfold TK;decide)
def W6(n:Nat):AV:=match n with
 |0=>.qF
 |n+1=>.slice 5 0 (n+1) none
def N0(s:afh)(y:List (Int×Int))(TS:List Tr)(n:Nat):Mem:=
 [.cells true 0 [.int .u8 s.kind,.int .i8 s.sx,.int .i8 s.sy,.bool s.half],.cells true 0 [.qF,.qF],.cells true 2 (iP y),.cells true 3 (tC TS),.cells true 0 [W6 n,.slice 3 0 TS.length none]]++
  (match n with
  |0=>[]
  |n+1=>[.cells true 2 (pC ((y.take (n+1)).map fun p=>s.pt 1 p.1 p.2))])
theorem Cm{s:afh}{y:List (Int×Int)}(h:0<n):N0 s y TS n=
  [.cells true 0 [.int .u8 s.kind,.int .i8 s.sx,.int .i8 s.sy,.bool s.half],.cells true 0 [.qF,.qF],.cells true 2 (iP y),.cells true 3 (tC TS),.cells true 0 [.slice 5 0 n none,.slice 3 0 TS.length none],.cells true 2 (pC ((y.take n).map fun p=>s.pt 1 p.1 p.2))]:=by
 cases n with
 |zero=>omega
 |succ n=>rfl
theorem Bi(s:afh)(y:List (Int×Int))(TS:List Tr)(H:TK y)(hl:y.length≤1000000)(hK:y.length<K)(hb:ah f7=[b]):
  ∃F:Env→Env,∀Z,(ab Z 1=.ptr 0 0∧ab Z 3=.slice 2 0 y.length none∧ab Z 5=.ptr 4 0∧ab Z 6=.int .i64 0∧ab Z 2=.ptr 1 0)→
   bh (ba prog) (fun _=>[6,6]) (oO s) K 42 0 true (.loop b) ⟨Z,N0 s y TS 0,false⟩=some (.exit 0,⟨F Z,N0 s y TS y.length,decide (0<y.length)⟩)∧ab (F Z) 5=.ptr 4 0∧ab (F Z) 2=.ptr 1 0:=by
 refine uI (L:=[6,6]) rfl false _ (fun Z=>ab Z 1=.ptr 0 0∧ab Z 3=.slice 2 0 y.length none∧ab Z 5=.ptr 4 0∧ab Z 6=.int .i64 0∧ab Z 2=.ptr 1 0) (fun _ AC =>ab AC 5=.ptr 4 0∧ab AC 2=.ptr 1 0) ?_;rintro Z ⟨h1,h3,h5,h6,h2⟩;obtain⟨Q,Y⟩:∃Q,aJ f7=[Q]:=⟨_,rfl⟩
 have IR:=nh Y (l:=[0,1,0,0,0,24,56,120,248,0,0,1536,3584,7680,15872,32760,65532,131068,262143,524287,1048575]) (by kernel_rfl);have O:Ky [0,1,0,0,0,24,56,120,248,0,0,1536,3584,7680,15872,32760,65532,131068,262143,524287,1048575] 21 17=true:=by decide
 have N:Ky [0,1,0,0,0,24,56,120,248,0,0,1536,3584,7680,15872,32760,65532,131068,262143,524287,1048575] 21 18=true:=by decide
 have M:Ky [0,1,0,0,0,24,56,120,248,0,0,1536,3584,7680,15872,32760,65532,131068,262143,524287,1048575] 21 20=true:=by decide
 have G:dS [0,1,0,0,0,24,56,120,248,0,0,1536,3584,7680,15872,32760,65532,131068,262143,524287,1048575] 18=true:=by decide
 have D:dS [0,1,0,0,0,24,56,120,248,0,0,1536,3584,7680,15872,32760,65532,131068,262143,524287,1048575] 20=true:=by decide
 simp[aJ,bU,f7] at Y;simp[ah,aE,f7] at hb;have o:ay [6,6] (ad b) Z ((6,.int .i64 ((0:Nat):Int))::Z)=ay [6,6] (ad b) Z Z:=by simp[ay,h6]
 rw[←o];refine bx (α:=Nat) (fun n=>⟨ay [6,6] (ad b) Z ((6,.int .i64 (n:Int))::Z),N0 s y TS n,decide (0<n)⟩) (fun n=>y.length-n) (fun n=>n≤y.length) (.exit 0) _ _ _ (by simp) ?_ K 0 (by omega) (by omega);intro n Zg;clear o;subst hb;subst Y;by_cases W:n<y.length
 ·left
  obtain⟨p,J⟩:∃q,y[n]? =some q:=⟨y[n],List.getElem?_eq_getElem W⟩
  obtain⟨I,q2,q3⟩:=XE J;obtain⟨x0,x1,y0,y1⟩:=H p (List.mem_of_getElem? J);obtain⟨S,R⟩:=p;simp only at I q2 x0 x1 y0 y1;have U:(y.take (n+1)).map (fun p=>s.pt 1 p.1 p.2)=(y.take n).map (fun p=>s.pt 1 p.1 p.2)++[s.pt 1 S R]:=by rw[List.take_add_one,J];simp
  have v1:IntKind.i8.wrap S=S:=TT (by omega) (by omega);have v2:IntKind.i8.wrap R=R:=TT (by omega) (by omega);have c1: -128≤S:=by omega
  have c2:S≤127:=by omega
  have c3: -128≤R:=by omega
  have c4:R≤127:=by omega
  have w1:IntKind.i64.wrap ((n:Int)+1)=((n+1:Nat):Int):=by rw[ae];omega
  obtain⟨P,j⟩:=xE ((y.take n).map (fun p=>s.pt 1 p.1 p.2));have C:P.length=n:=by rw[j,List.length_map,List.length_take];omega
  obtain⟨z,hz⟩:=xE (s.pt 1 S R);rw[←j,←hz] at U;have X:pC (P++[z])=pC P++[.str (aB z.1),.str (aB z.2)]:=by rw[Ly];rfl
  have B:=CE P;rw[C] at B;obtain⟨m,hm⟩:=xE (n+1);refine⟨m,?_⟩;by_cases o:n=0
  ·subst o
   have Yu:m=1:=by omega
   subst Yu;have hP0:P=[]:=List.eq_nil_of_length_eq_zero C;rw[hP0] at U X;simp at U X;have w0:IntKind.i64.wrap 1=1:=rfl;simp[N0,W6,h1,h3,h5,W,I,q2,v1,v2,c1,c2,c3,c4,w0,oO,←hz,pA,-aK,CU IR,wL,Cr,OZ,dT,O,N,M,G,D,U,X,NW,sf,SI,E8,W9,bW,Nat.testBit];omega
  ·have V:0<n:=by omega
   rw[←hm] at w1 U;have u:0<m:=by omega
   have hd1:decide (0<n)=true:=by simpa using V
   rw[Cm V,Cm u,hd1,←j,U,X];clear j U X;have g1:m*32≤140737488355328:=by omega
   have g2:n≤140737488355327:=by omega
   have g5:(N0 s y TS 0).length=5:=rfl;have g4:m≤140737488355328:=by omega
   have g3:(pC P).take (n*2)=pC P:=List.take_of_length_le (by omega);simp[h1,h3,h5,W,I,q2,v1,v2,c1,c2,c3,c4,w1,oO,←hz,pA,-aK,CU IR,wL,Cr,OZ,dT,O,N,M,G,D,B,u,←hm,g1,g4,g3,g5,Xa,NW,sf,uR,SI,E8,O4,bW,Nat.testBit];omega
 ·right
  have e:n=y.length:=by omega
  subst e;simp[h3,h5,h2]
theorem Rc(k:Nat):0<(dU k).length:=by unfold dU;split<;>simp[sqI]
theorem E6(k:Nat):(dU k).length≤6:=by unfold dU;split<;>simp[sqI]
theorem afh.ago(s:afh):s.P.length=(dU (s.kind%8)).length:=by simp[afh.P]
theorem Hr(s:afh)(hs:s.Ok):kO prog 7 [s.av] [] (.agg [.slice 0 0 s.P.length none,.slice 1 0 s.T.length none]) [.cells true 2 (pC s.P),.cells true 3 (tC s.T)]:=by
 have L:aT prog 7=some f7:=by kernel_rfl
 have X:=Rc (s.kind%8);have C:=E6 (s.kind%8);obtain⟨b,O⟩:∃b,ah f7=[b]:=⟨_,rfl⟩
 obtain⟨F,U⟩:=Bi (K:=10) s (dU (s.kind%8)) (bR (s.kind%8)) (LV _ (Nat.mod_lt _ (by omega))) (by omega) (by omega) O;simp[ah,aE,f7] at O;subst O;have G:decide (0<(dU (s.kind%8)).length)=true:=by simpa using X
 rw[Cm X,G,List.take_length] at U;have N:=fun S h=>(U S h).1
 have R:=fun S h=>(U S h).2.1
 have Q:=fun S h=>(U S h).2.2
 clear U;have D:N0 s (dU (s.kind%8)) (bR (s.kind%8)) 0=[.cells true 0 [.int .u8 s.kind,.int .i8 s.sx,.int .i8 s.sy,.bool s.half],.cells true 0 [.qF,.qF],.cells true 2 (iP (dU (s.kind%8))),.cells true 3 (tC (bR (s.kind%8))),.cells true 0 [.qF,.slice 3 0 (bR (s.kind%8)).length none]]:=rfl;rw[D] at N;rw[afh.ago];unfold afh.P afh.T;obtain⟨M,Z⟩:=xE (dU (s.kind%8));obtain⟨ST,V⟩:=xE (bR (s.kind%8));rw[←Z,←V] at N;rw[←Z] at R Q;rw[←Z,←V];have h:aa (ba prog) (fun _=>[6,6]) (aT prog) (oO s) 10 7 [s.av] []=some ⟨.agg [.slice 0 0 M.length none,.slice 1 0 ST.length none],some [],[.cells true 2 (pC (M.map fun p=>s.pt 1 p.1 p.2)),.cells true 3 (tC ST)]⟩:=by simp[aa,L,f7,afh.av,N,R,Q,oO,←Z,←V,sf,uR,E8,O4,bW,aH];exact⟨rfl,rfl⟩
 have:=(ar aj (aI _) (Nc s hs) (aP _) h).1;simpa [y9.mem] using this
theorem kM(s:afh)(hs:s.Ok)(M:Mem):kO prog 7 [s.av] M (.agg [.slice M.length 0 s.P.length none,.slice (M.length+1) 0 s.T.length none]) (M++[.cells true 2 (pC s.P),.cells true 3 (tC s.T)]):=by have:=kO.frame (M:=M) (new:=[.cells true 2 (pC s.P),.cells true 3 (tC s.T)]) (args:=[s.av]) [] (m:=[]) rfl (by simp) (by rfl) (fun i s hs=>by simp at hs) rfl (Hr s hs);simpa [AV.ren,AV.afp,eL,afb.ren,O4,E8,afh.av] using this
def jd(PS:List P2)(TS:List Tr)(cyc:List Nat):Bool:=
 decide PS.Nodup&&(PS.all fun p=>decide (p.1.num.natAbs<1000)&&decide (p.1.den<10)&&decide (p.2.num.natAbs<1000)&&decide (p.2.den<10))&&
  (TS.all fun t=>match PS[t.1]?,PS[t.2.1]?,PS[t.2.2]? with
   |some p,some q,some r=>decide (0<nQ (Af p q r))
   |_,_,_=>false)&&
  ((List.range cyc.length).all fun i=>decide (0≤nQ (Af (CG PS cyc i) (CG PS cyc (i+1)) (CG PS cyc (i+2)))))&&decide (ly PS cyc cyc.length=1)
def Vm(k:Nat)(u v:Int)(h:Bool):List P2:=
 (dU k).map fun p=>(mkRat (p.1+u*(1:Nat)) ((if h then 2 else 1)*1),mkRat (p.2+v*(1:Nat)) ((if h then 2 else 1)*1))
theorem Wr:((List.range 15).all fun a=>(List.range 15).all fun b=>[false,true].all fun h=>jd (Vm 0 ((a:Int)-7) ((b:Int)-7) h) (bR 0) (lz 0))=true:=by kernel_rfl
theorem Wt:((List.range 15).all fun a=>(List.range 15).all fun b=>[false,true].all fun h=>jd (Vm 1 ((a:Int)-7) ((b:Int)-7) h) (bR 1) (lz 1))=true:=by kernel_rfl
theorem Wu:((List.range 15).all fun a=>(List.range 15).all fun b=>[false,true].all fun h=>jd (Vm 2 ((a:Int)-7) ((b:Int)-7) h) (bR 2) (lz 2))=true:=by kernel_rfl
theorem Wv:((List.range 15).all fun a=>(List.range 15).all fun b=>[false,true].all fun h=>jd (Vm 3 ((a:Int)-7) ((b:Int)-7) h) (bR 3) (lz 3))=true:=by kernel_rfl
theorem Ww:((List.range 15).all fun a=>(List.range 15).all fun b=>[false,true].all fun h=>jd (Vm 4 ((a:Int)-7) ((b:Int)-7) h) (bR 4) (lz 4))=true:=by kernel_rfl
theorem Wx:((List.range 15).all fun a=>(List.range 15).all fun b=>[false,true].all fun h=>jd (Vm 5 ((a:Int)-7) ((b:Int)-7) h) (bR 5) (lz 5))=true:=by kernel_rfl
theorem Wy:((List.range 15).all fun a=>(List.range 15).all fun b=>[false,true].all fun h=>jd (Vm 6 ((a:Int)-7) ((b:Int)-7) h) (bR 6) (lz 6))=true:=by kernel_rfl
theorem Wz:((List.range 15).all fun a=>(List.range 15).all fun b=>[false,true].all fun h=>jd (Vm 7 ((a:Int)-7) ((b:Int)-7) h) (bR 7) (lz 7))=true:=by kernel_rfl
theorem Rd(k:Nat)(hk:k<8):((List.range 15).all fun a=>(List.range 15).all fun b=>[false,true].all fun h=>jd (Vm k ((a:Int)-7) ((b:Int)-7) h) (bR k) (lz k))=true:=by
 have Z:k=0∨k=1∨k=2∨k=3∨k=4∨k=5∨k=6∨k=7:=by omega
 rcases Z with rfl | rfl | rfl | rfl | rfl | rfl | rfl | rfl
 ·exact Wr
 ·exact Wt
 ·exact Wu
 ·exact Wv
 ·exact Ww
 ·exact Wx
 ·exact Wy
 ·exact Wz
theorem Vt(s:afh):jd s.P s.T (lz (s.kind%8))=true:=by
 have Z:s.kind%8<8:=Nat.mod_lt _ (by omega);have h:=Rd (s.kind%8) Z;obtain⟨R,Q⟩:=Vy s.sx;obtain⟨v0,O⟩:=Vy s.sy;have X:=List.all_eq_true.1 h (s.sx.tmod 8+7).toNat (List.mem_range.2 (by omega));have V:=List.all_eq_true.1 X (s.sy.tmod 8+7).toNat (List.mem_range.2 (by omega));have h3:=List.all_eq_true.1 V s.half (by cases s.half<;>simp);have U:(((s.sx.tmod 8+7).toNat:Nat):Int)-7=s.sx.tmod 8:=by omega
 have S:(((s.sy.tmod 8+7).toNat:Nat):Int)-7=s.sy.tmod 8:=by omega
 rw[U,S] at h3;exact h3
def Rb:List Tr→Int→List Sd
 | [],_=>[]
 |t::l,i=>((t.1,t.2.1),i)::((t.2.1,t.2.2),i)::((t.2.2,t.1),i)::Rb l (i+1)
theorem Qg:kO prog 234 [.agg [.slice 0 0 (dU 0).length none,.slice 1 0 (bR 0).length none]] [.qK,.cells false 3 (tC (bR 0))] (.tuple [.map 2,.bool true]) ([.qK,.cells false 3 (tC (bR 0))]++[.map ((Rb (bR 0) 0).map sdE)]):=
 rJ (lv:=ad) (K:=60) (n:=10) aj (aI _) (aP _) (ax _) (by as_aux_lemma=>kernel_rfl)
theorem Qh:kO prog 234 [.agg [.slice 0 0 (dU 1).length none,.slice 1 0 (bR 1).length none]] [.qK,.cells false 3 (tC (bR 1))] (.tuple [.map 2,.bool true]) ([.qK,.cells false 3 (tC (bR 1))]++[.map ((Rb (bR 1) 0).map sdE)]):=
 rJ (lv:=ad) (K:=60) (n:=10) aj (aI _) (aP _) (ax _) (by as_aux_lemma=>kernel_rfl)
theorem Qi:kO prog 234 [.agg [.slice 0 0 (dU 2).length none,.slice 1 0 (bR 2).length none]] [.qK,.cells false 3 (tC (bR 2))] (.tuple [.map 2,.bool true]) ([.qK,.cells false 3 (tC (bR 2))]++[.map ((Rb (bR 2) 0).map sdE)]):=
 rJ (lv:=ad) (K:=60) (n:=10) aj (aI _) (aP _) (ax _) (by as_aux_lemma=>kernel_rfl)
theorem Qj:kO prog 234 [.agg [.slice 0 0 (dU 3).length none,.slice 1 0 (bR 3).length none]] [.qK,.cells false 3 (tC (bR 3))] (.tuple [.map 2,.bool true]) ([.qK,.cells false 3 (tC (bR 3))]++[.map ((Rb (bR 3) 0).map sdE)]):=
 rJ (lv:=ad) (K:=60) (n:=10) aj (aI _) (aP _) (ax _) (by as_aux_lemma=>kernel_rfl)
theorem Qk:kO prog 234 [.agg [.slice 0 0 (dU 4).length none,.slice 1 0 (bR 4).length none]] [.qK,.cells false 3 (tC (bR 4))] (.tuple [.map 2,.bool true]) ([.qK,.cells false 3 (tC (bR 4))]++[.map ((Rb (bR 4) 0).map sdE)]):=
 rJ (lv:=ad) (K:=60) (n:=10) aj (aI _) (aP _) (ax _) (by as_aux_lemma=>kernel_rfl)
theorem Ql:kO prog 234 [.agg [.slice 0 0 (dU 5).length none,.slice 1 0 (bR 5).length none]] [.qK,.cells false 3 (tC (bR 5))] (.tuple [.map 2,.bool true]) ([.qK,.cells false 3 (tC (bR 5))]++[.map ((Rb (bR 5) 0).map sdE)]):=
 rJ (lv:=ad) (K:=60) (n:=10) aj (aI _) (aP _) (ax _) (by as_aux_lemma=>kernel_rfl)
theorem Qm:kO prog 234 [.agg [.slice 0 0 (dU 6).length none,.slice 1 0 (bR 6).length none]] [.qK,.cells false 3 (tC (bR 6))] (.tuple [.map 2,.bool true]) ([.qK,.cells false 3 (tC (bR 6))]++[.map ((Rb (bR 6) 0).map sdE)]):=
 rJ (lv:=ad) (K:=60) (n:=10) aj (aI _) (aP _) (ax _) (by as_aux_lemma=>kernel_rfl)
theorem Qo:kO prog 234 [.agg [.slice 0 0 (dU 7).length none,.slice 1 0 (bR 7).length none]] [.qK,.cells false 3 (tC (bR 7))] (.tuple [.map 2,.bool true]) ([.qK,.cells false 3 (tC (bR 7))]++[.map ((Rb (bR 7) 0).map sdE)]):=
 rJ (lv:=ad) (K:=60) (n:=10) aj (aI _) (aP _) (ax _) (by as_aux_lemma=>kernel_rfl)
theorem Ga(k:Nat)(hk:k<8):kO prog 234 [.agg [.slice 0 0 (dU k).length none,.slice 1 0 (bR k).length none]] [.qK,.cells false 3 (tC (bR k))] (.tuple [.map 2,.bool true]) ([.qK,.cells false 3 (tC (bR k))]++[.map ((Rb (bR k) 0).map sdE)]):=by
 have Z:k=0∨k=1∨k=2∨k=3∨k=4∨k=5∨k=6∨k=7:=by omega
 rcases Z with rfl | rfl | rfl | rfl | rfl | rfl | rfl | rfl
 ·exact Qg
 ·exact Qh
 ·exact Qi
 ·exact Qj
 ·exact Qk
 ·exact Ql
 ·exact Qm
 ·exact Qo
theorem Oi(k:Nat)(hk:k<8):uQ (Rb (bR k) 0)=true∧B0 (sW (Rb (bR k) 0))=some ((lz k).map fun(n:Nat)=>(n:Int))∧(L3 (bR k)).length=(dU k).length∧lz k≠[]∧(∀c∈lz k,c<(dU k).length)∧bR k≠[]∧(bR k).length≤4∧(lz k).length≤6:=by
 have Z:k=0∨k=1∨k=2∨k=3∨k=4∨k=5∨k=6∨k=7:=by omega
 rcases Z with rfl | rfl | rfl | rfl | rfl | rfl | rfl | rfl<;>decide
theorem zV(s:afh):Whole s.P s.T (Rb s.T 0) (lz (s.kind%8)):=by
 have X:s.kind%8<8:=Nat.mod_lt _ (by omega);have h:=Vt s;obtain⟨f1,f2,f3,f4,f5,f6,f7,f8⟩:=Oi (s.kind%8) X;have Z:=afh.ago s;have u:=E6 (s.kind%8);unfold jd at h;simp only[Bool.and_eq_true,decide_eq_true_eq] at h;obtain⟨⟨⟨⟨V,U⟩,h3⟩,S⟩,R⟩:=h;refine⟨fun p Q=>?_,V,?_,f1,f2,by rw[Z];exact f3,⟨f4,by rw[Z];exact f5,fun i O=>?_,R⟩,fun t N=>?_,by omega,f6,by show(bR _).length≤800;omega,by omega⟩
 ·have:=List.all_eq_true.1 U p Q
  simp only[Bool.and_eq_true,decide_eq_true_eq] at this;obtain⟨⟨⟨M,L⟩,G⟩,F⟩:=this;have d1:dg 3 1 p.1:=⟨M,L⟩;have d2:dg 3 1 p.2:=⟨G,F⟩;exact⟨d1.mono (by omega) (by omega),d2.mono (by omega) (by omega)⟩
 ·unfold Bq
  rw[Z];exact Ga (s.kind%8) X
 ·have:=List.all_eq_true.1 S i (List.mem_range.2 O)
  simpa using this
 ·have:=List.all_eq_true.1 h3 t N
  unfold XJ;split at this
  ·rename_i p q r D C B
   exact⟨p,q,r,D,C,B,by simpa using this⟩
  ·cases this
theorem Fk(s:afh):kO prog 131 [.agg [.slice 0 0 s.P.length none,.slice 1 0 s.T.length none]] [.cells false 2 (pC s.P),.cells false 3 (tC s.T)] (.int .i64 0) [.cells false 2 (pC s.P),.cells false 3 (tC s.T)]:=
 Fj (zV s)
end Go.Proofs
