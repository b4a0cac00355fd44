/- See E54. -/
import Derived.Test.YthpgbelancmpjaaGreatDoorE30
set_option linter.all false
set_option maxRecDepth 100000
set_option maxHeartbeats 40000000
namespace Go.Proofs
open Go.Eng
open Tryz
def uE(a:Nat):AV×AV:=(.int .i64 (a:Int),.bool true)
def We(L:List Nat)(a:Nat):List Nat:=if a∈L then L else L++[a]
def Xr(L:List Nat)(t:Tr):List Nat:=We (We (We L t.1) t.2.1) t.2.2
def KZ(H:List Tr):List Nat:=H.foldl Xr []
theorem UW{α:Type}{l:List α}{i:Nat}{x:α}(h:l[i]? =some x):l.set i x=l:=by
 apply List.ext_getElem?;intro j;rw[List.getElem?_set];by_cases Z:i=j
 ·subst Z
  rw[if_pos rfl,if_pos (gL h),h]
 ·rw[if_neg Z]
theorem wZ(a:Nat):∀(L:List Nat) (i:Nat),(a∉L→jd (aV prog) 3 (.int .i64 (a:Int)) (L.map uE) i=some none)∧(a∈L→∃q,jd (aV prog) 3 (.int .i64 (a:Int)) (L.map uE) i=some (some (i+q,.bool true))∧L[q]? =some a)
 | [],i=>⟨fun _=>rfl,fun h=>by cases h⟩
 |b::L,i=>by
  have e:jU (aV prog) 20 3 (.int .i64 (a:Int)) (.int .i64 (b:Int))=some (decide ((a:Int)=(b:Int))):=by simp[jU]
  simp only[List.map_cons,jd,uE,e];have Z:=wZ a L (i+1);by_cases h:a=b
  ·subst h
   simp only[decide_true];exact⟨fun h=>absurd (List.mem_cons_self ..) h,fun _=>⟨0,rfl,rfl⟩⟩
  ·have X :¬((a:Int)=(b:Int)):=by omega
   simp only[X,decide_false];refine⟨fun V=>Z.1 (fun h2=>V (List.mem_cons_of_mem _ h2)),fun U=>?_⟩;rcases List.mem_cons.1 U with h2 | h2
   ·exact absurd h2 h
   ·obtain⟨q,S,R⟩:=Z.2 h2
    exact⟨q+1,by rw[S,show i+1+q=i+(q+1) by omega],by simpa using R⟩
theorem QL(M:Mem)(b:Nat)(L:List Nat)(a:Nat)(H:M[b]? =some (.map (L.map uE))):fl (aV prog) M 228 (.map b) (.int .i64 (a:Int)) (.bool true)=some (M.set b (.map ((We L a).map uE))):=by
 have Z:lr (aV prog) 20 3 (.int .i64 (a:Int))=true:=by simp[lr]
 unfold fl;rw[JB];simp only[H,Z,if_true];by_cases h:a∈L
 ·obtain⟨q,X,V⟩:=(wZ a L 0).2 h
  rw[X];have:We L a=L:=if_pos h;rw[this,Nat.zero_add];simp only[AV.ae4,if_true];rw[show((.int .i64 (a:Int),.bool true):AV×AV)=uE a from rfl,UW (l:=L.map uE) (i:=q) (x:=uE a) (by rw[List.getElem?_map,V];rfl)]
 ·rw[(wZ a L 0).1 h]
  have:We L a=L++[a]:=if_neg h;rw[this];simp[uE]
theorem SD(n:Nat):∀L:List Nat,(L.map uE).flatMap (fun e=>e.1.refs n++e.2.refs n)=[]
 | []=>rfl
 |p::N=>by simp[uE,AV.refs,SD n N]
variable{TS:List Tr}{n:Nat}
theorem Qx{t:Tr}(h:TS[n]? =some t):KZ (TS.take (n+1))=Xr (KZ (TS.take n)) t:=by rw[List.take_add_one,h];simp[KZ]
def vt(H:List P2)(TS:List Tr)(D:List (AV×AV))(L:List Nat):Mem:=[.cells false 2 (pC H),.cells false 3 (tC TS),msB H.length TS.length,.map D,.map (L.map uE)]
def A5(c:Code):List Nat:=if (ae c).contains 23 then [23] else [28]
variable{K:Nat}{b:Code}
theorem A6{O:y9}(H:List P2)(TS:List Tr)(D:List (AV×AV))(Yb:TS.length≤1000000000)(J:D.flatMap (fun e=>e.1.refs 5++e.2.refs 5)=[])(hK:TS.length<K+5){W:Code}(I:ah f100=[b,W]):
  ∃F:Env→Bool→Env,∀Z d,(ad Z 5=.map 4∧ad Z 21=.slice 1 0 TS.length none∧ad Z 22=.int .i64 TS.length∧ad Z 23=.int .i64 0∧ad Z 1=.ptr 2 0∧ad Z 3=.map 3)→
   aS (aV prog) A5 O (K+5) 55 2 true (.loop b) ⟨Z,vt H TS D [],d⟩=some (.exit 0,⟨F Z d,vt H TS D (KZ TS),d⟩)∧ad (F Z d) 1=.ptr 2 0∧ad (F Z d) 3=.map 3∧ad (F Z d) 5=.map 4:=by
 refine bw (L:=[23]) (by simp[ah,aG,f100] at I;rw[←I.1];rfl) (fun Z=>ad Z 5=.map 4∧ad Z 21=.slice 1 0 TS.length none∧ad Z 22=.int .i64 TS.length∧ad Z 23=.int .i64 0∧ad Z 1=.ptr 2 0∧ad Z 3=.map 3) (fun _ U =>ad U 1=.ptr 2 0∧ad U 3=.map 3∧ad U 5=.map 4) ?_;rintro Z d ⟨h5,Z5,h22,h23,h1,h3⟩;simp[ah,aG,f100] at I;obtain⟨I,-⟩:=I;have R:aw [23] (ae b) Z ((23,.int .i64 ((0:Nat):Int))::Z)=aw [23] (ae b) Z Z:=by simp[aw,h23]
 rw[←R];refine bO (α:=Nat) (fun n=>⟨aw [23] (ae b) Z ((23,.int .i64 (n:Int))::Z),vt H TS D (KZ (TS.take n)),d⟩) (fun n=>TS.length-n) (fun n=>n≤TS.length) (.exit 0) _ d _ (by simp) ?_ (K+5) 0 (by omega) (by omega);intro n Y9;clear R;subst I;by_cases S:n<TS.length
 ·left
  obtain⟨t,N⟩:∃q,TS[n]? =some q:=⟨TS[n],List.getElem?_eq_getElem S⟩
  obtain⟨M,o⟩:=SZ N;have X:=Qx N;obtain⟨G,C,B⟩:=t;simp only[Xr] at M X;have w1:IntKind.i64.wrap ((n:Int)+1)=((n+1:Nat):Int):=by rw[af];omega
  obtain⟨m,j⟩:=xE (n+1);rw[←j] at w1 X;obtain⟨L,A⟩:=xE (KZ (TS.take n));rw[←A] at X;rw[←A];have Y:IntKind.i64.wrap 1=1:=rfl;have v2:IntKind.i64.wrap 2=2:=rfl;have v3:IntKind.i64.wrap 3=3:=rfl;have v2' :IntKind.i64.wrap (1+1)=2:=rfl;have v3' :IntKind.i64.wrap (2+1)=3:=rfl;have u:∀(V :List Nat) (a:Nat),fl (aV prog) [.cells false 2 (pC H),.cells false 3 (tC TS),.cells true 0 [.slice 0 0 H.length none,.slice 1 0 TS.length none],.map D,.map (V.map uE),.cells true 0 [.int .i64 (G:Int),.int .i64 (C:Int),.int .i64 (B:Int)]] 228 (.map 4) (.int .i64 (a:Int)) (.bool true)=
    some [.cells false 2 (pC H),.cells false 3 (tC TS),.cells true 0 [.slice 0 0 H.length none,.slice 1 0 TS.length none],.map D,.map ((We V a).map uE),.cells true 0 [.int .i64 (G:Int),.int .i64 (C:Int),.int .i64 (B:Int)]]:=fun V a=>QL _ 4 V a rfl
  refine⟨m,?_⟩;simp[vt,h5,Z5,h22,S,M,o,bh,fy,Y,v2,v3,A5,u,J,X,msB,uF,rQ,SD,w1];omega
 ·right
  have e:TS.take n=TS:=List.take_of_length_le (by omega);rw[e];have XM :¬(n:Int)<TS.length:=by omega
  simp[h22,h1,h3,h5,S]
theorem VV(f:Nat→Option Nat)(H:List Sd):(H.map sdE).map (fun e=>(e.1.ren f,e.2.ren f))=H.map sdE:=by rw[List.map_map];exact List.map_congr_left fun s _=>Nq f s
theorem UU(f:Nat→Option Nat)(H:List Sd):H.map ((fun(e:AV×AV)=>(e.1.ren f,e.2.ren f))∘sdE)=H.map sdE:=
 List.map_congr_left fun s _=>Nq f s
def AQ(I:List P2)(TS:List Tr)(H:List Sd):Prop:=
 kO prog 180 [.agg [.slice 0 0 I.length none,.slice 1 0 TS.length none]] [.qK,.cells false 3 (tC TS)] (.tuple [.map 2,.bool true]) ([.qK,.cells false 3 (tC TS)]++[.map (H.map sdE)])
structure Tryz.Whole (PS:List P2)(TS:List Tr)(sds:List Sd)(cyc:List Nat):Prop where
 dg:∀p∈PS,pDg 200 p
 nodup:PS.Nodup
 ag0:AQ PS TS sds
 outer:uD sds=true
 cy:Bm (sO sds)=some (cyc.map fun(n:Nat)=>(n:Int))
 used:(KZ TS).length=PS.length
 once:Sq PS cyc
 tr:∀t∈TS,Xo PS t
 len:PS.length≤400
 ag1:TS≠[]
 agU:TS.length≤800
 ag2:cyc.length≤1000000
open Classical in
noncomputable def zP(J:List P2)(TS:List Tr)(I:List Sd)(H:List Nat):y9:=fun c Z M=>match c,Z with
 |.fn 180,[.agg [.slice b 0 n none,.slice c 0 k none]]=>if n=J.length∧k=TS.length∧b<M.length∧(∃o,M[c]? =some (.cells o 3 (tC TS))) then some ⟨.tuple [.map M.length,.bool true],none,[.map (I.map sdE)]⟩ else none
 |.fn 181,[.agg [.slice b 0 _ none,.slice c 0 _ none],.map q]=>if b<M.length∧c<M.length∧P9 M q=some (I.map sdE) then some ⟨.tuple [.slice M.length 0 H.length none,.bool true],none,[.cells true 1 (cZ H)]⟩ else none
 |.fn 182,[.agg [.slice b 0 n none,.slice c 0 _ none],.slice q 0 l none]=>if n=J.length∧l=H.length∧c<M.length∧(∃o,M[b]? =some (.cells o 2 (pC J)))∧(∃o,M[q]? =some (.cells o 1 (cZ H))) then some ⟨.bool true,none,[]⟩ else none
 |_,_=>none
theorem JU:∀Z:List Nat,AV.aej (cZ Z)=true
 | []=>rfl
 |c::l=>by have:=JU l;simp only[cZ] at this;simp[cZ,AV.aej,AV.closed,this]
theorem Xd(H:List Nat):iZ (H.map fun(n:Nat)=>(n:Int))=cZ H:=by simp[iZ,cZ]
theorem fF{M:Mem}{b:Nat}{s:aek}(h:M[b]? =some s):b<M.length:=gL h
variable{PS:List P2}{cyc:List Nat}{sds:List Sd}
section
variable (hw:Whole PS TS sds cyc)
include hw
theorem MH:qS prog (zP PS TS sds cyc):=by
 refine cq fun c V M r h=>?_
 unfold zP at h;split at h
 ·rename_i b n c k
  split at h
  ·rename_i U
   obtain⟨rfl,rfl,O,o,X⟩:=U;cases h;refine aC ?_;have:=kO.frame (M:=M) (new:=[.map (sds.map sdE)]) [b,c] (m:=[.qK,.cells false 3 (tC TS)]) rfl (by
    intro k S;simp only[lM] at S;rcases S with rfl | rfl
    ·exact O
    ·exact fF X) (by rfl) (fun i s Z=>by
    match i with
    |0=>simp at Z;subst Z;trivial
    |1=>simp at Z;subst Z;exact cP (fR TS) X (List.take_length)
    |i+2=>simp at Z) rfl hw.ag0
   simpa [AV.aez,AV.ren,fq,aek.ren,VV,UU] using this
  ·cases h
 ·rename_i b n c k q
  split at h
  ·rename_i U
   obtain⟨O,N,X⟩:=U;cases h;refine aC ?_;have:=yc M sds (cyc.map fun(n:Nat)=>(n:Int)) q b c n k O N X hw.outer hw.cy;rw[Xd,List.length_map] at this;exact this
  ·cases h
 ·rename_i b n c k q l
  split at h
  ·rename_i U
   obtain⟨rfl,rfl,N,⟨o,X⟩,⟨L,R⟩⟩:=U;cases h;refine aC ?_;have:=kO.frame (M:=M) (new:=[]) (args:=[.agg [.slice 0 0 PS.length none,.slice 1 0 k none],.slice 2 0 cyc.length none]) [b,c,q] (m:=[.cells false 2 (pC PS),.qK,.cells false 1 (cZ cyc)]) rfl (by
    intro k S;simp only[lM] at S;rcases S with rfl | rfl | rfl
    ·exact fF X
    ·exact N
    ·exact fF R) (by rfl) (fun i s Z=>by
    match i with
    |0=>simp at Z;subst Z;exact cP (ei PS) X (List.take_length)
    |1=>simp at Z;subst Z;trivial
    |2=>simp at Z;subst Z;exact cP (JU cyc) R (List.take_length)
    |i+3=>simp at Z) rfl (by simpa using Lv PS k cyc hw.dg hw.once hw.ag2)
   simpa [AV.aez,AV.ren,fq] using this
  ·cases h
 ·cases h
theorem GP:
  kO prog 100 [.agg [.slice 0 0 PS.length none,.slice 1 0 TS.length none]] [.cells false 2 (pC PS),.cells false 3 (tC TS)] (.bool true) [.cells false 2 (pC PS),.cells false 3 (tC TS)]:=by
 have L:aT prog 100=some f100:=by kernel_rfl
 have D:=hw.len;have C:=hw.agU;obtain⟨b,N,V⟩:∃b N,ah f100=[b,N]:=⟨_,_,rfl⟩
 obtain⟨K,B⟩:=xE TS.length;obtain⟨F,X⟩:=A6 (O:=zP PS TS sds cyc) (K:=K) PS TS (sds.map sdE) (by omega) (rI 5 sds) (by omega) V;simp[ah,aG,f100] at V;obtain⟨rfl,rfl⟩:=V;have M:=fun Z d h=>(X Z d h).1
 have U:=fun Z d h=>(X Z d h).2.1
 have S:=fun Z d h=>(X Z d h).2.2.1
 have R:=fun Z d h=>(X Z d h).2.2.2
 clear X;have G:=hw.used;refine ca (lv:=A5) (K:=(K+5)) (MH hw) ?_;simp only[vt,List.map_nil,msB] at M;simp[aa,L,f100,M,U,S,R,zP,P9,G]
theorem Ml:qS prog (oD PS TS):=by
 refine cq fun c Z M r h=>?_
 unfold oD at h;split at h
 ·rename_i b n c k
  split at h
  ·rename_i R
   obtain⟨rfl,rfl,⟨o,U⟩,⟨O,X⟩⟩:=R;cases h;refine aC ?_;have:=kO.frame (M:=M) (new:=[]) (args:=[.agg [.slice 0 0 PS.length none,.slice 1 0 TS.length none]]) [b,c] (m:=[.cells false 2 (pC PS),.cells false 3 (tC TS)]) rfl (by
    intro k S;simp only[lM] at S;rcases S with rfl | rfl
    ·exact fF U
    ·exact fF X) (by rfl) (fun i s V=>by
    match i with
    |0=>simp at V;subst V;exact cP (ei PS) U (List.take_length)
    |1=>simp at V;subst V;exact cP (fR TS) X (List.take_length)
    |i+2=>simp at V) rfl (by simpa using GP hw)
   simpa [AV.aez,AV.ren,fq] using this
  ·cases h
 ·exact eW AK h
theorem Et:
  kO prog 46 [.agg [.slice 0 0 PS.length none,.slice 1 0 TS.length none]] [.cells false 2 (pC PS),.cells false 3 (tC TS)] (.int .i64 0) [.cells false 2 (pC PS),.cells false 3 (tC TS)]:=by
 have B:aT prog 46=some f46:=by kernel_rfl
 have j:=hw.len;have Y:=hw.agU;have A:0<TS.length:=by have:=hw.ag1;cases TS with | nil=>exact absurd rfl this | cons a l=>simp
 obtain⟨N,M,L,G,D,V⟩:∃N M L G D,ah f46=[N,M,L,G,D]:=⟨_,_,_,_,_,rfl⟩
 obtain⟨K,W⟩:=xE (PS.length+TS.length);obtain⟨F,U⟩:=xd (K:=K+5) PS TS hw.dg hw.nodup (by omega) (by omega) V;obtain⟨J,S⟩:=xe (K:=K) PS TS (PS.map pmE) hw.dg hw.tr (by omega) (by omega) (Gd 4 PS) (by omega) V;simp[ah,aG,f46] at V;obtain⟨rfl,rfl,rfl,rfl,rfl⟩:=V;have C:=fun Z d h=>(U Z d h).1
 have X:=fun Z d h=>(S Z d h).1
 have R:=fun Z d h=>(U Z d h).2
 have O:=fun Z d h=>(S Z d h).2
 clear U S;have u:¬(800:Int)<TS.length:=by omega
 have o:¬(400:Int)<PS.length:=by omega
 have I:¬800<TS.length:=by omega
 have H:¬400<PS.length:=by omega
 have m:¬TS.length=0:=by omega
 have n6:¬(TS.length:Int)=0:=by omega
 refine ca (lv:=vf) (K:=(K+5)) (Ml hw) ?_;simp only[msB] at C X;simp[aa,B,f46,C,X,R,O,oD,u,o,m]
end
noncomputable def zO(f:FuncId)(args:List AV):Option AV:=
 match f,args with
 |88,[.int .i64 n,.int .i64 d]=>if 0<d∧dG n=true∧dG d=true then some (.tuple [.str (aj (mkRat n d.toNat)),.int .i64 0]) else none
 |_,_=>none
theorem Pe:qS prog (ag zO):=bM fun f Z v h mem=>by
 unfold zO at h;split at h
 ·rename_i n d
  split at h
  ·rename_i X
   cases h;have:=GR n d.toNat (by omega) X.2.1 (by rw[Int.toNat_of_nonneg (by omega)];exact X.2.2) mem;rw[Int.toNat_of_nonneg (by omega)] at this;exact this
  ·cases h
 ·cases h
theorem oO{n:Int}(h0: -1000000≤n)(h1:n≤1000000):dG n=true:=by unfold dG;simp;omega
theorem fY{n:Int}(h0: -1000000≤n)(h1:n≤1000000):IntKind.i64.wrap n=n:=by rw[af]
theorem GK(s:aeo)(hs:s.Ok)(x y:Int)(H: -128≤x)(I:x≤127)(J: -128≤y)(W:y≤127)(k:Nat)(hk:k=1∨k=2)(M:Mem):
  kO prog 34 [s.av,.agg [.int .i8 x,.int .i8 y],.int .i64 (k:Int)] M (pA (s.pt k x y)) M:=by
 have R:aT prog 34=some f34:=by kernel_rfl
 obtain⟨kd,O,N,L⟩:=s;have B:=Qu O;have A:=Qu N;unfold aeo.av aeo.pt;simp only;obtain⟨u,Z⟩:=xE (O.tmod 8);obtain⟨v,X⟩:=xE (N.tmod 8);rw[←Z] at B ⊢;rw[←X] at A ⊢;refine ak Pe ?_ M;have G:IntKind.i64.wrap x=x:=fY (by omega) (by omega);have F:IntKind.i64.wrap y=y:=fY (by omega) (by omega);have D:IntKind.i64.wrap u=u:=fY (by omega) (by omega);have C:IntKind.i64.wrap v=v:=fY (by omega) (by omega);rcases hk with rfl | rfl
 ·have V:IntKind.i64.wrap (x+u)=x+u:=fY (by omega) (by omega)
  have U:IntKind.i64.wrap (y+v)=y+v:=fY (by omega) (by omega);have o:IntKind.i64.wrap 1=1:=rfl;have S:IntKind.i64.wrap 2=2:=rfl;have f1:dG (x+u)=true:=oO (by omega) (by omega);have f2:dG (y+v)=true:=oO (by omega) (by omega);have f3:dG 1=true:=rfl;have f4:dG 2=true:=rfl;cases L<;>simp[aa,R,f34,ag,zO,←Z,←X,G,F,D,C,V,U,o,S,f1,f2,f3,f4,bJ,aD,pA]
 ·have V:IntKind.i64.wrap (x+u*2)=x+u*2:=fY (by omega) (by omega)
  have U:IntKind.i64.wrap (y+v*2)=y+v*2:=fY (by omega) (by omega);have m:IntKind.i64.wrap (u*2)=u*2:=fY (by omega) (by omega);have j:IntKind.i64.wrap (v*2)=v*2:=fY (by omega) (by omega);have S:IntKind.i64.wrap 2=2:=rfl;have Y:IntKind.i64.wrap 4=4:=rfl;have f1:dG (x+u*2)=true:=oO (by omega) (by omega);have f2:dG (y+v*2)=true:=oO (by omega) (by omega);have f3:dG 2=true:=rfl;have f4:dG 4=true:=rfl;cases L<;>simp[aa,R,f34,ag,zO,←Z,←X,G,F,D,C,V,U,m,j,S,Y,f1,f2,f3,f4,bJ,aD,pA]
theorem Er(k:Nat)(hk:k<256):kO prog 33 [.int .u8 (k:Int)] [] (.tuple [.slice 0 0 (dI (k%8)).length none,.slice 1 0 (bI (k%8)).length none]) [.cells true 2 (iP (dI (k%8))),.cells true 3 (tC (bI (k%8)))]:=by
 have S:aT prog 33=some f33:=by kernel_rfl
 have X:(k:Int).tmod 8=((k%8:Nat):Int):=rfl;have V:k%8<8:=Nat.mod_lt _ (by omega);obtain⟨j,U⟩:=xE (k%8);rw[←U] at X V ⊢;have h:aa (aV prog) (fun _=>[]) (aT prog) cu 1 33 [.int .u8 (k:Int)] []=some ⟨.tuple [.slice 0 0 (dI j).length none,.slice 1 0 (bI j).length none],none,[.cells true 2 (iP (dI j)),.cells true 3 (tC (bI j))]⟩:=by
  have Z:j=0∨j=1∨j=2∨j=3∨j=4∨j=5∨j=6∨j=7:=by omega
  clear V U;rcases Z with rfl | rfl | rfl | rfl | rfl | rfl | rfl | rfl<;>simp[aa,S,f33,X,dI,bI,sqI,iP,tC,bJ]<;>exact⟨rfl,rfl⟩
 have:=(aq ai (aO _) (az _) (aR _) h).1;simpa [aee.mem] using this
theorem GL(k:Nat)(hk:k<256)(M:Mem):kO prog 33 [.int .u8 (k:Int)] M (.tuple [.slice M.length 0 (dI (k%8)).length none,.slice (M.length+1) 0 (bI (k%8)).length none]) (M++[.cells true 2 (iP (dI (k%8))),.cells true 3 (tC (bI (k%8)))]):=by have:=kO.frame (M:=M) (new:=[.cells true 2 (iP (dI (k%8))),.cells true 3 (tC (bI (k%8)))]) (args:=[.int .u8 (k:Int)]) [] (m:=[]) rfl (by simp) (by rfl) (fun i s Z=>by simp at Z) rfl (Er k hk);simpa [AV.ren,AV.aez,fq,aek.ren,RT,Ee] using this
noncomputable def oC(s:aeo):y9:=fun c Z M=>match c,Z with
 |.fn 33,[.int .u8 k]=>if k=(s.kind:Int) then some ⟨.tuple [.slice M.length 0 (dI (s.kind%8)).length none,.slice (M.length+1) 0 (bI (s.kind%8)).length none],none,[.cells true 2 (iP (dI (s.kind%8))),.cells true 3 (tC (bI (s.kind%8)))]⟩ else none
 |.fn 34,[.agg [.int .u8 k,.int .i8 sx,.int .i8 sy,.bool h],.agg [.int .i8 x,.int .i8 y],.int .i64 n]=>if k=(s.kind:Int)∧sx=s.sx∧sy=s.sy∧h=s.half∧ -128≤x∧x≤127∧ -128≤y∧y≤127∧n=1 then some ⟨pA (s.pt 1 x y),none,[]⟩ else none
 |_,_=>none
theorem Mi(s:aeo)(H:s.Ok):qS prog (oC s):=by
 refine cq fun c X M r h=>?_
 unfold oC at h;split at h
 ·split at h
  ·rename_i Z
   subst Z;cases h;exact aC (GL s.kind H.kind M)
  ·cases h
 ·split at h
  ·rename_i Z
   obtain⟨rfl,rfl,rfl,rfl,V,U,h3,S,rfl⟩:=Z;cases h;refine aC ?_;rw[List.append_nil];exact GK s H _ _ V U h3 S 1 (.inl rfl) M
  ·cases h
 ·cases h
def SW(L:List (Int×Int)):Prop:=∀p∈L,0≤p.1∧p.1≤6∧0≤p.2∧p.2≤6
theorem KT(k:Nat)(hk:k<8):SW (dI k):=by
 have Z:k=0∨k=1∨k=2∨k=3∨k=4∨k=5∨k=6∨k=7:=by omega
 rcases Z with rfl | rfl | rfl | rfl | rfl | rfl | rfl | rfl<;>(unfold SW;decide)
def WL(n:Nat):AV:=match n with
 |0=>.qF
 |n+1=>.slice 5 0 (n+1) none
def M5(s:aeo)(H:List (Int×Int))(TS:List Tr)(n:Nat):Mem:=
 [.cells true 0 [.int .u8 s.kind,.int .i8 s.sx,.int .i8 s.sy,.bool s.half],.cells true 0 [.qF,.qF],.cells true 2 (iP H),.cells true 3 (tC TS),.cells true 0 [WL n,.slice 3 0 TS.length none]]++
  (match n with
  |0=>[]
  |n+1=>[.cells true 2 (pC ((H.take (n+1)).map fun p=>s.pt 1 p.1 p.2))])
theorem BB{s:aeo}{H:List (Int×Int)}(h:0<n):M5 s H TS n=
  [.cells true 0 [.int .u8 s.kind,.int .i8 s.sx,.int .i8 s.sy,.bool s.half],.cells true 0 [.qF,.qF],.cells true 2 (iP H),.cells true 3 (tC TS),.cells true 0 [.slice 5 0 n none,.slice 3 0 TS.length none],.cells true 2 (pC ((H.take n).map fun p=>s.pt 1 p.1 p.2))]:=by
 cases n with
 |zero=>omega
 |succ n=>rfl
theorem AI(s:aeo)(H:List (Int×Int))(TS:List Tr)(I:SW H)(hl:H.length≤1000000)(hK:H.length<K)(hb:ah f8=[b]):
  ∃F:Env→Env,∀Z,(ad Z 1=.ptr 0 0∧ad Z 3=.slice 2 0 H.length none∧ad Z 5=.ptr 4 0∧ad Z 6=.int .i64 0∧ad Z 2=.ptr 1 0)→
   aS (aV prog) (fun _=>[6,6]) (oC s) K 42 0 true (.loop b) ⟨Z,M5 s H TS 0,false⟩=some (.exit 0,⟨F Z,M5 s H TS H.length,decide (0<H.length)⟩)∧ad (F Z) 5=.ptr 4 0∧ad (F Z) 2=.ptr 1 0:=by
 refine uy (L:=[6,6]) rfl false _ (fun Z=>ad Z 1=.ptr 0 0∧ad Z 3=.slice 2 0 H.length none∧ad Z 5=.ptr 4 0∧ad Z 6=.int .i64 0∧ad Z 2=.ptr 1 0) (fun _ AC =>ad AC 5=.ptr 4 0∧ad AC 2=.ptr 1 0) ?_;rintro Z ⟨h1,h3,h5,h6,h2⟩;obtain⟨O,Y⟩:∃O,aJ f8=[O]:=⟨_,rfl⟩
 have UV:=kN Y (l:=[0,1,0,0,0,24,56,120,248,0,0,1536,3584,7680,15872,32760,65532,131068,262143,524287,1048575]) (by kernel_rfl);have N:JO [0,1,0,0,0,24,56,120,248,0,0,1536,3584,7680,15872,32760,65532,131068,262143,524287,1048575] 21 17=true:=by decide
 have M:JO [0,1,0,0,0,24,56,120,248,0,0,1536,3584,7680,15872,32760,65532,131068,262143,524287,1048575] 21 18=true:=by decide
 have G:JO [0,1,0,0,0,24,56,120,248,0,0,1536,3584,7680,15872,32760,65532,131068,262143,524287,1048575] 21 20=true:=by decide
 have D:fc [0,1,0,0,0,24,56,120,248,0,0,1536,3584,7680,15872,32760,65532,131068,262143,524287,1048575] 18=true:=by decide
 have C:fc [0,1,0,0,0,24,56,120,248,0,0,1536,3584,7680,15872,32760,65532,131068,262143,524287,1048575] 20=true:=by decide
 simp[aJ,bR,f8] at Y;simp[ah,aG,f8] at hb;have o:aw [6,6] (ae b) Z ((6,.int .i64 ((0:Nat):Int))::Z)=aw [6,6] (ae b) Z Z:=by simp[aw,h6]
 rw[←o];refine bO (α:=Nat) (fun n=>⟨aw [6,6] (ae b) Z ((6,.int .i64 (n:Int))::Z),M5 s H TS n,decide (0<n)⟩) (fun n=>H.length-n) (fun n=>n≤H.length) (.exit 0) _ _ _ (by simp) ?_ K 0 (by omega) (by omega);intro n Y9;clear o;subst hb;subst Y;by_cases W:n<H.length
 ·left
  obtain⟨p,J⟩:∃q,H[n]? =some q:=⟨H[n],List.getElem?_eq_getElem W⟩
  obtain⟨q1,q2,q3⟩:=Xi J;obtain⟨x0,x1,y0,y1⟩:=I p (List.mem_of_getElem? J);obtain⟨S,R⟩:=p;simp only at q1 q2 x0 x1 y0 y1;have U:(H.take (n+1)).map (fun p=>s.pt 1 p.1 p.2)=(H.take n).map (fun p=>s.pt 1 p.1 p.2)++[s.pt 1 S R]:=by rw[List.take_add_one,J];simp
  have v1:IntKind.i8.wrap S=S:=Tf (by omega) (by omega);have v2:IntKind.i8.wrap R=R:=Tf (by omega) (by omega);have c1: -128≤S:=by omega
  have c2:S≤127:=by omega
  have c3: -128≤R:=by omega
  have c4:R≤127:=by omega
  have w1:IntKind.i64.wrap ((n:Int)+1)=((n+1:Nat):Int):=by rw[af];omega
  obtain⟨P,j⟩:=xE ((H.take n).map (fun p=>s.pt 1 p.1 p.2));have B:P.length=n:=by rw[j,List.length_map,List.length_take];omega
  obtain⟨z,hz⟩:=xE (s.pt 1 S R);rw[←j,←hz] at U;have X:pC (P++[z])=pC P++[.str (aj z.1),.str (aj z.2)]:=by rw[KA];rfl
  have A:=BY P;rw[B] at A;obtain⟨m,hm⟩:=xE (n+1);refine⟨m,?_⟩;by_cases o:n=0
  ·subst o
   have Yp:m=1:=by omega
   subst Yp;have hP0:P=[]:=List.eq_nil_of_length_eq_zero B;rw[hP0] at U X;simp at U X;have w0:IntKind.i64.wrap 1=1:=rfl;simp[M5,WL,h1,h3,h5,W,q1,q2,v1,v2,c1,c2,c3,c4,w0,oC,←hz,pA,-aK,Cg UV,wk,BK,N5,cM,N,M,G,D,C,U,X,MZ,rQ,RT,Ee,WR,bJ,Nat.testBit];omega
  ·have V:0<n:=by omega
   rw[←hm] at w1 U;have u:0<m:=by omega
   have hd1:decide (0<n)=true:=by simpa using V
   rw[BB V,BB u,hd1,←j,U,X];clear j U X;have g1:m*32≤140737488355328:=by omega
   have g2:n≤140737488355327:=by omega
   have g5:(M5 s H TS 0).length=5:=rfl;have g4:m≤140737488355328:=by omega
   have g3:(pC P).take (n*2)=pC P:=List.take_of_length_le (by omega);simp[h1,h3,h5,W,q1,q2,v1,v2,c1,c2,c3,c4,w1,oC,←hz,pA,-aK,Cg UV,wk,BK,N5,cM,N,M,G,D,C,A,u,←hm,g1,g4,g3,g5,WS,MZ,rQ,uF,RT,Ee,Ob,bJ,Nat.testBit];omega
 ·right
  have e:n=H.length:=by omega
  subst e;simp[h3,h5,h2]
theorem Qm(k:Nat):0<(dI k).length:=by unfold dI;split<;>simp[sqI]
theorem Ed(k:Nat):(dI k).length≤6:=by unfold dI;split<;>simp[sqI]
theorem aeo.afu(s:aeo):s.P.length=(dI (s.kind%8)).length:=by simp[aeo.P]
theorem GJ(s:aeo)(H:s.Ok):kO prog 8 [s.av] [] (.agg [.slice 0 0 s.P.length none,.slice 1 0 s.T.length none]) [.cells true 2 (pC s.P),.cells true 3 (tC s.T)]:=by
 have G:aT prog 8=some f8:=by kernel_rfl
 have X:=Qm (s.kind%8);have B:=Ed (s.kind%8);obtain⟨b,N⟩:∃b,ah f8=[b]:=⟨_,rfl⟩
 obtain⟨F,U⟩:=AI (K:=10) s (dI (s.kind%8)) (bI (s.kind%8)) (KT _ (Nat.mod_lt _ (by omega))) (by omega) (by omega) N;simp[ah,aG,f8] at N;subst N;have D:decide (0<(dI (s.kind%8)).length)=true:=by simpa using X
 rw[BB X,D,List.take_length] at U;have M:=fun S h=>(U S h).1
 have R:=fun S h=>(U S h).2.1
 have O:=fun S h=>(U S h).2.2
 clear U;have C:M5 s (dI (s.kind%8)) (bI (s.kind%8)) 0=[.cells true 0 [.int .u8 s.kind,.int .i8 s.sx,.int .i8 s.sy,.bool s.half],.cells true 0 [.qF,.qF],.cells true 2 (iP (dI (s.kind%8))),.cells true 3 (tC (bI (s.kind%8))),.cells true 0 [.qF,.slice 3 0 (bI (s.kind%8)).length none]]:=rfl;rw[C] at M;rw[aeo.afu];unfold aeo.P aeo.T;obtain⟨L,Z⟩:=xE (dI (s.kind%8));obtain⟨ST,V⟩:=xE (bI (s.kind%8));rw[←Z,←V] at M;rw[←Z] at R O;rw[←Z,←V];have h:aa (aV prog) (fun _=>[6,6]) (aT prog) (oC s) 10 8 [s.av] []=some ⟨.agg [.slice 0 0 L.length none,.slice 1 0 ST.length none],some [],[.cells true 2 (pC (L.map fun p=>s.pt 1 p.1 p.2)),.cells true 3 (tC ST)]⟩:=by simp[aa,G,f8,aeo.av,M,R,O,oC,←Z,←V,rQ,uF,Ee,Ob,bJ,aD];exact⟨rfl,rfl⟩
 have:=(aq ai (aO _) (Mi s H) (aR _) h).1;simpa [aee.mem] using this
theorem Lt(s:aeo)(H:s.Ok)(M:Mem):kO prog 8 [s.av] M (.agg [.slice M.length 0 s.P.length none,.slice (M.length+1) 0 s.T.length none]) (M++[.cells true 2 (pC s.P),.cells true 3 (tC s.T)]):=by have:=kO.frame (M:=M) (new:=[.cells true 2 (pC s.P),.cells true 3 (tC s.T)]) (args:=[s.av]) [] (m:=[]) rfl (by simp) (by rfl) (fun i s H=>by simp at H) rfl (GJ s H);simpa [AV.ren,AV.aez,fq,aek.ren,Ob,Ee,aeo.av] using this
def ig(PS:List P2)(TS:List Tr)(cyc:List Nat):Bool:=
 decide PS.Nodup&&(PS.all fun p=>decide (p.1.num.natAbs<1000)&&decide (p.1.den<10)&&decide (p.2.num.natAbs<1000)&&decide (p.2.den<10))&&
  (TS.all fun t=>match PS[t.1]?,PS[t.2.1]?,PS[t.2.2]? with
   |some p,some q,some r=>decide (0<ky (cN p q r))
   |_,_,_=>false)&&
  ((List.range cyc.length).all fun i=>decide (0≤ky (cN (B0 PS cyc i) (B0 PS cyc (i+1)) (B0 PS cyc (i+2)))))&&decide (kX PS cyc cyc.length=1)
def UP(k:Nat)(u v:Int)(h:Bool):List P2:=
 (dI k).map fun p=>(mkRat (p.1+u*(1:Nat)) ((if h then 2 else 1)*1),mkRat (p.2+v*(1:Nat)) ((if h then 2 else 1)*1))
theorem VZ:((List.range 15).all fun a=>(List.range 15).all fun b=>[false,true].all fun h=>ig (UP 0 ((a:Int)-7) ((b:Int)-7) h) (bI 0) (kZ 0))=true:=by kernel_rfl
theorem V0:((List.range 15).all fun a=>(List.range 15).all fun b=>[false,true].all fun h=>ig (UP 1 ((a:Int)-7) ((b:Int)-7) h) (bI 1) (kZ 1))=true:=by kernel_rfl
theorem V2:((List.range 15).all fun a=>(List.range 15).all fun b=>[false,true].all fun h=>ig (UP 2 ((a:Int)-7) ((b:Int)-7) h) (bI 2) (kZ 2))=true:=by kernel_rfl
theorem V4:((List.range 15).all fun a=>(List.range 15).all fun b=>[false,true].all fun h=>ig (UP 3 ((a:Int)-7) ((b:Int)-7) h) (bI 3) (kZ 3))=true:=by kernel_rfl
theorem V5:((List.range 15).all fun a=>(List.range 15).all fun b=>[false,true].all fun h=>ig (UP 4 ((a:Int)-7) ((b:Int)-7) h) (bI 4) (kZ 4))=true:=by kernel_rfl
theorem V6:((List.range 15).all fun a=>(List.range 15).all fun b=>[false,true].all fun h=>ig (UP 5 ((a:Int)-7) ((b:Int)-7) h) (bI 5) (kZ 5))=true:=by kernel_rfl
theorem V7:((List.range 15).all fun a=>(List.range 15).all fun b=>[false,true].all fun h=>ig (UP 6 ((a:Int)-7) ((b:Int)-7) h) (bI 6) (kZ 6))=true:=by kernel_rfl
theorem V8:((List.range 15).all fun a=>(List.range 15).all fun b=>[false,true].all fun h=>ig (UP 7 ((a:Int)-7) ((b:Int)-7) h) (bI 7) (kZ 7))=true:=by kernel_rfl
theorem Qo(k:Nat)(hk:k<8):((List.range 15).all fun a=>(List.range 15).all fun b=>[false,true].all fun h=>ig (UP k ((a:Int)-7) ((b:Int)-7) h) (bI k) (kZ k))=true:=by
 have Z:k=0∨k=1∨k=2∨k=3∨k=4∨k=5∨k=6∨k=7:=by omega
 rcases Z with rfl | rfl | rfl | rfl | rfl | rfl | rfl | rfl
 ·exact VZ
 ·exact V0
 ·exact V2
 ·exact V4
 ·exact V5
 ·exact V6
 ·exact V7
 ·exact V8
theorem Ol(s:aeo):ig s.P s.T (kZ (s.kind%8))=true:=by
 have Z:s.kind%8<8:=Nat.mod_lt _ (by omega);have h:=Qo (s.kind%8) Z;obtain⟨R,O⟩:=Qu s.sx;obtain⟨v0,N⟩:=Qu s.sy;have X:=List.all_eq_true.1 h (s.sx.tmod 8+7).toNat (List.mem_range.2 (by omega));have V:=List.all_eq_true.1 X (s.sy.tmod 8+7).toNat (List.mem_range.2 (by omega));have h3:=List.all_eq_true.1 V s.half (by cases s.half<;>simp);have U:(((s.sx.tmod 8+7).toNat:Nat):Int)-7=s.sx.tmod 8:=by omega
 have S:(((s.sy.tmod 8+7).toNat:Nat):Int)-7=s.sy.tmod 8:=by omega
 rw[U,S] at h3;exact h3
def Ql:List Tr→Int→List Sd
 | [],_=>[]
 |t::l,i=>((t.1,t.2.1),i)::((t.2.1,t.2.2),i)::((t.2.2,t.1),i)::Ql l (i+1)
theorem Pf:kO prog 180 [.agg [.slice 0 0 (dI 0).length none,.slice 1 0 (bI 0).length none]] [.qK,.cells false 3 (tC (bI 0))] (.tuple [.map 2,.bool true]) ([.qK,.cells false 3 (tC (bI 0))]++[.map ((Ql (bI 0) 0).map sdE)]):=
 rz (lv:=ae) (K:=60) (n:=10) ai (aO _) (aR _) (az _) (by as_aux_lemma=>kernel_rfl)
theorem Pg:kO prog 180 [.agg [.slice 0 0 (dI 1).length none,.slice 1 0 (bI 1).length none]] [.qK,.cells false 3 (tC (bI 1))] (.tuple [.map 2,.bool true]) ([.qK,.cells false 3 (tC (bI 1))]++[.map ((Ql (bI 1) 0).map sdE)]):=
 rz (lv:=ae) (K:=60) (n:=10) ai (aO _) (aR _) (az _) (by as_aux_lemma=>kernel_rfl)
theorem Ph:kO prog 180 [.agg [.slice 0 0 (dI 2).length none,.slice 1 0 (bI 2).length none]] [.qK,.cells false 3 (tC (bI 2))] (.tuple [.map 2,.bool true]) ([.qK,.cells false 3 (tC (bI 2))]++[.map ((Ql (bI 2) 0).map sdE)]):=
 rz (lv:=ae) (K:=60) (n:=10) ai (aO _) (aR _) (az _) (by as_aux_lemma=>kernel_rfl)
theorem Pj:kO prog 180 [.agg [.slice 0 0 (dI 3).length none,.slice 1 0 (bI 3).length none]] [.qK,.cells false 3 (tC (bI 3))] (.tuple [.map 2,.bool true]) ([.qK,.cells false 3 (tC (bI 3))]++[.map ((Ql (bI 3) 0).map sdE)]):=
 rz (lv:=ae) (K:=60) (n:=10) ai (aO _) (aR _) (az _) (by as_aux_lemma=>kernel_rfl)
theorem Pk:kO prog 180 [.agg [.slice 0 0 (dI 4).length none,.slice 1 0 (bI 4).length none]] [.qK,.cells false 3 (tC (bI 4))] (.tuple [.map 2,.bool true]) ([.qK,.cells false 3 (tC (bI 4))]++[.map ((Ql (bI 4) 0).map sdE)]):=
 rz (lv:=ae) (K:=60) (n:=10) ai (aO _) (aR _) (az _) (by as_aux_lemma=>kernel_rfl)
theorem Pm:kO prog 180 [.agg [.slice 0 0 (dI 5).length none,.slice 1 0 (bI 5).length none]] [.qK,.cells false 3 (tC (bI 5))] (.tuple [.map 2,.bool true]) ([.qK,.cells false 3 (tC (bI 5))]++[.map ((Ql (bI 5) 0).map sdE)]):=
 rz (lv:=ae) (K:=60) (n:=10) ai (aO _) (aR _) (az _) (by as_aux_lemma=>kernel_rfl)
theorem Pn:kO prog 180 [.agg [.slice 0 0 (dI 6).length none,.slice 1 0 (bI 6).length none]] [.qK,.cells false 3 (tC (bI 6))] (.tuple [.map 2,.bool true]) ([.qK,.cells false 3 (tC (bI 6))]++[.map ((Ql (bI 6) 0).map sdE)]):=
 rz (lv:=ae) (K:=60) (n:=10) ai (aO _) (aR _) (az _) (by as_aux_lemma=>kernel_rfl)
theorem Po:kO prog 180 [.agg [.slice 0 0 (dI 7).length none,.slice 1 0 (bI 7).length none]] [.qK,.cells false 3 (tC (bI 7))] (.tuple [.map 2,.bool true]) ([.qK,.cells false 3 (tC (bI 7))]++[.map ((Ql (bI 7) 0).map sdE)]):=
 rz (lv:=ae) (K:=60) (n:=10) ai (aO _) (aR _) (az _) (by as_aux_lemma=>kernel_rfl)
theorem Fl(k:Nat)(hk:k<8):kO prog 180 [.agg [.slice 0 0 (dI k).length none,.slice 1 0 (bI k).length none]] [.qK,.cells false 3 (tC (bI k))] (.tuple [.map 2,.bool true]) ([.qK,.cells false 3 (tC (bI k))]++[.map ((Ql (bI k) 0).map sdE)]):=by
 have Z:k=0∨k=1∨k=2∨k=3∨k=4∨k=5∨k=6∨k=7:=by omega
 rcases Z with rfl | rfl | rfl | rfl | rfl | rfl | rfl | rfl
 ·exact Pf
 ·exact Pg
 ·exact Ph
 ·exact Pj
 ·exact Pk
 ·exact Pm
 ·exact Pn
 ·exact Po
theorem Nr(k:Nat)(hk:k<8):uD (Ql (bI k) 0)=true∧Bm (sO (Ql (bI k) 0))=some ((kZ k).map fun(n:Nat)=>(n:Int))∧(KZ (bI k)).length=(dI k).length∧kZ k≠[]∧(∀c∈kZ k,c<(dI k).length)∧bI k≠[]∧(bI k).length≤4∧(kZ k).length≤6:=by
 have Z:k=0∨k=1∨k=2∨k=3∨k=4∨k=5∨k=6∨k=7:=by omega
 rcases Z with rfl | rfl | rfl | rfl | rfl | rfl | rfl | rfl<;>decide
theorem zt(s:aeo):Whole s.P s.T (Ql s.T 0) (kZ (s.kind%8)):=by
 have X:s.kind%8<8:=Nat.mod_lt _ (by omega);have h:=Ol s;obtain⟨f1,f2,f3,f4,f5,f6,f7,f8⟩:=Nr (s.kind%8) X;have Z:=aeo.afu s;have u:=Ed (s.kind%8);unfold ig at h;simp only[Bool.and_eq_true,decide_eq_true_eq] at h;obtain⟨⟨⟨⟨V,U⟩,h3⟩,S⟩,R⟩:=h;refine⟨fun p O=>?_,V,?_,f1,f2,by rw[Z];exact f3,⟨f4,by rw[Z];exact f5,fun i N=>?_,R⟩,fun t M=>?_,by omega,f6,by show(bI _).length≤800;omega,by omega⟩
 ·have:=List.all_eq_true.1 U p O
  simp only[Bool.and_eq_true,decide_eq_true_eq] at this;obtain⟨⟨⟨L,G⟩,F⟩,D⟩:=this;have d1:dg 3 1 p.1:=⟨L,G⟩;have d2:dg 3 1 p.2:=⟨F,D⟩;exact⟨d1.mono (by omega) (by omega),d2.mono (by omega) (by omega)⟩
 ·unfold AQ
  rw[Z];exact Fl (s.kind%8) X
 ·have:=List.all_eq_true.1 S i (List.mem_range.2 N)
  simpa using this
 ·have:=List.all_eq_true.1 h3 t M
  unfold Xo;split at this
  ·rename_i p q r C B A
   exact⟨p,q,r,C,B,A,by simpa using this⟩
  ·cases this
theorem Eu(s:aeo):kO prog 46 [.agg [.slice 0 0 s.P.length none,.slice 1 0 s.T.length none]] [.cells false 2 (pC s.P),.cells false 3 (tC s.T)] (.int .i64 0) [.cells false 2 (pC s.P),.cells false 3 (tC s.T)]:=
 Et (zt s)
end Go.Proofs
