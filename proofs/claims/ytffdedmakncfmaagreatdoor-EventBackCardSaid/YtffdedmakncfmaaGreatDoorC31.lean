/- See C54. -/
import Derived.Test.YtffdedmakncfmaaGreatDoorC30
import Derived.Test.YtffdedmakncfmaaGreatDoorC22
set_option linter.all false
set_option maxRecDepth 100000
set_option maxHeartbeats 40000000
namespace Go.Proofs
open Go.Eng
open Tryz
def uE(a:Nat):AV×AV:=(.int .i64 (a:Int),.bool true)
def Yv(L:List Nat)(a:Nat):List Nat:=if a∈L then L else L++[a]
def ZP(L:List Nat)(t:Tr):List Nat:=Yv (Yv (Yv L t.1) t.2.1) t.2.2
def MZ(y:List Tr):List Nat:=y.foldl ZP []
theorem W6{α:Type}{l:List α}{i:Nat}{x:α}(h:l[i]? =some x):l.set i x=l:=by
 apply List.ext_getElem?;intro j;rw[List.getElem?_set];by_cases Z:i=j
 ·subst Z
  rw[if_pos rfl,if_pos (gL h),h]
 ·rw[if_neg Z]
theorem yq(a:Nat):∀(L:List Nat) (i:Nat),(a∉L→jZ (bh prog) 3 (.int .i64 (a:Int)) (L.map uE) i=some none)∧(a∈L→∃q,jZ (bh prog) 3 (.int .i64 (a:Int)) (L.map uE) i=some (some (i+q,.bool true))∧L[q]? =some a)
 | [],i=>⟨fun _=>rfl,fun h=>by cases h⟩
 |b::L,i=>by
  have e:kU (bh prog) 20 3 (.int .i64 (a:Int)) (.int .i64 (b:Int))=some (decide ((a:Int)=(b:Int))):=by simp[kU]
  simp only[List.map_cons,jZ,uE,e];have Z:=yq a L (i+1);by_cases h:a=b
  ·subst h
   simp only[decide_true];exact⟨fun h=>absurd (List.mem_cons_self ..) h,fun _=>⟨0,rfl,rfl⟩⟩
  ·have X :¬((a:Int)=(b:Int)):=by omega
   simp only[X,decide_false];refine⟨fun V=>Z.1 (fun h2=>V (List.mem_cons_of_mem _ h2)),fun U=>?_⟩;rcases List.mem_cons.1 U with h2 | h2
   ·exact absurd h2 h
   ·obtain⟨q,S,R⟩:=Z.2 h2
    exact⟨q+1,by rw[S,show i+1+q=i+(q+1) by omega],by simpa using R⟩
theorem Tj(M:Mem)(b:Nat)(L:List Nat)(a:Nat)(y:M[b]? =some (.map (L.map uE))):fz (bh prog) M 279 (.map b) (.int .i64 (a:Int)) (.bool true)=some (M.set b (.map ((Yv L a).map uE))):=by
 have Z:mG (bh prog) 20 3 (.int .i64 (a:Int))=true:=by simp[mG]
 unfold fz;rw[Lu];simp only[y,Z,if_true];by_cases h:a∈L
 ·obtain⟨q,X,V⟩:=(yq a L 0).2 h
  rw[X];have:Yv L a=L:=if_pos h;rw[this,Nat.zero_add];simp only[AV.agE,if_true];rw[show((.int .i64 (a:Int),.bool true):AV×AV)=uE a from rfl,W6 (l:=L.map uE) (i:=q) (x:=uE a) (by rw[List.getElem?_map,V];rfl)]
 ·rw[(yq a L 0).1 h]
  have:Yv L a=L++[a]:=if_neg h;rw[this];simp[uE]
theorem UX(n:Nat):∀L:List Nat,(L.map uE).flatMap (fun e=>e.1.refs n++e.2.refs n)=[]
 | []=>rfl
 |p::N=>by simp[uE,AV.refs,UX n N]
variable{TS:List Tr}{n:Nat}
theorem SU{t:Tr}(h:TS[n]? =some t):MZ (TS.take (n+1))=ZP (MZ (TS.take n)) t:=by rw[List.take_add_one,h];simp[MZ]
def xe(y:List P2)(TS:List Tr)(D:List (AV×AV))(L:List Nat):Mem:=[.cells false 2 (pC y),.cells false 3 (tC TS),msB y.length TS.length,.map D,.map (L.map uE)]
def Cv(c:Code):List Nat:=if (ae c).contains 23 then [23] else [28]
variable{K:Nat}{b:Code}
theorem Cw{O:afF}(y:List P2)(TS:List Tr)(D:List (AV×AV))(I:TS.length≤1000000000)(J:D.flatMap (fun e=>e.1.refs 5++e.2.refs 5)=[])(hK:TS.length<K+5){W:Code}(H:ah f195=[b,W]):
  ∃F:Env→Bool→Env,∀Z d,(ad Z 5=.map 4∧ad Z 21=.slice 1 0 TS.length none∧ad Z 22=.int .i64 TS.length∧ad Z 23=.int .i64 0∧ad Z 1=.ptr 2 0∧ad Z 3=.map 3)→
   aW (bh prog) Cv O (K+5) 55 2 true (.loop b) ⟨Z,xe y TS D [],d⟩=some (.exit 0,⟨F Z d,xe y TS D (MZ TS),d⟩)∧ad (F Z d) 1=.ptr 2 0∧ad (F Z d) 3=.map 3∧ad (F Z d) 5=.map 4:=by
 refine bj (L:=[23]) (by simp[ah,aE,f195] at H;rw[←H.1];rfl) (fun Z=>ad Z 5=.map 4∧ad Z 21=.slice 1 0 TS.length none∧ad Z 22=.int .i64 TS.length∧ad Z 23=.int .i64 0∧ad Z 1=.ptr 2 0∧ad Z 3=.map 3) (fun _ S =>ad S 1=.ptr 2 0∧ad S 3=.map 3∧ad S 5=.map 4) ?_;rintro Z d ⟨h5,h21,h22,h23,h1,h3⟩;simp[ah,aE,f195] at H;obtain⟨H,-⟩:=H;have X:aA [23] (ae b) Z ((23,.int .i64 ((0:Nat):Int))::Z)=aA [23] (ae b) Z Z:=by simp[aA,h23]
 rw[←X];refine bz (α:=Nat) (fun n=>⟨aA [23] (ae b) Z ((23,.int .i64 (n:Int))::Z),xe y TS D (MZ (TS.take n)),d⟩) (fun n=>TS.length-n) (fun n=>n≤TS.length) (.exit 0) _ d _ (by simp) ?_ (K+5) 0 (by omega) (by omega);intro n o;clear X;subst H;by_cases R:n<TS.length
 ·left
  obtain⟨t,Q⟩:∃q,TS[n]? =some q:=⟨TS[n],List.getElem?_eq_getElem R⟩
  obtain⟨N,j⟩:=Ve Q;have V:=SU Q;obtain⟨M,G,C⟩:=t;simp only[ZP] at N V;have w1:IntKind.i64.wrap ((n:Int)+1)=((n+1:Nat):Int):=by rw[af];omega
  obtain⟨m,Y⟩:=xE (n+1);rw[←Y] at w1 V;obtain⟨L,B⟩:=xE (MZ (TS.take n));rw[←B] at V;rw[←B];have v1:IntKind.i64.wrap 1=1:=rfl;have v2:IntKind.i64.wrap 2=2:=rfl;have v3:IntKind.i64.wrap 3=3:=rfl;have v2' :IntKind.i64.wrap (1+1)=2:=rfl;have v3' :IntKind.i64.wrap (2+1)=3:=rfl;have u:∀(U :List Nat) (a:Nat),fz (bh prog) [.cells false 2 (pC y),.cells false 3 (tC TS),.cells true 0 [.slice 0 0 y.length none,.slice 1 0 TS.length none],.map D,.map (U.map uE),.cells true 0 [.int .i64 (M:Int),.int .i64 (G:Int),.int .i64 (C:Int)]] 279 (.map 4) (.int .i64 (a:Int)) (.bool true)=
    some [.cells false 2 (pC y),.cells false 3 (tC TS),.cells true 0 [.slice 0 0 y.length none,.slice 1 0 TS.length none],.map D,.map ((Yv U a).map uE),.cells true 0 [.int .i64 (M:Int),.int .i64 (G:Int),.int .i64 (C:Int)]]:=fun U a=>Tj _ 4 U a rfl
  refine⟨m,?_⟩;simp[xe,h5,h21,h22,R,N,j,aT,ga,v1,v2,v3,Cv,u,J,V,msB,wq,tw,UX,w1];omega
 ·right
  have e:TS.take n=TS:=List.take_of_length_le (by omega);rw[e];have Z5 :¬(n:Int)<TS.length:=by omega
  simp[h22,h1,h3,h5,R]
theorem Ye(f:Nat→Option Nat)(y:List Sd):(y.map sdE).map (fun e=>(e.1.ren f,e.2.ren f))=y.map sdE:=by rw[List.map_map];exact List.map_congr_left fun s _=>Px f s
theorem W5(f:Nat→Option Nat)(y:List Sd):y.map ((fun(e:AV×AV)=>(e.1.ren f,e.2.ren f))∘sdE)=y.map sdE:=
 List.map_congr_left fun s _=>Px f s
def Cc(H:List P2)(TS:List Tr)(y:List Sd):Prop:=
 kO prog 234 [.agg [.slice 0 0 H.length none,.slice 1 0 TS.length none]] [.qK,.cells false 3 (tC TS)] (.tuple [.map 2,.bool true]) ([.qK,.cells false 3 (tC TS)]++[.map (y.map sdE)])
structure Tryz.Whole (PS:List P2)(TS:List Tr)(sds:List Sd)(cyc:List Nat):Prop where
 dg:∀p∈PS,pDg 200 p
 nodup:PS.Nodup
 aiy:Cc PS TS sds
 outer:wo sds=true
 cy:CP (um sds)=some (cyc.map fun(n:Nat)=>(n:Int))
 used:(MZ TS).length=PS.length
 once:UN PS cyc
 tr:∀t∈TS,ZM PS t
 len:PS.length≤400
 aiz:TS≠[]
 air:TS.length≤800
 aiA:cyc.length≤1000000
open Classical in
noncomputable def Bd(I:List P2)(TS:List Tr)(H:List Sd)(y:List Nat):afF:=fun c Z M=>match c,Z with
 |.fn 234,[.agg [.slice b 0 n none,.slice c 0 k none]]=>if n=I.length∧k=TS.length∧b<M.length∧(∃o,M[c]? =some (.cells o 3 (tC TS))) then some ⟨.tuple [.map M.length,.bool true],none,[.map (H.map sdE)]⟩ else none
 |.fn 235,[.agg [.slice b 0 _ none,.slice c 0 _ none],.map q]=>if b<M.length∧c<M.length∧Sy M q=some (H.map sdE) then some ⟨.tuple [.slice M.length 0 y.length none,.bool true],none,[.cells true 1 (cZ y)]⟩ else none
 |.fn 236,[.agg [.slice b 0 n none,.slice c 0 _ none],.slice q 0 l none]=>if n=I.length∧l=y.length∧c<M.length∧(∃o,M[b]? =some (.cells o 2 (pC I)))∧(∃o,M[q]? =some (.cells o 1 (cZ y))) then some ⟨.bool true,none,[]⟩ else none
 |_,_=>none
theorem LO:∀Z:List Nat,AV.afT (cZ Z)=true
 | []=>rfl
 |c::l=>by have:=LO l;simp only[cZ] at this;simp[cZ,AV.afT,AV.closed,this]
theorem Zz(y:List Nat):iZ (y.map fun(n:Nat)=>(n:Int))=cZ y:=by simp[iZ,cZ]
theorem fT{M:Mem}{b:Nat}{s:afU}(h:M[b]? =some s):b<M.length:=gL h
variable{PS:List P2}{cyc:List Nat}{sds:List Sd}
section
variable (hw:Whole PS TS sds cyc)
include hw
theorem OO:qS prog (Bd PS TS sds cyc):=by
 refine cf fun c U M r h=>?_
 unfold Bd at h;split at h
 ·rename_i b n c k
  split at h
  ·rename_i S
   obtain⟨rfl,rfl,O,o,X⟩:=S;cases h;refine aC ?_;have:=kO.frame (M:=M) (new:=[.map (sds.map sdE)]) [b,c] (m:=[.qK,.cells false 3 (tC TS)]) rfl (by
    intro k R;simp only[lM] at R;rcases R with rfl | rfl
    ·exact O
    ·exact fT X) (by rfl) (fun i s Z=>by
    match i with
    |0=>simp at Z;subst Z;trivial
    |1=>simp at Z;subst Z;exact cW (ig TS) X (List.take_length)
    |i+2=>simp at Z) rfl hw.aiy
   simpa [AV.af9,AV.ren,fj,afU.ren,Ye,W5] using this
  ·cases h
 ·rename_i b n c k q
  split at h
  ·rename_i S
   obtain⟨O,V,X⟩:=S;cases h;refine aC ?_;have:=zi M sds (cyc.map fun(n:Nat)=>(n:Int)) q b c n k O V X hw.outer hw.cy;rw[Zz,List.length_map] at this;exact this
  ·cases h
 ·rename_i b n c k q l
  split at h
  ·rename_i S
   obtain⟨rfl,rfl,V,⟨o,X⟩,⟨N,Q⟩⟩:=S;cases h;refine aC ?_;have:=kO.frame (M:=M) (new:=[]) (args:=[.agg [.slice 0 0 PS.length none,.slice 1 0 k none],.slice 2 0 cyc.length none]) [b,c,q] (m:=[.cells false 2 (pC PS),.qK,.cells false 1 (cZ cyc)]) rfl (by
    intro k R;simp only[lM] at R;rcases R with rfl | rfl | rfl
    ·exact fT X
    ·exact V
    ·exact fT Q) (by rfl) (fun i s Z=>by
    match i with
    |0=>simp at Z;subst Z;exact cW (ez PS) X (List.take_length)
    |1=>simp at Z;subst Z;trivial
    |2=>simp at Z;subst Z;exact cW (LO cyc) Q (List.take_length)
    |i+3=>simp at Z) rfl (by simpa using Nt PS k cyc hw.dg hw.once hw.aiA)
   simpa [AV.af9,AV.ren,fj] using this
  ·cases h
 ·cases h
theorem Iq:
  kO prog 195 [.agg [.slice 0 0 PS.length none,.slice 1 0 TS.length none]] [.cells false 2 (pC PS),.cells false 3 (tC TS)] (.bool true) [.cells false 2 (pC PS),.cells false 3 (tC TS)]:=by
 have M:aS prog 195=some f195:=by kernel_rfl
 have D:=hw.len;have L:=hw.air;obtain⟨b,N,U⟩:∃b N,ah f195=[b,N]:=⟨_,_,rfl⟩
 obtain⟨K,C⟩:=xE TS.length;obtain⟨F,X⟩:=Cw (O:=Bd PS TS sds cyc) (K:=K) PS TS (sds.map sdE) (by omega) (sZ 5 sds) (by omega) U;simp[ah,aE,f195] at U;obtain⟨rfl,rfl⟩:=U;have V:=fun Z d h=>(X Z d h).1
 have S:=fun Z d h=>(X Z d h).2.1
 have R:=fun Z d h=>(X Z d h).2.2.1
 have Q:=fun Z d h=>(X Z d h).2.2.2
 clear X;have G:=hw.used;refine cE (lv:=Cv) (K:=(K+5)) (OO hw) ?_;simp only[xe,List.map_nil,msB] at V;simp[aa,M,f195,V,S,R,Q,Bd,Sy,G]
theorem Ow:qS prog (qc PS TS):=by
 refine cf fun c Z M r h=>?_
 unfold qc at h;split at h
 ·rename_i b n c k
  split at h
  ·rename_i R
   obtain⟨rfl,rfl,⟨o,U⟩,⟨Q,X⟩⟩:=R;cases h;refine aC ?_;have:=kO.frame (M:=M) (new:=[]) (args:=[.agg [.slice 0 0 PS.length none,.slice 1 0 TS.length none]]) [b,c] (m:=[.cells false 2 (pC PS),.cells false 3 (tC TS)]) rfl (by
    intro k S;simp only[lM] at S;rcases S with rfl | rfl
    ·exact fT U
    ·exact fT X) (by rfl) (fun i s V=>by
    match i with
    |0=>simp at V;subst V;exact cW (ez PS) U (List.take_length)
    |1=>simp at V;subst V;exact cW (ig TS) X (List.take_length)
    |i+2=>simp at V) rfl (by simpa using Iq hw)
   simpa [AV.af9,AV.ren,fj] using this
  ·cases h
 ·exact dN B6 h
theorem F8:
  kO prog 131 [.agg [.slice 0 0 PS.length none,.slice 1 0 TS.length none]] [.cells false 2 (pC PS),.cells false 3 (tC TS)] (.int .i64 0) [.cells false 2 (pC PS),.cells false 3 (tC TS)]:=by
 have C:aS prog 131=some f131:=by kernel_rfl
 have Y:=hw.len;have B:=hw.air;have u:0<TS.length:=by have:=hw.aiz;cases TS with | nil=>exact absurd rfl this | cons a l=>simp
 obtain⟨N,M,L,G,D,S⟩:∃N M L G D,ah f131=[N,M,L,G,D]:=⟨_,_,_,_,_,rfl⟩
 obtain⟨K,W⟩:=xE (PS.length+TS.length);obtain⟨F,R⟩:=yy (K:=K+5) PS TS hw.dg hw.nodup (by omega) (by omega) S;obtain⟨J,Z⟩:=yz (K:=K) PS TS (PS.map pmE) hw.dg hw.tr (by omega) (by omega) (HK 4 PS) (by omega) S;simp[ah,aE,f131] at S;obtain⟨rfl,rfl,rfl,rfl,rfl⟩:=S;have V:=fun X d h=>(R X d h).1
 have U:=fun X d h=>(Z X d h).1
 have Q:=fun X d h=>(R X d h).2
 have O:=fun X d h=>(Z X d h).2
 clear R Z;have o:¬(800:Int)<TS.length:=by omega
 have m:¬(400:Int)<PS.length:=by omega
 have I:¬800<TS.length:=by omega
 have H:¬400<PS.length:=by omega
 have j:¬TS.length=0:=by omega
 have y:¬(TS.length:Int)=0:=by omega
 refine cE (lv:=wZ) (K:=(K+5)) (Ow hw) ?_;simp only[msB] at V U;simp[aa,C,f131,V,U,Q,O,qc,o,m,j]
end
noncomputable def Bc(f:FuncId)(args:List AV):Option AV:=
 match f,args with
 |66,[.int .i64 n,.int .i64 d]=>if 0<d∧dL n=true∧dL d=true then some (.tuple [.str (ax (mkRat n d.toNat)),.int .i64 0]) else none
 |_,_=>none
theorem RF:qS prog (ag Bc):=bF fun f Z v h mem=>by
 unfold Bc at h;split at h
 ·rename_i n d
  split at h
  ·rename_i X
   cases h;have:=Is n d.toNat (by omega) X.2.1 (by rw[Int.toNat_of_nonneg (by omega)];exact X.2.2) mem;rw[Int.toNat_of_nonneg (by omega)] at this;exact this
  ·cases h
 ·cases h
theorem qq{n:Int}(h0: -1000000≤n)(h1:n≤1000000):dL n=true:=by unfold dL;simp;omega
theorem gG{n:Int}(h0: -1000000≤n)(h1:n≤1000000):IntKind.i64.wrap n=n:=by rw[af]
theorem Ik(s:af1)(hs:s.Ok)(x y:Int)(H: -128≤x)(I:x≤127)(J: -128≤y)(W:y≤127)(k:Nat)(hk:k=1∨k=2)(M:Mem):
  kO prog 24 [s.av,.agg [.int .i8 x,.int .i8 y],.int .i64 (k:Int)] M (pA (s.pt k x y)) M:=by
 have R:aS prog 24=some f24:=by kernel_rfl
 obtain⟨kd,Q,O,N⟩:=s;have C:=SR Q;have B:=SR O;unfold af1.av af1.pt;simp only;obtain⟨u,Z⟩:=xE (Q.tmod 8);obtain⟨v,X⟩:=xE (O.tmod 8);rw[←Z] at C ⊢;rw[←X] at B ⊢;refine ao RF ?_ M;have L:IntKind.i64.wrap x=x:=gG (by omega) (by omega);have G:IntKind.i64.wrap y=y:=gG (by omega) (by omega);have F:IntKind.i64.wrap u=u:=gG (by omega) (by omega);have D:IntKind.i64.wrap v=v:=gG (by omega) (by omega);rcases hk with rfl | rfl
 ·have V:IntKind.i64.wrap (x+u)=x+u:=gG (by omega) (by omega)
  have U:IntKind.i64.wrap (y+v)=y+v:=gG (by omega) (by omega);have o:IntKind.i64.wrap 1=1:=rfl;have S:IntKind.i64.wrap 2=2:=rfl;have f1:dL (x+u)=true:=qq (by omega) (by omega);have f2:dL (y+v)=true:=qq (by omega) (by omega);have f3:dL 1=true:=rfl;have f4:dL 2=true:=rfl;cases N<;>simp[aa,R,f24,ag,Bc,←Z,←X,L,G,F,D,V,U,o,S,f1,f2,f3,f4,bN,aF,pA]
 ·have V:IntKind.i64.wrap (x+u*2)=x+u*2:=gG (by omega) (by omega)
  have U:IntKind.i64.wrap (y+v*2)=y+v*2:=gG (by omega) (by omega);have m:IntKind.i64.wrap (u*2)=u*2:=gG (by omega) (by omega);have j:IntKind.i64.wrap (v*2)=v*2:=gG (by omega) (by omega);have S:IntKind.i64.wrap 2=2:=rfl;have Y:IntKind.i64.wrap 4=4:=rfl;have f1:dL (x+u*2)=true:=qq (by omega) (by omega);have f2:dL (y+v*2)=true:=qq (by omega) (by omega);have f3:dL 2=true:=rfl;have f4:dL 4=true:=rfl;cases N<;>simp[aa,R,f24,ag,Bc,←Z,←X,L,G,F,D,V,U,m,j,S,Y,f1,f2,f3,f4,bN,aF,pA]
theorem F7(k:Nat)(hk:k<256):kO prog 23 [.int .u8 (k:Int)] [] (.tuple [.slice 0 0 (dT (k%8)).length none,.slice 1 0 (bU (k%8)).length none]) [.cells true 2 (iP (dT (k%8))),.cells true 3 (tC (bU (k%8)))]:=by
 have S:aS prog 23=some f23:=by kernel_rfl
 have X:(k:Int).tmod 8=((k%8:Nat):Int):=rfl;have V:k%8<8:=Nat.mod_lt _ (by omega);obtain⟨j,U⟩:=xE (k%8);rw[←U] at X V ⊢;have h:aa (bh prog) (fun _=>[]) (aS prog) cF 1 23 [.int .u8 (k:Int)] []=some ⟨.tuple [.slice 0 0 (dT j).length none,.slice 1 0 (bU j).length none],none,[.cells true 2 (iP (dT j)),.cells true 3 (tC (bU j))]⟩:=by
  have Z:j=0∨j=1∨j=2∨j=3∨j=4∨j=5∨j=6∨j=7:=by omega
  clear V U;rcases Z with rfl | rfl | rfl | rfl | rfl | rfl | rfl | rfl<;>simp[aa,S,f23,X,dT,bU,sqI,iP,tC,bN]<;>exact⟨rfl,rfl⟩
 have:=(ar aj (aK _) (aw _) (aR _) h).1;simpa [y9.mem] using this
theorem Io(k:Nat)(hk:k<256)(M:Mem):kO prog 23 [.int .u8 (k:Int)] M (.tuple [.slice M.length 0 (dT (k%8)).length none,.slice (M.length+1) 0 (bU (k%8)).length none]) (M++[.cells true 2 (iP (dT (k%8))),.cells true 3 (tC (bU (k%8)))]):=by have:=kO.frame (M:=M) (new:=[.cells true 2 (iP (dT (k%8))),.cells true 3 (tC (bU (k%8)))]) (args:=[.int .u8 (k:Int)]) [] (m:=[]) rfl (by simp) (by rfl) (fun i s Z=>by simp at Z) rfl (F7 k hk);simpa [AV.ren,AV.af9,fj,afU.ren,Um,MW] using this
noncomputable def pZ(s:af1):afF:=fun c Z M=>match c,Z with
 |.fn 23,[.int .u8 k]=>if k=(s.kind:Int) then some ⟨.tuple [.slice M.length 0 (dT (s.kind%8)).length none,.slice (M.length+1) 0 (bU (s.kind%8)).length none],none,[.cells true 2 (iP (dT (s.kind%8))),.cells true 3 (tC (bU (s.kind%8)))]⟩ else none
 |.fn 24,[.agg [.int .u8 k,.int .i8 sx,.int .i8 sy,.bool h],.agg [.int .i8 x,.int .i8 y],.int .i64 n]=>if k=(s.kind:Int)∧sx=s.sx∧sy=s.sy∧h=s.half∧ -128≤x∧x≤127∧ -128≤y∧y≤127∧n=1 then some ⟨pA (s.pt 1 x y),none,[]⟩ else none
 |_,_=>none
theorem Oo(s:af1)(hs:s.Ok):qS prog (pZ s):=by
 refine cf fun c X M r h=>?_
 unfold pZ at h;split at h
 ·split at h
  ·rename_i Z
   subst Z;cases h;exact aC (Io s.kind hs.kind M)
  ·cases h
 ·split at h
  ·rename_i Z
   obtain⟨rfl,rfl,rfl,rfl,V,U,h3,S,rfl⟩:=Z;cases h;refine aC ?_;rw[List.append_nil];exact Ik s hs _ _ V U h3 S 1 (.inl rfl) M
  ·cases h
 ·cases h
def Vc(L:List (Int×Int)):Prop:=∀p∈L,0≤p.1∧p.1≤6∧0≤p.2∧p.2≤6
theorem MR(k:Nat)(hk:k<8):Vc (dT k):=by
 have Z:k=0∨k=1∨k=2∨k=3∨k=4∨k=5∨k=6∨k=7:=by omega
 rcases Z with rfl | rfl | rfl | rfl | rfl | rfl | rfl | rfl<;>(unfold Vc;decide)
def Y5(n:Nat):AV:=match n with
 |0=>.qF
 |n+1=>.slice 5 0 (n+1) none
def Pe(s:af1)(y:List (Int×Int))(TS:List Tr)(n:Nat):Mem:=
 [.cells true 0 [.int .u8 s.kind,.int .i8 s.sx,.int .i8 s.sy,.bool s.half],.cells true 0 [.qF,.qF],.cells true 2 (iP y),.cells true 3 (tC TS),.cells true 0 [Y5 n,.slice 3 0 TS.length none]]++
  (match n with
  |0=>[]
  |n+1=>[.cells true 2 (pC ((y.take (n+1)).map fun p=>s.pt 1 p.1 p.2))])
theorem Dg{s:af1}{y:List (Int×Int)}(h:0<n):Pe s y TS n=
  [.cells true 0 [.int .u8 s.kind,.int .i8 s.sx,.int .i8 s.sy,.bool s.half],.cells true 0 [.qF,.qF],.cells true 2 (iP y),.cells true 3 (tC TS),.cells true 0 [.slice 5 0 n none,.slice 3 0 TS.length none],.cells true 2 (pC ((y.take n).map fun p=>s.pt 1 p.1 p.2))]:=by
 cases n with
 |zero=>omega
 |succ n=>rfl
theorem B4(s:af1)(y:List (Int×Int))(TS:List Tr)(H:Vc y)(hl:y.length≤1000000)(hK:y.length<K)(hb:ah f7=[b]):
  ∃F:Env→Env,∀Z,(ad Z 1=.ptr 0 0∧ad Z 3=.slice 2 0 y.length none∧ad Z 5=.ptr 4 0∧ad Z 6=.int .i64 0∧ad Z 2=.ptr 1 0)→
   aW (bh prog) (fun _=>[6,6]) (pZ s) K 42 0 true (.loop b) ⟨Z,Pe s y TS 0,false⟩=some (.exit 0,⟨F Z,Pe s y TS y.length,decide (0<y.length)⟩)∧ad (F Z) 5=.ptr 4 0∧ad (F Z) 2=.ptr 1 0:=by
 refine v7 (L:=[6,6]) rfl false _ (fun Z=>ad Z 1=.ptr 0 0∧ad Z 3=.slice 2 0 y.length none∧ad Z 5=.ptr 4 0∧ad Z 6=.int .i64 0∧ad Z 2=.ptr 1 0) (fun _ AC =>ad AC 5=.ptr 4 0∧ad AC 2=.ptr 1 0) ?_;rintro Z ⟨h1,h3,h5,h6,h2⟩;obtain⟨O,Y⟩:∃O,aG f7=[O]:=⟨_,rfl⟩
 have PP:=kJ Y (l:=[0,1,0,0,0,24,56,120,248,0,0,1536,3584,7680,15872,32760,65532,131068,262143,524287,1048575]) (by kernel_rfl);have N:LJ [0,1,0,0,0,24,56,120,248,0,0,1536,3584,7680,15872,32760,65532,131068,262143,524287,1048575] 21 17=true:=by decide
 have M:LJ [0,1,0,0,0,24,56,120,248,0,0,1536,3584,7680,15872,32760,65532,131068,262143,524287,1048575] 21 18=true:=by decide
 have G:LJ [0,1,0,0,0,24,56,120,248,0,0,1536,3584,7680,15872,32760,65532,131068,262143,524287,1048575] 21 20=true:=by decide
 have D:dH [0,1,0,0,0,24,56,120,248,0,0,1536,3584,7680,15872,32760,65532,131068,262143,524287,1048575] 18=true:=by decide
 have C:dH [0,1,0,0,0,24,56,120,248,0,0,1536,3584,7680,15872,32760,65532,131068,262143,524287,1048575] 20=true:=by decide
 simp[aG,bQ,f7] at Y;simp[ah,aE,f7] at hb;have V:aA [6,6] (ae b) Z ((6,.int .i64 ((0:Nat):Int))::Z)=aA [6,6] (ae b) Z Z:=by simp[aA,h6]
 rw[←V];refine bz (α:=Nat) (fun n=>⟨aA [6,6] (ae b) Z ((6,.int .i64 (n:Int))::Z),Pe s y TS n,decide (0<n)⟩) (fun n=>y.length-n) (fun n=>n≤y.length) (.exit 0) _ _ _ (by simp) ?_ K 0 (by omega) (by omega);intro n hn1;clear V;subst hb;subst Y;by_cases W:n<y.length
 ·left
  obtain⟨p,J⟩:∃q,y[n]? =some q:=⟨y[n],List.getElem?_eq_getElem W⟩
  obtain⟨I,q2,q3⟩:=ZE J;obtain⟨x0,x1,y0,y1⟩:=H p (List.mem_of_getElem? J);obtain⟨R,Q⟩:=p;simp only at I q2 x0 x1 y0 y1;have S:(y.take (n+1)).map (fun p=>s.pt 1 p.1 p.2)=(y.take n).map (fun p=>s.pt 1 p.1 p.2)++[s.pt 1 R Q]:=by rw[List.take_add_one,J];simp
  have v1:IntKind.i8.wrap R=R:=Vp (by omega) (by omega);have v2:IntKind.i8.wrap Q=Q:=Vp (by omega) (by omega);have c1: -128≤R:=by omega
  have c2:R≤127:=by omega
  have c3: -128≤Q:=by omega
  have c4:Q≤127:=by omega
  have w1:IntKind.i64.wrap ((n:Int)+1)=((n+1:Nat):Int):=by rw[af];omega
  obtain⟨P,j⟩:=xE ((y.take n).map (fun p=>s.pt 1 p.1 p.2));have B:P.length=n:=by rw[j,List.length_map,List.length_take];omega
  obtain⟨z,hz⟩:=xE (s.pt 1 R Q);rw[←j,←hz] at S;have X:pC (P++[z])=pC P++[.str (ax z.1),.str (ax z.2)]:=by rw[MA];rfl
  have u:=DA P;rw[B] at u;obtain⟨m,hm⟩:=xE (n+1);refine⟨m,?_⟩;by_cases V:n=0
  ·subst V
   have hm1:m=1:=by omega
   subst hm1;have hP0:P=[]:=List.eq_nil_of_length_eq_zero B;rw[hP0] at S X;simp at S X;have w0:IntKind.i64.wrap 1=1:=rfl;simp[Pe,Y5,h1,h3,h5,W,I,q2,v1,v2,c1,c2,c3,c4,w0,pZ,←hz,pA,-aH,DN PP,xJ,Dl,Qj,dE,N,M,G,D,C,S,X,O8,tw,Um,MW,Y9,bN,Nat.testBit];omega
  ·have U:0<n:=by omega
   rw[←hm] at w1 S;have o:0<m:=by omega
   have hd1:decide (0<n)=true:=by simpa using U
   rw[Dg U,Dg o,hd1,←j,S,X];clear j S X;have g1:m*32≤140737488355328:=by omega
   have g2:n≤140737488355327:=by omega
   have g5:(Pe s y TS 0).length=5:=rfl;have g4:m≤140737488355328:=by omega
   have g3:(pC P).take (n*2)=pC P:=List.take_of_length_le (by omega);simp[h1,h3,h5,W,I,q2,v1,v2,c1,c2,c3,c4,w1,pZ,←hz,pA,-aH,DN PP,xJ,Dl,Qj,dE,N,M,G,D,C,u,o,←hm,g1,g4,g3,g5,UP,O8,tw,wq,Um,MW,Qp,bN,Nat.testBit];omega
 ·right
  have e:n=y.length:=by omega
  subst e;simp[h3,h5,h2]
theorem SK(k:Nat):0<(dT k).length:=by unfold dT;split<;>simp[sqI]
theorem FX(k:Nat):(dT k).length≤6:=by unfold dT;split<;>simp[sqI]
theorem af1.ag8(s:af1):s.P.length=(dT (s.kind%8)).length:=by simp[af1.P]
theorem Ii(s:af1)(hs:s.Ok):kO prog 7 [s.av] [] (.agg [.slice 0 0 s.P.length none,.slice 1 0 s.T.length none]) [.cells true 2 (pC s.P),.cells true 3 (tC s.T)]:=by
 have G:aS prog 7=some f7:=by kernel_rfl
 have X:=SK (s.kind%8);have D:=FX (s.kind%8);obtain⟨b,N⟩:∃b,ah f7=[b]:=⟨_,rfl⟩
 obtain⟨F,S⟩:=B4 (K:=10) s (dT (s.kind%8)) (bU (s.kind%8)) (MR _ (Nat.mod_lt _ (by omega))) (by omega) (by omega) N;simp[ah,aE,f7] at N;subst N;have C:decide (0<(dT (s.kind%8)).length)=true:=by simpa using X
 rw[Dg X,C,List.take_length] at S;have V:=fun R h=>(S R h).1
 have Q:=fun R h=>(S R h).2.1
 have O:=fun R h=>(S R h).2.2
 clear S;have M:Pe s (dT (s.kind%8)) (bU (s.kind%8)) 0=[.cells true 0 [.int .u8 s.kind,.int .i8 s.sx,.int .i8 s.sy,.bool s.half],.cells true 0 [.qF,.qF],.cells true 2 (iP (dT (s.kind%8))),.cells true 3 (tC (bU (s.kind%8))),.cells true 0 [.qF,.slice 3 0 (bU (s.kind%8)).length none]]:=rfl;rw[M] at V;rw[af1.ag8];unfold af1.P af1.T;obtain⟨L,Z⟩:=xE (dT (s.kind%8));obtain⟨ST,U⟩:=xE (bU (s.kind%8));rw[←Z,←U] at V;rw[←Z] at Q O;rw[←Z,←U];have h:aa (bh prog) (fun _=>[6,6]) (aS prog) (pZ s) 10 7 [s.av] []=some ⟨.agg [.slice 0 0 L.length none,.slice 1 0 ST.length none],some [],[.cells true 2 (pC (L.map fun p=>s.pt 1 p.1 p.2)),.cells true 3 (tC ST)]⟩:=by simp[aa,G,f7,af1.av,V,Q,O,pZ,←Z,←U,tw,wq,MW,Qp,bN,aF];exact⟨rfl,rfl⟩
 have:=(ar aj (aK _) (Oo s hs) (aR _) h).1;simpa [y9.mem] using this
theorem Nn(s:af1)(hs:s.Ok)(M:Mem):kO prog 7 [s.av] M (.agg [.slice M.length 0 s.P.length none,.slice (M.length+1) 0 s.T.length none]) (M++[.cells true 2 (pC s.P),.cells true 3 (tC s.T)]):=by have:=kO.frame (M:=M) (new:=[.cells true 2 (pC s.P),.cells true 3 (tC s.T)]) (args:=[s.av]) [] (m:=[]) rfl (by simp) (by rfl) (fun i s hs=>by simp at hs) rfl (Ii s hs);simpa [AV.ren,AV.af9,fj,afU.ren,Qp,MW,af1.av] using this
def iQ(PS:List P2)(TS:List Tr)(cyc:List Nat):Bool:=
 decide PS.Nodup&&(PS.all fun p=>decide (p.1.num.natAbs<1000)&&decide (p.1.den<10)&&decide (p.2.num.natAbs<1000)&&decide (p.2.den<10))&&
  (TS.all fun t=>match PS[t.1]?,PS[t.2.1]?,PS[t.2.2]? with
   |some p,some q,some r=>decide (0<fL (dj p q r))
   |_,_,_=>false)&&
  ((List.range cyc.length).all fun i=>decide (0≤fL (dj (DC PS cyc i) (DC PS cyc (i+1)) (DC PS cyc (i+2)))))&&decide (mw PS cyc cyc.length=1)
def W0(k:Nat)(u v:Int)(h:Bool):List P2:=
 (dT k).map fun p=>(mkRat (p.1+u*(1:Nat)) ((if h then 2 else 1)*1),mkRat (p.2+v*(1:Nat)) ((if h then 2 else 1)*1))
theorem Yi:((List.range 15).all fun a=>(List.range 15).all fun b=>[false,true].all fun h=>iQ (W0 0 ((a:Int)-7) ((b:Int)-7) h) (bU 0) (mz 0))=true:=by kernel_rfl
theorem Yj:((List.range 15).all fun a=>(List.range 15).all fun b=>[false,true].all fun h=>iQ (W0 1 ((a:Int)-7) ((b:Int)-7) h) (bU 1) (mz 1))=true:=by kernel_rfl
theorem Yk:((List.range 15).all fun a=>(List.range 15).all fun b=>[false,true].all fun h=>iQ (W0 2 ((a:Int)-7) ((b:Int)-7) h) (bU 2) (mz 2))=true:=by kernel_rfl
theorem Yl:((List.range 15).all fun a=>(List.range 15).all fun b=>[false,true].all fun h=>iQ (W0 3 ((a:Int)-7) ((b:Int)-7) h) (bU 3) (mz 3))=true:=by kernel_rfl
theorem Ym:((List.range 15).all fun a=>(List.range 15).all fun b=>[false,true].all fun h=>iQ (W0 4 ((a:Int)-7) ((b:Int)-7) h) (bU 4) (mz 4))=true:=by kernel_rfl
theorem Yn:((List.range 15).all fun a=>(List.range 15).all fun b=>[false,true].all fun h=>iQ (W0 5 ((a:Int)-7) ((b:Int)-7) h) (bU 5) (mz 5))=true:=by kernel_rfl
theorem Yo:((List.range 15).all fun a=>(List.range 15).all fun b=>[false,true].all fun h=>iQ (W0 6 ((a:Int)-7) ((b:Int)-7) h) (bU 6) (mz 6))=true:=by kernel_rfl
theorem Yp:((List.range 15).all fun a=>(List.range 15).all fun b=>[false,true].all fun h=>iQ (W0 7 ((a:Int)-7) ((b:Int)-7) h) (bU 7) (mz 7))=true:=by kernel_rfl
theorem SM(k:Nat)(hk:k<8):((List.range 15).all fun a=>(List.range 15).all fun b=>[false,true].all fun h=>iQ (W0 k ((a:Int)-7) ((b:Int)-7) h) (bU k) (mz k))=true:=by
 have Z:k=0∨k=1∨k=2∨k=3∨k=4∨k=5∨k=6∨k=7:=by omega
 rcases Z with rfl | rfl | rfl | rfl | rfl | rfl | rfl | rfl
 ·exact Yi
 ·exact Yj
 ·exact Yk
 ·exact Yl
 ·exact Ym
 ·exact Yn
 ·exact Yo
 ·exact Yp
theorem Qw(s:af1):iQ s.P s.T (mz (s.kind%8))=true:=by
 have Z:s.kind%8<8:=Nat.mod_lt _ (by omega);have h:=SM (s.kind%8) Z;obtain⟨R,Q⟩:=SR s.sx;obtain⟨v0,O⟩:=SR s.sy;have X:=List.all_eq_true.1 h (s.sx.tmod 8+7).toNat (List.mem_range.2 (by omega));have V:=List.all_eq_true.1 X (s.sy.tmod 8+7).toNat (List.mem_range.2 (by omega));have h3:=List.all_eq_true.1 V s.half (by cases s.half<;>simp);have U:(((s.sx.tmod 8+7).toNat:Nat):Int)-7=s.sx.tmod 8:=by omega
 have S:(((s.sy.tmod 8+7).toNat:Nat):Int)-7=s.sy.tmod 8:=by omega
 rw[U,S] at h3;exact h3
def SJ:List Tr→Int→List Sd
 | [],_=>[]
 |t::l,i=>((t.1,t.2.1),i)::((t.2.1,t.2.2),i)::((t.2.2,t.1),i)::SJ l (i+1)
theorem RG:kO prog 234 [.agg [.slice 0 0 (dT 0).length none,.slice 1 0 (bU 0).length none]] [.qK,.cells false 3 (tC (bU 0))] (.tuple [.map 2,.bool true]) ([.qK,.cells false 3 (tC (bU 0))]++[.map ((SJ (bU 0) 0).map sdE)]):=
 sR (lv:=ae) (K:=60) (n:=10) aj (aK _) (aR _) (aw _) (by as_aux_lemma=>kernel_rfl)
theorem RH:kO prog 234 [.agg [.slice 0 0 (dT 1).length none,.slice 1 0 (bU 1).length none]] [.qK,.cells false 3 (tC (bU 1))] (.tuple [.map 2,.bool true]) ([.qK,.cells false 3 (tC (bU 1))]++[.map ((SJ (bU 1) 0).map sdE)]):=
 sR (lv:=ae) (K:=60) (n:=10) aj (aK _) (aR _) (aw _) (by as_aux_lemma=>kernel_rfl)
theorem RI:kO prog 234 [.agg [.slice 0 0 (dT 2).length none,.slice 1 0 (bU 2).length none]] [.qK,.cells false 3 (tC (bU 2))] (.tuple [.map 2,.bool true]) ([.qK,.cells false 3 (tC (bU 2))]++[.map ((SJ (bU 2) 0).map sdE)]):=
 sR (lv:=ae) (K:=60) (n:=10) aj (aK _) (aR _) (aw _) (by as_aux_lemma=>kernel_rfl)
theorem RJ:kO prog 234 [.agg [.slice 0 0 (dT 3).length none,.slice 1 0 (bU 3).length none]] [.qK,.cells false 3 (tC (bU 3))] (.tuple [.map 2,.bool true]) ([.qK,.cells false 3 (tC (bU 3))]++[.map ((SJ (bU 3) 0).map sdE)]):=
 sR (lv:=ae) (K:=60) (n:=10) aj (aK _) (aR _) (aw _) (by as_aux_lemma=>kernel_rfl)
theorem RK:kO prog 234 [.agg [.slice 0 0 (dT 4).length none,.slice 1 0 (bU 4).length none]] [.qK,.cells false 3 (tC (bU 4))] (.tuple [.map 2,.bool true]) ([.qK,.cells false 3 (tC (bU 4))]++[.map ((SJ (bU 4) 0).map sdE)]):=
 sR (lv:=ae) (K:=60) (n:=10) aj (aK _) (aR _) (aw _) (by as_aux_lemma=>kernel_rfl)
theorem RL:kO prog 234 [.agg [.slice 0 0 (dT 5).length none,.slice 1 0 (bU 5).length none]] [.qK,.cells false 3 (tC (bU 5))] (.tuple [.map 2,.bool true]) ([.qK,.cells false 3 (tC (bU 5))]++[.map ((SJ (bU 5) 0).map sdE)]):=
 sR (lv:=ae) (K:=60) (n:=10) aj (aK _) (aR _) (aw _) (by as_aux_lemma=>kernel_rfl)
theorem RM:kO prog 234 [.agg [.slice 0 0 (dT 6).length none,.slice 1 0 (bU 6).length none]] [.qK,.cells false 3 (tC (bU 6))] (.tuple [.map 2,.bool true]) ([.qK,.cells false 3 (tC (bU 6))]++[.map ((SJ (bU 6) 0).map sdE)]):=
 sR (lv:=ae) (K:=60) (n:=10) aj (aK _) (aR _) (aw _) (by as_aux_lemma=>kernel_rfl)
theorem RN:kO prog 234 [.agg [.slice 0 0 (dT 7).length none,.slice 1 0 (bU 7).length none]] [.qK,.cells false 3 (tC (bU 7))] (.tuple [.map 2,.bool true]) ([.qK,.cells false 3 (tC (bU 7))]++[.map ((SJ (bU 7) 0).map sdE)]):=
 sR (lv:=ae) (K:=60) (n:=10) aj (aK _) (aR _) (aw _) (by as_aux_lemma=>kernel_rfl)
theorem G0(k:Nat)(hk:k<8):kO prog 234 [.agg [.slice 0 0 (dT k).length none,.slice 1 0 (bU k).length none]] [.qK,.cells false 3 (tC (bU k))] (.tuple [.map 2,.bool true]) ([.qK,.cells false 3 (tC (bU k))]++[.map ((SJ (bU k) 0).map sdE)]):=by
 have Z:k=0∨k=1∨k=2∨k=3∨k=4∨k=5∨k=6∨k=7:=by omega
 rcases Z with rfl | rfl | rfl | rfl | rfl | rfl | rfl | rfl
 ·exact RG
 ·exact RH
 ·exact RI
 ·exact RJ
 ·exact RK
 ·exact RL
 ·exact RM
 ·exact RN
theorem Py(k:Nat)(hk:k<8):wo (SJ (bU k) 0)=true∧CP (um (SJ (bU k) 0))=some ((mz k).map fun(n:Nat)=>(n:Int))∧(MZ (bU k)).length=(dT k).length∧mz k≠[]∧(∀c∈mz k,c<(dT k).length)∧bU k≠[]∧(bU k).length≤4∧(mz k).length≤6:=by
 have Z:k=0∨k=1∨k=2∨k=3∨k=4∨k=5∨k=6∨k=7:=by omega
 rcases Z with rfl | rfl | rfl | rfl | rfl | rfl | rfl | rfl<;>decide
theorem AK(s:af1):Whole s.P s.T (SJ s.T 0) (mz (s.kind%8)):=by
 have X:s.kind%8<8:=Nat.mod_lt _ (by omega);have h:=Qw s;obtain⟨f1,f2,f3,f4,f5,f6,f7,f8⟩:=Py (s.kind%8) X;have Z:=af1.ag8 s;have V:=FX (s.kind%8);unfold iQ at h;simp only[Bool.and_eq_true,decide_eq_true_eq] at h;obtain⟨⟨⟨⟨U,S⟩,h3⟩,R⟩,Q⟩:=h;refine⟨fun p O=>?_,U,?_,f1,f2,by rw[Z];exact f3,⟨f4,by rw[Z];exact f5,fun i N=>?_,Q⟩,fun t M=>?_,by omega,f6,by show(bU _).length≤800;omega,by omega⟩
 ·have:=List.all_eq_true.1 S p O
  simp only[Bool.and_eq_true,decide_eq_true_eq] at this;obtain⟨⟨⟨L,G⟩,F⟩,D⟩:=this;have d1:dg 3 1 p.1:=⟨L,G⟩;have d2:dg 3 1 p.2:=⟨F,D⟩;exact⟨d1.mono (by omega) (by omega),d2.mono (by omega) (by omega)⟩
 ·unfold Cc
  rw[Z];exact G0 (s.kind%8) X
 ·have:=List.all_eq_true.1 R i (List.mem_range.2 N)
  simpa using this
 ·have:=List.all_eq_true.1 h3 t M
  unfold ZM;split at this
  ·rename_i p q r C B u
   exact⟨p,q,r,C,B,u,by simpa using this⟩
  ·cases this
theorem F9(s:af1):kO prog 131 [.agg [.slice 0 0 s.P.length none,.slice 1 0 s.T.length none]] [.cells false 2 (pC s.P),.cells false 3 (tC s.T)] (.int .i64 0) [.cells false 2 (pC s.P),.cells false 3 (tC s.T)]:=
 F8 (AK s)
end Go.Proofs
