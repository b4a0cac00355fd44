/- See F54. -/
import Derived.Test.YtgafjliihahjgaaGreatDoorF18
import Derived.Test.YtgafjliihahjgaaGreatDoorF19
import Derived.Test.YtgafjliihahjgaaGreatDoorF12
set_option linter.all false
set_option maxRecDepth 100000
set_option maxHeartbeats 40000000
namespace Go.Proofs
open Go.Eng
open Tryz
def uE(a:Nat):AV×AV:=(.int .i64 (a:Int),.bool true)
def YE(L:List Nat)(a:Nat):List Nat:=if a∈L then L else L++[a]
def ZR(L:List Nat)(t:Tr):List Nat:=YE (YE (YE L t.1) t.2.1) t.2.2
def MK(A:List Tr):List Nat:=A.foldl ZR []
theorem Xd{α:Type}{l:List α}{i:Nat}{x:α}(h:l[i]? =some x):l.set i x=l:=by
 apply List.ext_getElem?;intro j;rw[List.getElem?_set];by_cases Z:i=j
 ·subst Z
  rw[if_pos rfl,if_pos (gL h),h]
 ·rw[if_neg Z]
theorem xc(a:Nat):∀(L:List Nat) (i:Nat),(a∉L→jn (aN prog) 3 (.int .i64 (a:Int)) (L.map uE) i=some none)∧(a∈L→∃q,jn (aN prog) 3 (.int .i64 (a:Int)) (L.map uE) i=some (some (i+q,.bool true))∧L[q]? =some a)
 | [],i=>⟨fun _=>rfl,fun h=>by cases h⟩
 |b::L,i=>by
  have e:lz (aN prog) 20 3 (.int .i64 (a:Int)) (.int .i64 (b:Int))=some (decide ((a:Int)=(b:Int))):=by simp[lz]
  simp only[List.map_cons,jn,uE,e];have X:=xc a L (i+1);by_cases h:a=b
  ·subst h
   simp only[decide_true];exact⟨fun h=>absurd (List.mem_cons_self ..) h,fun _=>⟨0,rfl,rfl⟩⟩
  ·have W :¬((a:Int)=(b:Int)):=by omega
   simp only[W,decide_false];refine⟨fun V=>X.1 (fun Z=>V (List.mem_cons_of_mem _ Z)),fun S=>?_⟩;rcases List.mem_cons.1 S with Z | Z
   ·exact absurd Z h
   ·obtain⟨q,O,M⟩:=X.2 Z
    exact⟨q+1,by rw[O,show i+1+q=i+(q+1) by omega],by simpa using M⟩
theorem SD(M:Mem)(b:Nat)(L:List Nat)(a:Nat)(A:M[b]? =some (.map (L.map uE))):fA (aN prog) M 255 (.map b) (.int .i64 (a:Int)) (.bool true)=some (M.set b (.map ((YE L a).map uE))):=by
 have Z:lG (aN prog) 20 3 (.int .i64 (a:Int))=true:=by simp[lG]
 unfold fA;rw[Lb];simp only[A,Z,if_true];by_cases h:a∈L
 ·obtain⟨q,X,W⟩:=(xc a L 0).2 h
  rw[X];have:YE L a=L:=if_pos h;rw[this,Nat.zero_add];simp only[AV.afL,if_true];rw[show((.int .i64 (a:Int),.bool true):AV×AV)=uE a from rfl,Xd (l:=L.map uE) (i:=q) (x:=uE a) (by rw[List.getElem?_map,W];rfl)]
 ·rw[(xc a L 0).1 h]
  have:YE L a=L++[a]:=if_neg h;rw[this];simp[uE]
theorem Va(n:Nat):∀L:List Nat,(L.map uE).flatMap (fun e=>e.1.refs n++e.2.refs n)=[]
 | []=>rfl
 |p::N=>by simp[uE,AV.refs,Va n N]
variable{TS:List Tr}{n:Nat}
theorem Sj{t:Tr}(h:TS[n]? =some t):MK (TS.take (n+1))=ZR (MK (TS.take n)) t:=by rw[List.take_add_one,h];simp[MK]
def vE(A:List P2)(TS:List Tr)(D:List (AV×AV))(L:List Nat):Mem:=[.cells false 2 (pC A),.cells false 3 (tC TS),msB A.length TS.length,.map D,.map (L.map uE)]
def BC(c:Code):List Nat:=if (ab c).contains 23 then [23] else [28]
variable{K:Nat}{b:Code}
theorem BD{O:aeT}(A:List P2)(TS:List Tr)(D:List (AV×AV))(H:TS.length≤1000000000)(I:D.flatMap (fun e=>e.1.refs 5++e.2.refs 5)=[])(hK:TS.length<K+5){R:Code}(G:ai f107=[b,R]):
  ∃F:Env→Bool→Env,∀Z d,(ad Z 5=.map 4∧ad Z 21=.slice 1 0 TS.length none∧ad Z 22=.int .i64 TS.length∧ad Z 23=.int .i64 0∧ad Z 1=.ptr 2 0∧ad Z 3=.map 3)→
   aM (aN prog) BC O (K+5) 55 2 true (.loop b) ⟨Z,vE A TS D [],d⟩=some (.exit 0,⟨F Z d,vE A TS D (MK TS),d⟩)∧ad (F Z d) 1=.ptr 2 0∧ad (F Z d) 3=.map 3∧ad (F Z d) 5=.map 4:=by
 refine cD (L:=[23]) (by simp[ai,aG,f107] at G;rw[←G.1];rfl) (fun Z=>ad Z 5=.map 4∧ad Z 21=.slice 1 0 TS.length none∧ad Z 22=.int .i64 TS.length∧ad Z 23=.int .i64 0∧ad Z 1=.ptr 2 0∧ad Z 3=.map 3) (fun _ S =>ad S 1=.ptr 2 0∧ad S 3=.map 3∧ad S 5=.map 4) ?_;rintro Z d ⟨h5,h21,h22,h23,h1,h3⟩;simp[ai,aG,f107] at G;obtain⟨G,-⟩:=G;have X:aD [23] (ab b) Z ((23,.int .i64 ((0:Nat):Int))::Z)=aD [23] (ab b) Z Z:=by simp[aD,h23]
 rw[←X];refine dh (α:=Nat) (fun n=>⟨aD [23] (ab b) Z ((23,.int .i64 (n:Int))::Z),vE A TS D (MK (TS.take n)),d⟩) (fun n=>TS.length-n) (fun n=>n≤TS.length) (.exit 0) _ d _ (by simp) ?_ (K+5) 0 (by omega) (by omega);intro n hn1;clear X;subst G;by_cases M:n<TS.length
 ·left
  obtain⟨t,J⟩:∃q,TS[n]? =some q:=⟨TS[n],List.getElem?_eq_getElem M⟩
  obtain⟨C,k2⟩:=Ph J;have W:=Sj J;obtain⟨B,z,j⟩:=t;simp only[ZR] at C W;have w1:IntKind.i64.wrap ((n:Int)+1)=((n+1:Nat):Int):=by rw[aq];omega
  obtain⟨m,hm⟩:=xE (n+1);rw[←hm] at w1 W;obtain⟨L,Y⟩:=xE (MK (TS.take n));rw[←Y] at W;rw[←Y];have v1:IntKind.i64.wrap 1=1:=rfl;have v2:IntKind.i64.wrap 2=2:=rfl;have v3:IntKind.i64.wrap 3=3:=rfl;have v2' :IntKind.i64.wrap (1+1)=2:=rfl;have v3' :IntKind.i64.wrap (2+1)=3:=rfl;have u:∀(V :List Nat) (a:Nat),fA (aN prog) [.cells false 2 (pC A),.cells false 3 (tC TS),.cells true 0 [.slice 0 0 A.length none,.slice 1 0 TS.length none],.map D,.map (V.map uE),.cells true 0 [.int .i64 (B:Int),.int .i64 (z:Int),.int .i64 (j:Int)]] 255 (.map 4) (.int .i64 (a:Int)) (.bool true)=
    some [.cells false 2 (pC A),.cells false 3 (tC TS),.cells true 0 [.slice 0 0 A.length none,.slice 1 0 TS.length none],.map D,.map ((YE V a).map uE),.cells true 0 [.int .i64 (B:Int),.int .i64 (z:Int),.int .i64 (j:Int)]]:=fun V a=>SD _ 4 V a rfl
  refine⟨m,?_⟩;simp[vE,h5,h21,h22,M,C,k2,aQ,er,v1,v2,v3,BC,u,I,W,msB,ef,eW,Va,w1];omega
 ·right
  have e:TS.take n=TS:=List.take_of_length_le (by omega);rw[e];have aae :¬(n:Int)<TS.length:=by omega
  simp[h22,h1,h3,h5,M]
theorem Yp(f:Nat→Option Nat)(A:List Sd):(A.map sdE).map (fun e=>(e.1.ren f,e.2.ren f))=A.map sdE:=by rw[List.map_map];exact List.map_congr_left fun s _=>Pb f s
theorem Xc(f:Nat→Option Nat)(A:List Sd):A.map ((fun(e:AV×AV)=>(e.1.ren f,e.2.ren f))∘sdE)=A.map sdE:=
 List.map_congr_left fun s _=>Pb f s
def Bw(G:List P2)(TS:List Tr)(A:List Sd):Prop:=
 kO prog 160 [.agg [.slice 0 0 G.length none,.slice 1 0 TS.length none]] [.aeP,.cells false 3 (tC TS)] (.tuple [.map 2,.bool true]) ([.aeP,.cells false 3 (tC TS)]++[.map (A.map sdE)])
structure Tryz.Whole (PS:List P2)(TS:List Tr)(sds:List Sd)(cyc:List Nat):Prop where
 dg:∀p∈PS,pDg 2 p
 nodup:PS.Nodup
 ahC:Bw PS TS sds
 outer:uN sds=true
 cy:BR (sM sds)=some (cyc.map fun(n:Nat)=>(n:Int))
 used:(MK TS).length=PS.length
 once:UX PS cyc
 tr:∀t∈TS,ZP PS t
 len:PS.length≤400
 ahD:TS≠[]
 ahz:TS.length≤800
 ahE:cyc.length≤1000000
open Classical in
noncomputable def Ac(H:List P2)(TS:List Tr)(G:List Sd)(A:List Nat):aeT:=fun c Z M=>match c,Z with
 |.fn 160,[.agg [.slice b 0 n none,.slice c 0 k none]]=>if n=H.length∧k=TS.length∧b<M.length∧(∃o,M[c]? =some (.cells o 3 (tC TS))) then some ⟨.tuple [.map M.length,.bool true],none,[.map (G.map sdE)]⟩ else none
 |.fn 161,[.agg [.slice b 0 _ none,.slice c 0 _ none],.map q]=>if b<M.length∧c<M.length∧RY M q=some (G.map sdE) then some ⟨.tuple [.slice M.length 0 A.length none,.bool true],none,[.cells true 1 (cZ A)]⟩ else none
 |.fn 162,[.agg [.slice b 0 n none,.slice c 0 _ none],.slice q 0 l none]=>if n=H.length∧l=A.length∧c<M.length∧(∃o,M[b]? =some (.cells o 2 (pC H)))∧(∃o,M[q]? =some (.cells o 1 (cZ A))) then some ⟨.bool true,none,[]⟩ else none
 |_,_=>none
theorem Lt:∀Z:List Nat,AV.ae0 (cZ Z)=true
 | []=>rfl
 |c::l=>by have:=Lt l;simp only[cZ] at this;simp[cZ,AV.ae0,AV.closed,this]
theorem ZE(A:List Nat):iZ (A.map fun(n:Nat)=>(n:Int))=cZ A:=by simp[iZ,cZ]
theorem rm{M:Mem}{b:Nat}{s:aeY}(h:M[b]? =some s):b<M.length:=gL h
variable{PS:List P2}{cyc:List Nat}{sds:List Sd}
section
variable (hw:Whole PS TS sds cyc)
include hw
theorem Oq:HS prog (Ac PS TS sds cyc):=by
 refine dE fun c V M r h=>?_
 unfold Ac at h;split at h
 ·rename_i b n c k
  split at h
  ·rename_i hc
   obtain⟨rfl,rfl,J,o,X⟩:=hc;cases h;refine aI ?_;have:=kO.frame (M:=M) (new:=[.map (sds.map sdE)]) [b,c] (m:=[.aeP,.cells false 3 (tC TS)]) rfl (by
    intro k S;simp only[lM] at S;rcases S with rfl | rfl
    ·exact J
    ·exact rm X) (by rfl) (fun i s Z=>by
    match i with
    |0=>simp at Z;subst Z;trivial
    |1=>simp at Z;subst Z;exact bu (dV TS) X (List.take_length)
    |i+2=>simp at Z) rfl hw.ahC
   simpa [AV.ae3,AV.ren,dL,aeY.ren,Yp,Xc] using this
  ·cases h
 ·rename_i b n c k q
  split at h
  ·rename_i hc
   obtain⟨J,W,X⟩:=hc;cases h;refine aI ?_;have:=xX M sds (cyc.map fun(n:Nat)=>(n:Int)) q b c n k J W X hw.outer hw.cy;rw[ZE,List.length_map] at this;exact this
  ·cases h
 ·rename_i b n c k q l
  split at h
  ·rename_i hc
   obtain⟨rfl,rfl,W,⟨o,X⟩,⟨F,O⟩⟩:=hc;cases h;refine aI ?_;have:=kO.frame (M:=M) (new:=[]) (args:=[.agg [.slice 0 0 PS.length none,.slice 1 0 k none],.slice 2 0 cyc.length none]) [b,c,q] (m:=[.cells false 2 (pC PS),.aeP,.cells false 1 (cZ cyc)]) rfl (by
    intro k S;simp only[lM] at S;rcases S with rfl | rfl | rfl
    ·exact rm X
    ·exact W
    ·exact rm O) (by rfl) (fun i s Z=>by
    match i with
    |0=>simp at Z;subst Z;exact bu (dA PS) X (List.take_length)
    |1=>simp at Z;subst Z;trivial
    |2=>simp at Z;subst Z;exact bu (Lt cyc) O (List.take_length)
    |i+3=>simp at Z) rfl (by simpa using Nd PS k cyc hw.dg hw.once hw.ahE)
   simpa [AV.ae3,AV.ren,dL] using this
  ·cases h
 ·cases h
theorem H8:
  kO prog 107 [.agg [.slice 0 0 PS.length none,.slice 1 0 TS.length none]] [.cells false 2 (pC PS),.cells false 3 (tC TS)] (.bool true) [.cells false 2 (pC PS),.cells false 3 (tC TS)]:=by
 have C:aK prog 107=some f107:=by kernel_rfl
 have z:=hw.len;have B:=hw.ahz;obtain⟨b,J,W⟩:∃b J,ai f107=[b,J]:=⟨_,_,rfl⟩
 obtain⟨K,u⟩:=xE TS.length;obtain⟨F,X⟩:=BD (O:=Ac PS TS sds cyc) (K:=K) PS TS (sds.map sdE) (by omega) (rI 5 sds) (by omega) W;simp[ai,aG,f107] at W;obtain⟨rfl,rfl⟩:=W;have D:=fun Z d h=>(X Z d h).1
 have V:=fun Z d h=>(X Z d h).2.1
 have S:=fun Z d h=>(X Z d h).2.2.1
 have M:=fun Z d h=>(X Z d h).2.2.2
 clear X;have hu:=hw.used;refine cR (lv:=BC) (K:=(K+5)) (Oq hw) ?_;simp only[vE,List.map_nil,msB] at D;simp[aa,C,f107,D,V,S,M,Ac,RY,hu]
theorem N8:HS prog (oA true PS TS):=by
 refine dE fun c Z M r h=>?_
 unfold oA at h;split at h
 ·rename_i b n c k
  split at h
  ·rename_i hc
   obtain⟨rfl,rfl,⟨o,V⟩,⟨O,X⟩⟩:=hc;cases h;refine aI ?_;have:=kO.frame (M:=M) (new:=[]) (args:=[.agg [.slice 0 0 PS.length none,.slice 1 0 TS.length none]]) [b,c] (m:=[.cells false 2 (pC PS),.cells false 3 (tC TS)]) rfl (by
    intro k S;simp only[lM] at S;rcases S with rfl | rfl
    ·exact rm V
    ·exact rm X) (by rfl) (fun i s W=>by
    match i with
    |0=>simp at W;subst W;exact bu (dA PS) V (List.take_length)
    |1=>simp at W;subst W;exact bu (dV TS) X (List.take_length)
    |i+2=>simp at W) rfl (by simpa using H8 hw)
   simpa [AV.ae3,AV.ren,dL] using this
  ·cases h
 ·split at h
  ·rename_i hc
   cases hc.1
  ·cases h
 ·exact jx Bn h
theorem Ff:
  kO prog 59 [.agg [.slice 0 0 PS.length none,.slice 1 0 TS.length none]] [.cells false 2 (pC PS),.cells false 3 (tC TS)] (.int .i64 0) [.cells false 2 (pC PS),.cells false 3 (tC TS)]:=by
 have m:aK prog 59=some f59:=by kernel_rfl
 have G:=hw.len;have j:=hw.ahz;have Y:0<TS.length:=by have:=hw.ahD;cases TS with | nil=>exact absurd rfl this | cons a l=>simp
 obtain⟨J,D,C,B,z,W⟩:∃J D C B z,ai f59=[J,D,C,B,z]:=⟨_,_,_,_,_,rfl⟩
 obtain⟨K,A⟩:=xE (PS.length+TS.length);obtain⟨F,V⟩:=xi (K:=K+5) true PS TS hw.dg hw.nodup (by omega) (by omega) W;obtain⟨F2,S⟩:=xj (K:=K) true PS TS (PS.map pmE) hw.dg hw.tr (by omega) (by omega) (He 4 PS) (by omega) W;simp[ai,aG,f59] at W;obtain⟨rfl,rfl,rfl,rfl,rfl⟩:=W;have u:=fun Z d h=>(V Z d h).1
 have X:=fun Z d h=>(S Z d h).1
 have O:=fun Z d h=>(V Z d h).2
 have M:=fun Z d h=>(S Z d h).2
 clear V S;have R:¬(800:Int)<TS.length:=by omega
 have I:¬(400:Int)<PS.length:=by omega
 have n3:¬800<TS.length:=by omega
 have n4:¬400<PS.length:=by omega
 have H:¬TS.length=0:=by omega
 have n6:¬(TS.length:Int)=0:=by omega
 refine cR (lv:=vv) (K:=(K+5)) (N8 hw) ?_;simp only[msB] at u X;simp[aa,m,f59,u,X,O,M,oA,R,I,H]
end
noncomputable def Gh(f:FuncId)(args:List AV):Option AV:=
 match f,args with
 |56,[.int .i64 n,.int .i64 d]=>if (d=1∨d=2)∧ -7≤n∧n≤13 then some (.tuple [.str (ak (mkRat n d.toNat)),.int .i64 0]) else none
 |_,_=>none
theorem Ra:HS prog (af Gh):=bH fun f Z v h mem=>by
 unfold Gh at h;split at h
 ·rename_i n d
  split at h
  ·rename_i hc
   cases h;have:=SA n d.toNat (by omega) hc.2.1 hc.2.2 mem;rw[Int.toNat_of_nonneg (by omega)] at this;exact this
  ·cases h
 ·cases h
theorem dO{n:Int}(h0: -1000000≤n)(A:n≤1000000):IntKind.i64.wrap n=n:=by rw[aq]
theorem H3(s:aeX)(hs:s.Ok)(x y:Int)(A:0≤x)(G:x≤6)(H:0≤y)(I:y≤6)(M:Mem):
  kO prog 33 [s.av,.agg [.int .i8 x,.int .i8 y],.int .i64 1] M (pA (s.pt 1 x y)) M:=by
 have V:aK prog 33=some f33:=by kernel_rfl
 obtain⟨kd,Z,X,S⟩:=s;have O:=DO Z;have J:=DO X;unfold aeX.av aeX.pt;simp only;obtain⟨u,hu⟩:=xE (Z.tmod 8);obtain⟨v,W⟩:=xE (X.tmod 8);rw[←hu] at O ⊢;rw[←W] at J ⊢;refine aA Ra ?_ M;have F:IntKind.i64.wrap x=x:=dO (by omega) (by omega);have D:IntKind.i64.wrap y=y:=dO (by omega) (by omega);have C:IntKind.i64.wrap u=u:=dO (by omega) (by omega);have B:IntKind.i64.wrap v=v:=dO (by omega) (by omega);have z:IntKind.i64.wrap (x+u)=x+u:=dO (by omega) (by omega);have m:IntKind.i64.wrap (y+v)=y+v:=dO (by omega) (by omega);have j:IntKind.i64.wrap 1=1:=rfl;have Y:IntKind.i64.wrap 2=2:=rfl;have f1: -7≤x+u:=by omega
 have R:x+u≤13:=by omega
 have f2: -7≤y+v:=by omega
 have g2:y+v≤13:=by omega
 cases S<;>simp[aa,V,f33,af,Gh,←hu,←W,F,D,C,B,z,m,j,Y,f1,f2,R,g2,bW,aE,pA]
theorem Fe(k:Nat)(A:k<256):kO prog 45 [.int .u8 (k:Int)] [] (.tuple [.slice 0 0 (dM (k%8)).length none,.slice 1 0 (bJ (k%8)).length none]) [.cells true 2 (iP (dM (k%8))),.cells true 3 (tC (bJ (k%8)))]:=by
 have S:aK prog 45=some f45:=by kernel_rfl
 have X:(k:Int).tmod 8=((k%8:Nat):Int):=rfl;have W:k%8<8:=Nat.mod_lt _ (by omega);obtain⟨j,V⟩:=xE (k%8);rw[←V] at X W ⊢;have h:aa (aN prog) (fun _=>[]) (aK prog) bM 1 45 [.int .u8 (k:Int)] []=some ⟨.tuple [.slice 0 0 (dM j).length none,.slice 1 0 (bJ j).length none],none,[.cells true 2 (iP (dM j)),.cells true 3 (tC (bJ j))]⟩:=by
  have Z:j=0∨j=1∨j=2∨j=3∨j=4∨j=5∨j=6∨j=7:=by omega
  clear W V;rcases Z with rfl | rfl | rfl | rfl | rfl | rfl | rfl | rfl<;>simp[aa,S,f45,X,dM,bJ,sqI,iP,tC,bW]<;>exact⟨rfl,rfl⟩
 have:=(ah ae (ar _) (al _) (au _) h).1;simpa [aeQ.mem] using this
theorem H4(k:Nat)(A:k<256)(M:Mem):kO prog 45 [.int .u8 (k:Int)] M (.tuple [.slice M.length 0 (dM (k%8)).length none,.slice (M.length+1) 0 (bJ (k%8)).length none]) (M++[.cells true 2 (iP (dM (k%8))),.cells true 3 (tC (bJ (k%8)))]):=by have:=kO.frame (M:=M) (new:=[.cells true 2 (iP (dM (k%8))),.cells true 3 (tC (bJ (k%8)))]) (args:=[.int .u8 (k:Int)]) [] (m:=[]) rfl (by simp) (by rfl) (fun i s Z=>by simp at Z) rfl (Fe k A);simpa [AV.ren,AV.ae3,dL,aeY.ren,Ur,iS] using this
noncomputable def oz(s:aeX):aeT:=fun c Z M=>match c,Z with
 |.fn 45,[.int .u8 k]=>if k=(s.kind:Int) then some ⟨.tuple [.slice M.length 0 (dM (s.kind%8)).length none,.slice (M.length+1) 0 (bJ (s.kind%8)).length none],none,[.cells true 2 (iP (dM (s.kind%8))),.cells true 3 (tC (bJ (s.kind%8)))]⟩ else none
 |.fn 33,[.agg [.int .u8 k,.int .i8 sx,.int .i8 sy,.bool h],.agg [.int .i8 x,.int .i8 y],.int .i64 n]=>if k=(s.kind:Int)∧sx=s.sx∧sy=s.sy∧h=s.half∧0≤x∧x≤6∧0≤y∧y≤6∧n=1 then some ⟨pA (s.pt 1 x y),none,[]⟩ else none
 |_,_=>none
theorem N4(s:aeX)(hs:s.Ok):HS prog (oz s):=by
 refine dE fun c Z M r h=>?_
 unfold oz at h;split at h
 ·split at h
  ·rename_i hc
   subst hc;cases h;exact aI (H4 s.kind hs.kind M)
  ·cases h
 ·split at h
  ·rename_i hc
   obtain⟨rfl,rfl,rfl,rfl,X,W,h3,V,rfl⟩:=hc;cases h;refine aI ?_;rw[List.append_nil];exact H3 s hs _ _ X W h3 V M
  ·cases h
 ·cases h
def Vm(L:List (Int×Int)):Prop:=∀p∈L,0≤p.1∧p.1≤6∧0≤p.2∧p.2≤6
theorem MB(k:Nat)(A:k<8):Vm (dM k):=by
 have Z:k=0∨k=1∨k=2∨k=3∨k=4∨k=5∨k=6∨k=7:=by omega
 rcases Z with rfl | rfl | rfl | rfl | rfl | rfl | rfl | rfl<;>(unfold Vm;decide)
def Y8(n:Nat):AV:=match n with
 |0=>.y9
 |n+1=>.slice 5 0 (n+1) none
def OT(s:aeX)(A:List (Int×Int))(TS:List Tr)(n:Nat):Mem:=
 [.cells true 0 [.int .u8 s.kind,.int .i8 s.sx,.int .i8 s.sy,.bool s.half],.cells true 0 [.y9,.y9],.cells true 2 (iP A),.cells true 3 (tC TS),.cells true 0 [Y8 n,.slice 3 0 TS.length none]]++
  (match n with
  |0=>[]
  |n+1=>[.cells true 2 (pC ((A.take (n+1)).map fun p=>s.pt 1 p.1 p.2))])
theorem Cf{s:aeX}{A:List (Int×Int)}(h:0<n):OT s A TS n=
  [.cells true 0 [.int .u8 s.kind,.int .i8 s.sx,.int .i8 s.sy,.bool s.half],.cells true 0 [.y9,.y9],.cells true 2 (iP A),.cells true 3 (tC TS),.cells true 0 [.slice 5 0 n none,.slice 3 0 TS.length none],.cells true 2 (pC ((A.take n).map fun p=>s.pt 1 p.1 p.2))]:=by
 cases n with
 |zero=>omega
 |succ n=>rfl
theorem Bm(s:aeX)(A:List (Int×Int))(TS:List Tr)(G:Vm A)(hl:A.length≤1000000)(hK:A.length<K)(hb:ai f27=[b]):
  ∃F:Env→Env,∀Z,(ad Z 1=.ptr 0 0∧ad Z 3=.slice 2 0 A.length none∧ad Z 5=.ptr 4 0∧ad Z 6=.int .i64 0∧ad Z 2=.ptr 1 0)→
   aM (aN prog) (fun _=>[6,6]) (oz s) K 42 0 true (.loop b) ⟨Z,OT s A TS 0,false⟩=some (.exit 0,⟨F Z,OT s A TS A.length,decide (0<A.length)⟩)∧ad (F Z) 5=.ptr 4 0∧ad (F Z) 2=.ptr 1 0:=by
 refine uJ (L:=[6,6]) rfl false _ (fun Z=>ad Z 1=.ptr 0 0∧ad Z 3=.slice 2 0 A.length none∧ad Z 5=.ptr 4 0∧ad Z 6=.int .i64 0∧ad Z 2=.ptr 1 0) (fun _ AC =>ad AC 5=.ptr 4 0∧ad AC 2=.ptr 1 0) ?_;rintro Z ⟨h1,h3,h5,h6,h2⟩;obtain⟨M,H⟩:∃M,aC f27=[M]:=⟨_,rfl⟩
 have I':=iY H (l:=[0,1,0,0,0,24,56,120,248,0,0,1536,3584,7680,15872,32760,65532,131068,262143,524287,1048575]) (by kernel_rfl);have J:qQ [0,1,0,0,0,24,56,120,248,0,0,1536,3584,7680,15872,32760,65532,131068,262143,524287,1048575] 21 17=true:=by decide
 have D:qQ [0,1,0,0,0,24,56,120,248,0,0,1536,3584,7680,15872,32760,65532,131068,262143,524287,1048575] 21 18=true:=by decide
 have C:qQ [0,1,0,0,0,24,56,120,248,0,0,1536,3584,7680,15872,32760,65532,131068,262143,524287,1048575] 21 20=true:=by decide
 have B:ba [0,1,0,0,0,24,56,120,248,0,0,1536,3584,7680,15872,32760,65532,131068,262143,524287,1048575] 18=true:=by decide
 have u:ba [0,1,0,0,0,24,56,120,248,0,0,1536,3584,7680,15872,32760,65532,131068,262143,524287,1048575] 20=true:=by decide
 simp[aC,bn,f27] at H;simp[ai,aG,f27] at hb;have W:aD [6,6] (ab b) Z ((6,.int .i64 ((0:Nat):Int))::Z)=aD [6,6] (ab b) Z Z:=by simp[aD,h6]
 rw[←W];refine dh (α:=Nat) (fun n=>⟨aD [6,6] (ab b) Z ((6,.int .i64 (n:Int))::Z),OT s A TS n,decide (0<n)⟩) (fun n=>A.length-n) (fun n=>n≤A.length) (.exit 0) _ _ _ (by simp) ?_ K 0 (by omega) (by omega);intro n hn1;clear W;subst hb;subst H;by_cases FS:n<A.length
 ·left
  obtain⟨p,hp⟩:∃q,A[n]? =some q:=⟨A[n],List.getElem?_eq_getElem FS⟩
  obtain⟨q1,q2,q3⟩:=ZH hp;obtain⟨x0,x1,y0,y1⟩:=G p (List.mem_of_getElem? hp);obtain⟨S,O⟩:=p;simp only at q1 q2 x0 x1 y0 y1;have V:(A.take (n+1)).map (fun p=>s.pt 1 p.1 p.2)=(A.take n).map (fun p=>s.pt 1 p.1 p.2)++[s.pt 1 S O]:=by rw[List.take_add_one,hp];simp
  have v1:IntKind.i8.wrap S=S:=Vv (by omega) (by omega);have v2:IntKind.i8.wrap O=O:=Vv (by omega) (by omega);have c1:0≤S:=by omega
  have c2:S≤6:=by omega
  have c3:0≤O:=by omega
  have c4:O≤6:=by omega
  have w1:IntKind.i64.wrap ((n:Int)+1)=((n+1:Nat):Int):=by rw[aq];omega
  obtain⟨P,I⟩:=xE ((A.take n).map (fun p=>s.pt 1 p.1 p.2));have j:P.length=n:=by rw[I,List.length_map,List.length_take];omega
  obtain⟨z,hz⟩:=xE (s.pt 1 S O);rw[←I,←hz] at V;have X:pC (P++[z])=pC P++[.str (ak z.1),.str (ak z.2)]:=by rw[Cu];rfl
  have Y:=wo P;rw[j] at Y;obtain⟨m,hm⟩:=xE (n+1);refine⟨m,?_⟩;by_cases W:n=0
  ·subst W
   have hm1:m=1:=by omega
   subst hm1;have hP0:P=[]:=List.eq_nil_of_length_eq_zero j;rw[hP0] at V X;simp at V X;have w0:IntKind.i64.wrap 1=1:=rfl;simp[OT,Y8,h1,h3,h5,FS,q1,q2,v1,v2,c1,c2,c3,c4,w0,oz,←hz,pA,-aB,jv I',ky,rn,yD,bR,J,D,C,B,u,V,X,ON,eW,Ur,iS,Zc,bW,Nat.testBit];omega
  ·have Z6:0<n:=by omega
   rw[←hm] at w1 V;have R:0<m:=by omega
   have hd1:decide (0<n)=true:=by simpa using Z6
   rw[Cf Z6,Cf R,hd1,←I,V,X];clear I V X;have g1:m*32≤140737488355328:=by omega
   have g2:n≤140737488355327:=by omega
   have g5:(OT s A TS 0).length=5:=rfl;have g4:m≤140737488355328:=by omega
   have g3:(pC P).take (n*2)=pC P:=List.take_of_length_le (by omega);simp[h1,h3,h5,FS,q1,q2,v1,v2,c1,c2,c3,c4,w1,oz,←hz,pA,-aB,jv I',ky,rn,yD,bR,J,D,C,B,u,Y,R,←hm,g1,g4,g3,g5,Cv,ON,eW,ef,Ur,iS,gx,bW,Nat.testBit];omega
 ·right
  have e:n=A.length:=by omega
  subst e;simp[h3,h5,h2]
theorem Se(k:Nat):0<(dM k).length:=by unfold dM;split<;>simp[sqI]
theorem EP(k:Nat):(dM k).length≤6:=by unfold dM;split<;>simp[sqI]
theorem aeX.agd(s:aeX):s.P.length=(dM (s.kind%8)).length:=by simp[aeX.P]
theorem HY(s:aeX)(hs:s.Ok):kO prog 27 [s.av] [] (.agg [.slice 0 0 s.P.length none,.slice 1 0 s.T.length none]) [.cells true 2 (pC s.P),.cells true 3 (tC s.T)]:=by
 have z:aK prog 27=some f27:=by kernel_rfl
 have C:=Se (s.kind%8);have u:=EP (s.kind%8);obtain⟨b,M⟩:∃b,ai f27=[b]:=⟨_,rfl⟩
 obtain⟨F,W⟩:=Bm (K:=10) s (dM (s.kind%8)) (bJ (s.kind%8)) (MB _ (Nat.mod_lt _ (by omega))) (by omega) (by omega) M;simp[ai,aG,f27] at M;subst M;have m:decide (0<(dM (s.kind%8)).length)=true:=by simpa using C
 rw[Cf C,m,List.take_length] at W;have J:=fun V h=>(W V h).1
 have S:=fun V h=>(W V h).2.1
 have O:=fun V h=>(W V h).2.2
 clear W;have D:OT s (dM (s.kind%8)) (bJ (s.kind%8)) 0=[.cells true 0 [.int .u8 s.kind,.int .i8 s.sx,.int .i8 s.sy,.bool s.half],.cells true 0 [.y9,.y9],.cells true 2 (iP (dM (s.kind%8))),.cells true 3 (tC (bJ (s.kind%8))),.cells true 0 [.y9,.slice 3 0 (bJ (s.kind%8)).length none]]:=rfl;rw[D] at J;rw[aeX.agd];unfold aeX.P aeX.T;obtain⟨B,Z⟩:=xE (dM (s.kind%8));obtain⟨ST,X⟩:=xE (bJ (s.kind%8));rw[←Z,←X] at J;rw[←Z] at S O;rw[←Z,←X];have h:aa (aN prog) (fun _=>[6,6]) (aK prog) (oz s) 10 27 [s.av] []=some ⟨.agg [.slice 0 0 B.length none,.slice 1 0 ST.length none],some [],[.cells true 2 (pC (B.map fun p=>s.pt 1 p.1 p.2)),.cells true 3 (tC ST)]⟩:=by simp[aa,z,f27,aeX.av,J,S,O,oz,←Z,←X,eW,ef,iS,gx,bW,aE];exact⟨rfl,rfl⟩
 have:=(ah ae (ar _) (N4 s hs) (au _) h).1;simpa [aeQ.mem] using this
theorem Nb(s:aeX)(hs:s.Ok)(M:Mem):kO prog 27 [s.av] M (.agg [.slice M.length 0 s.P.length none,.slice (M.length+1) 0 s.T.length none]) (M++[.cells true 2 (pC s.P),.cells true 3 (tC s.T)]):=by have:=kO.frame (M:=M) (new:=[.cells true 2 (pC s.P),.cells true 3 (tC s.T)]) (args:=[s.av]) [] (m:=[]) rfl (by simp) (by rfl) (fun i s hs=>by simp at hs) rfl (HY s hs);simpa [AV.ren,AV.ae3,dL,aeY.ren,gx,iS,aeX.av] using this
def ix(PS:List P2)(TS:List Tr)(cyc:List Nat):Bool:=
 decide PS.Nodup&&(PS.all fun p=>decide (p.1.num.natAbs<100)&&decide (p.1.den<10)&&decide (p.2.num.natAbs<100)&&decide (p.2.den<10))&&
  (TS.all fun t=>match PS[t.1]?,PS[t.2.1]?,PS[t.2.2]? with
   |some p,some q,some r=>decide (0<jV (bU p q r))
   |_,_,_=>false)&&
  ((List.range cyc.length).all fun i=>decide (0≤jV (bU (Cx PS cyc i) (Cx PS cyc (i+1)) (Cx PS cyc (i+2)))))&&decide (lf PS cyc cyc.length=1)
def W4(k:Nat)(u v:Int)(h:Bool):List P2:=
 (dM k).map fun p=>(mkRat (p.1+u*(1:Nat)) ((if h then 2 else 1)*1),mkRat (p.2+v*(1:Nat)) ((if h then 2 else 1)*1))
theorem Yr:((List.range 15).all fun a=>(List.range 15).all fun b=>[false,true].all fun h=>ix (W4 0 ((a:Int)-7) ((b:Int)-7) h) (bJ 0) (lx 0))=true:=by kernel_rfl
theorem Yt:((List.range 15).all fun a=>(List.range 15).all fun b=>[false,true].all fun h=>ix (W4 1 ((a:Int)-7) ((b:Int)-7) h) (bJ 1) (lx 1))=true:=by kernel_rfl
theorem Yu:((List.range 15).all fun a=>(List.range 15).all fun b=>[false,true].all fun h=>ix (W4 2 ((a:Int)-7) ((b:Int)-7) h) (bJ 2) (lx 2))=true:=by kernel_rfl
theorem Yv:((List.range 15).all fun a=>(List.range 15).all fun b=>[false,true].all fun h=>ix (W4 3 ((a:Int)-7) ((b:Int)-7) h) (bJ 3) (lx 3))=true:=by kernel_rfl
theorem Yw:((List.range 15).all fun a=>(List.range 15).all fun b=>[false,true].all fun h=>ix (W4 4 ((a:Int)-7) ((b:Int)-7) h) (bJ 4) (lx 4))=true:=by kernel_rfl
theorem Yx:((List.range 15).all fun a=>(List.range 15).all fun b=>[false,true].all fun h=>ix (W4 5 ((a:Int)-7) ((b:Int)-7) h) (bJ 5) (lx 5))=true:=by kernel_rfl
theorem Yy:((List.range 15).all fun a=>(List.range 15).all fun b=>[false,true].all fun h=>ix (W4 6 ((a:Int)-7) ((b:Int)-7) h) (bJ 6) (lx 6))=true:=by kernel_rfl
theorem Yz:((List.range 15).all fun a=>(List.range 15).all fun b=>[false,true].all fun h=>ix (W4 7 ((a:Int)-7) ((b:Int)-7) h) (bJ 7) (lx 7))=true:=by kernel_rfl
theorem Sf(k:Nat)(A:k<8):((List.range 15).all fun a=>(List.range 15).all fun b=>[false,true].all fun h=>ix (W4 k ((a:Int)-7) ((b:Int)-7) h) (bJ k) (lx k))=true:=by
 have Z:k=0∨k=1∨k=2∨k=3∨k=4∨k=5∨k=6∨k=7:=by omega
 rcases Z with rfl | rfl | rfl | rfl | rfl | rfl | rfl | rfl
 ·exact Yr
 ·exact Yt
 ·exact Yu
 ·exact Yv
 ·exact Yw
 ·exact Yx
 ·exact Yy
 ·exact Yz
theorem P9(s:aeX):ix s.P s.T (lx (s.kind%8))=true:=by
 have Z:s.kind%8<8:=Nat.mod_lt _ (by omega);have h:=Sf (s.kind%8) Z;obtain⟨O,M⟩:=DO s.sx;obtain⟨J,F⟩:=DO s.sy;have X:=List.all_eq_true.1 h (s.sx.tmod 8+7).toNat (List.mem_range.2 (by omega));have W:=List.all_eq_true.1 X (s.sy.tmod 8+7).toNat (List.mem_range.2 (by omega));have h3:=List.all_eq_true.1 W s.half (by cases s.half<;>simp);have V:(((s.sx.tmod 8+7).toNat:Nat):Int)-7=s.sx.tmod 8:=by omega
 have S:(((s.sy.tmod 8+7).toNat:Nat):Int)-7=s.sy.tmod 8:=by omega
 rw[V,S] at h3;exact h3
def Sc:List Tr→Int→List Sd
 | [],_=>[]
 |t::l,i=>((t.1,t.2.1),i)::((t.2.1,t.2.2),i)::((t.2.2,t.1),i)::Sc l (i+1)
theorem Rb:kO prog 160 [.agg [.slice 0 0 (dM 0).length none,.slice 1 0 (bJ 0).length none]] [.aeP,.cells false 3 (tC (bJ 0))] (.tuple [.map 2,.bool true]) ([.aeP,.cells false 3 (tC (bJ 0))]++[.map ((Sc (bJ 0) 0).map sdE)]):=
 dJ (lv:=ab) (K:=60) (n:=10) ae (ar _) (au _) (al _) (by as_aux_lemma=>kernel_rfl)
theorem Rc:kO prog 160 [.agg [.slice 0 0 (dM 1).length none,.slice 1 0 (bJ 1).length none]] [.aeP,.cells false 3 (tC (bJ 1))] (.tuple [.map 2,.bool true]) ([.aeP,.cells false 3 (tC (bJ 1))]++[.map ((Sc (bJ 1) 0).map sdE)]):=
 dJ (lv:=ab) (K:=60) (n:=10) ae (ar _) (au _) (al _) (by as_aux_lemma=>kernel_rfl)
theorem Rd:kO prog 160 [.agg [.slice 0 0 (dM 2).length none,.slice 1 0 (bJ 2).length none]] [.aeP,.cells false 3 (tC (bJ 2))] (.tuple [.map 2,.bool true]) ([.aeP,.cells false 3 (tC (bJ 2))]++[.map ((Sc (bJ 2) 0).map sdE)]):=
 dJ (lv:=ab) (K:=60) (n:=10) ae (ar _) (au _) (al _) (by as_aux_lemma=>kernel_rfl)
theorem Re:kO prog 160 [.agg [.slice 0 0 (dM 3).length none,.slice 1 0 (bJ 3).length none]] [.aeP,.cells false 3 (tC (bJ 3))] (.tuple [.map 2,.bool true]) ([.aeP,.cells false 3 (tC (bJ 3))]++[.map ((Sc (bJ 3) 0).map sdE)]):=
 dJ (lv:=ab) (K:=60) (n:=10) ae (ar _) (au _) (al _) (by as_aux_lemma=>kernel_rfl)
theorem Rf:kO prog 160 [.agg [.slice 0 0 (dM 4).length none,.slice 1 0 (bJ 4).length none]] [.aeP,.cells false 3 (tC (bJ 4))] (.tuple [.map 2,.bool true]) ([.aeP,.cells false 3 (tC (bJ 4))]++[.map ((Sc (bJ 4) 0).map sdE)]):=
 dJ (lv:=ab) (K:=60) (n:=10) ae (ar _) (au _) (al _) (by as_aux_lemma=>kernel_rfl)
theorem Rg:kO prog 160 [.agg [.slice 0 0 (dM 5).length none,.slice 1 0 (bJ 5).length none]] [.aeP,.cells false 3 (tC (bJ 5))] (.tuple [.map 2,.bool true]) ([.aeP,.cells false 3 (tC (bJ 5))]++[.map ((Sc (bJ 5) 0).map sdE)]):=
 dJ (lv:=ab) (K:=60) (n:=10) ae (ar _) (au _) (al _) (by as_aux_lemma=>kernel_rfl)
theorem Rh:kO prog 160 [.agg [.slice 0 0 (dM 6).length none,.slice 1 0 (bJ 6).length none]] [.aeP,.cells false 3 (tC (bJ 6))] (.tuple [.map 2,.bool true]) ([.aeP,.cells false 3 (tC (bJ 6))]++[.map ((Sc (bJ 6) 0).map sdE)]):=
 dJ (lv:=ab) (K:=60) (n:=10) ae (ar _) (au _) (al _) (by as_aux_lemma=>kernel_rfl)
theorem Ri:kO prog 160 [.agg [.slice 0 0 (dM 7).length none,.slice 1 0 (bJ 7).length none]] [.aeP,.cells false 3 (tC (bJ 7))] (.tuple [.map 2,.bool true]) ([.aeP,.cells false 3 (tC (bJ 7))]++[.map ((Sc (bJ 7) 0).map sdE)]):=
 dJ (lv:=ab) (K:=60) (n:=10) ae (ar _) (au _) (al _) (by as_aux_lemma=>kernel_rfl)
theorem Gk(k:Nat)(A:k<8):kO prog 160 [.agg [.slice 0 0 (dM k).length none,.slice 1 0 (bJ k).length none]] [.aeP,.cells false 3 (tC (bJ k))] (.tuple [.map 2,.bool true]) ([.aeP,.cells false 3 (tC (bJ k))]++[.map ((Sc (bJ k) 0).map sdE)]):=by
 have Z:k=0∨k=1∨k=2∨k=3∨k=4∨k=5∨k=6∨k=7:=by omega
 rcases Z with rfl | rfl | rfl | rfl | rfl | rfl | rfl | rfl
 ·exact Rb
 ·exact Rc
 ·exact Rd
 ·exact Re
 ·exact Rf
 ·exact Rg
 ·exact Rh
 ·exact Ri
theorem Pc(k:Nat)(A:k<8):uN (Sc (bJ k) 0)=true∧BR (sM (Sc (bJ k) 0))=some ((lx k).map fun(n:Nat)=>(n:Int))∧(MK (bJ k)).length=(dM k).length∧lx k≠[]∧(∀c∈lx k,c<(dM k).length)∧bJ k≠[]∧(bJ k).length≤4∧(lx k).length≤6:=by
 have Z:k=0∨k=1∨k=2∨k=3∨k=4∨k=5∨k=6∨k=7:=by omega
 rcases Z with rfl | rfl | rfl | rfl | rfl | rfl | rfl | rfl<;>decide
theorem zF(s:aeX):Whole s.P s.T (Sc s.T 0) (lx (s.kind%8)):=by
 have X:s.kind%8<8:=Nat.mod_lt _ (by omega);have h:=P9 s;obtain⟨f1,f2,f3,f4,f5,f6,f7,f8⟩:=Pc (s.kind%8) X;have Z:=aeX.agd s;have W:=EP (s.kind%8);unfold ix at h;simp only[Bool.and_eq_true,decide_eq_true_eq] at h;obtain⟨⟨⟨⟨V,S⟩,h3⟩,O⟩,M⟩:=h;refine⟨fun p J=>?_,V,?_,f1,f2,by rw[Z];exact f3,⟨f4,by rw[Z];exact f5,fun i F=>?_,M⟩,fun t D=>?_,by omega,f6,by show(bJ _).length≤800;omega,by omega⟩
 ·have:=List.all_eq_true.1 S p J
  simp only[Bool.and_eq_true,decide_eq_true_eq] at this;obtain⟨⟨⟨C,B⟩,z⟩,u⟩:=this;have d1:dg 2 1 p.1:=⟨C,B⟩;have d2:dg 2 1 p.2:=⟨z,u⟩;exact⟨d1.mono (by omega) (by omega),d2.mono (by omega) (by omega)⟩
 ·unfold Bw
  rw[Z];exact Gk (s.kind%8) X
 ·have:=List.all_eq_true.1 O i (List.mem_range.2 F)
  simpa using this
 ·have:=List.all_eq_true.1 h3 t D
  unfold ZP;split at this
  ·rename_i p q r m j Y
   exact⟨p,q,r,m,j,Y,by simpa using this⟩
  ·cases this
theorem Fg(s:aeX):kO prog 59 [.agg [.slice 0 0 s.P.length none,.slice 1 0 s.T.length none]] [.cells false 2 (pC s.P),.cells false 3 (tC s.T)] (.int .i64 0) [.cells false 2 (pC s.P),.cells false 3 (tC s.T)]:=
 Ff (zF s)
end Go.Proofs
