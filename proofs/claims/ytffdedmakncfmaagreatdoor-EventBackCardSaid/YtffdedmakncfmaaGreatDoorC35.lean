/- See C54. -/
import Derived.Test.YtffdedmakncfmaaGreatDoorC33
import Derived.Test.YtffdedmakncfmaaGreatDoorC34
set_option linter.all false
set_option maxRecDepth 100000
set_option maxHeartbeats 40000000
namespace Go.Proofs
open Go.Eng
end Go.Proofs
namespace Go.Proofs
open Go.Eng
open Tryz
theorem N7(d:Nat)(a b:List UInt8):kU (bh prog) (d+2) 91 (.agg [.str a,.str b]) (.agg [.str a,.str b])=some true:=by have i:=k8 d;rw[kU];simp[Ta,jR,TyI.isAgg,i]
open Classical in
noncomputable def gH(f:FuncId)(args:List AV)(v:AV)(p:Mem→Prop):afF:=fun c a M=>if c=.fn f∧a=args∧p M then some ⟨v,none,[]⟩ else none
theorem iM{P:Program}{f:FuncId}{args:List AV}{v:AV}{p:Mem→Prop}(h:∀M,p M→kO P f args M v M):qS P (gH f args v p):=by
 have k:∀c a M r,gH f args v p c a M=some r→(c=.fn f∧a=args∧p M)∧r=⟨v,none,[]⟩:=fun c a M r Z=>by
  unfold gH at Z;split at Z
  ·cases Z;exact⟨‹_›,rfl⟩
  ·cases Z
 refine⟨fun g a M r Z=>?_,fun b a M r Z=>?_,fun c a M r q Z V=>?_⟩
 ·obtain⟨⟨X,rfl,U⟩,rfl⟩:=k _ _ _ _ Z
  cases X;simpa [y9.mem] using h M U
 ·obtain⟨⟨X,_⟩,_⟩:=k _ _ _ _ Z
  cases X
 ·obtain⟨_,rfl⟩:=k _ _ _ _ Z
  cases V
end Go.Proofs
namespace Go.Proofs
open Go.Eng
end Go.Proofs
namespace Go.Proofs
open Go.Eng
open Tryz
theorem ZK{Z:List Int}{i:Nat}{z:Int}(h:Z[i]? =some z):(qC (qH Z))[i]? =some (.str (ax (hQ z))):=Yc (by simp[qH,h])
def rE(c:Code):List Nat:=if (ae c).contains 18 then [18] else [30]
variable{K b0 m0:Nat}{O:afF}{b:Code}{mem:Mem}{o:Bool}
theorem jU(Z:List Int)(H:∀z∈Z,z.natAbs<1000)(W:Z.length≤1000)(Y:Z.length<K)(I:mem[b0]? =some (.cells o 1 (qC (qH Z))))(J:∀z:Int,z.natAbs<1000→O (.fn 61) [.str (ax (hQ z))] mem=some ⟨.int .i64 0,none,[]⟩){b1:Code}(y:ah f253=[b1,b]):
  ∃F:Env→Bool→Env,∀X d,(ad X 28=.slice b0 0 Z.length none∧ad X 29=.int .i64 Z.length∧ad X 30=.int .i64 0)→
   aW (bh prog) rE O K 41 m0 true (.loop b) ⟨X,mem,d⟩=some (.exit 2,⟨F X d,mem,d⟩)∧(ad (F X d) 16=ad X 16∧ad (F X d) 17=ad X 17∧ad (F X d) 18=ad X 18∧ad (F X d) 2=ad X 2):=by
 refine bj (L:=[30]) (by simp[ah,aE,f253] at y;rw[←y.2];rfl) (fun X=>ad X 28=.slice b0 0 Z.length none∧ad X 29=.int .i64 Z.length∧ad X 30=.int .i64 0) (fun X V =>ad V 16=ad X 16∧ad V 17=ad X 17∧ad V 18=ad X 18∧ad V 2=ad X 2) ?_;rintro X d ⟨h28,h29,h30⟩;simp[ah,aE,f253] at y;have S:aA [30] (ae b) X ((30,.int .i64 ((0:Nat):Int))::X)=aA [30] (ae b) X X:=by simp[aA,h30]
 rw[←S];refine bz (α:=Nat) (fun n=>⟨aA [30] (ae b) X ((30,.int .i64 (n:Int))::X),mem,d⟩) (fun n=>Z.length-n) (fun n=>n≤Z.length) (.exit 2) _ d _ (by simp) ?_ K 0 (by omega) (by omega);rintro n Q;clear S;obtain⟨_,rfl⟩:=y;by_cases U:n<Z.length
 ·obtain⟨z,R⟩:∃z,Z[n]? =some z:=⟨Z[n],List.getElem?_eq_getElem U⟩
  have N:=ZK R;have M:=J z (H z (List.mem_of_getElem? R));have w1:IntKind.i64.wrap ((n:Int)+1)=((n+1:Nat):Int):=by rw[af];omega
  left;obtain⟨v,G⟩:=xE (n+1);rw[←G] at w1;refine⟨v,?_⟩;simp[h28,h29,U,I,N,M,w1];omega
 ·right
  simp[h29,U]
def xa(f:FuncId)(args:List AV):Option AV:=match f,args with
 |61,[.str s]=>if s.length≤9 then some (.int .i64 (AW s)) else none
 |_,_=>none
theorem RP:qS prog (ag xa):=bF fun f Z v h mem=>by
 unfold xa at h;split at h
 ·split at h
  ·cases h;exact mL _ (by omega) mem
  ·cases h
 ·cases h
noncomputable def km(s:af1)(m:Mem):afF:=afF.or (ag xa) (gH 131 [shA s] (.int .i64 0) (fun M=>∃ext,M=m++ext))
section
variable (s:af1)
include s
theorem BY(m:Mem)(p q:Nat)(o o' :Bool)(y:m[p]? =some (.cells o 2 (pC s.P)))(hq:m[q]? =some (.cells o' 3 (tC s.T)))(h0:p=0)(h1:q=1):qS prog (km s m):=by subst h0;subst h1;have X:=gL y;have V:=gL hq;refine qS.or' RP (iM fun M Z=>?_);obtain⟨ext,rfl⟩:=Z;exact wN s _ 0 1 o o' (gU y _) (gU hq _)
theorem rU(m M:Mem)(z:Int)(h:z.natAbs<1000):km s m (.fn 61) [.str (ax (hQ z))] M=some ⟨.int .i64 0,none,[]⟩:=by have Z:=CZ h;have X:=jy ((WJ h).mono (by omega) (by omega));simp[km,afF.or,ag,xa,Z,X]
theorem wV(m ext:Mem):km s m (.fn 131) [shA s] (m++ext)=some ⟨.int .i64 0,none,[]⟩:=by simp[km,afF.or,ag,xa,gH]
section
variable (Z:List Int)(hZ:∀z∈Z,z.natAbs<1000)(hl:Z.length≤1000)(hn:Z.length=s.P.length)
include Z hZ hl hn
theorem Eb(m:Mem)(b c:Nat)(o1 o2 y o4:Bool)(I:m[0]? =some (.cells o1 2 (pC s.P)))(hq:m[1]? =some (.cells o2 3 (tC s.T)))(H:m[b]? =some (.cells y 1 (qC (qH Z))))(hc:m[c]? =some (.cells o4 1 [.slice b 0 Z.length none])):
  kO prog 253 [shA s,.slice c 0 1 none] m (.int .i64 0) m:=by
 have J:aS prog 253=some f253:=by kernel_rfl
 have lb:=gL H;have lc:=gL hc;have j:=BY s m 0 1 o1 o2 I hq rfl rfl;obtain⟨Y,W,R⟩:∃Y W,ah f253=[Y,W]:=⟨_,_,rfl⟩
 obtain⟨F,L⟩:=jU (O:=km s m) (K:=Z.length+3) Z hZ hl (by omega) (mem:=m++[.cells true 0 [.slice 0 0 s.P.length none,.slice 1 0 s.T.length none]]) (b0:=b) (o:=y) (gU H _) (m0:=m.length) (fun z h=>rU s m _ z h) R;have Q:=fun S d X V U=>(L S d ⟨X,V,U⟩).1
 have C:=fun S d X V U=>(L S d ⟨X,V,U⟩).2.1
 have B:=fun S d X V U=>(L S d ⟨X,V,U⟩).2.2.1
 have G:=fun S d X V U=>(L S d ⟨X,V,U⟩).2.2.2.1
 have g2:=fun S d X V U=>(L S d ⟨X,V,U⟩).2.2.2.2
 clear L;simp[ah,aE,f253] at R;obtain⟨_,rfl⟩:=R;have w0:IntKind.i64.wrap 1=1:=rfl;have M:=wV s m [.cells true 0 [.slice 0 0 s.P.length none,.slice 1 0 s.T.length none]];obtain⟨O,u⟩:=xE (km s m);rw[←u] at j Q M;have D :(m++[.cells true 0 [.slice 0 0 s.P.length none,.slice 1 0 s.T.length none]])[c]? =some (.cells o4 1 [.slice b 0 Z.length none]):=gU hc _;refine cE (lv:=rE) (K:=(Z.length+3)) j ?_;obtain⟨N,hN⟩:=xE s.P.length;simp only[shA,hn,←hN] at M Q C B G g2 D ⊢;simp[aa,J,f253,M,Q,G,aT,ga,rE,D,w0]
theorem Ec(Y:List Int)(hY:∀z∈Y,z.natAbs<1000)(I:Y.length=s.P.length)(m:Mem)(b H c:Nat)(o1 o2 o3 y o4:Bool)(hp:m[0]? =some (.cells o1 2 (pC s.P)))(hq:m[1]? =some (.cells o2 3 (tC s.T)))(hb:m[b]? =some (.cells o3 1 (qC (qH Z))))(Z9 :m[H]? =some (.cells y 1 (qC (qH Y))))(hc:m[c]? =some (.cells o4 1 [.slice b 0 Z.length none,.slice H 0 Y.length none])):
  kO prog 253 [shA s,.slice c 0 2 none] m (.int .i64 0) m:=by
 have hG:aS prog 253=some f253:=by kernel_rfl
 have lb:=gL hb;have lb' :=gL Z9;have lc:=gL hc;have hO:=BY s m 0 1 o1 o2 hp hq rfl rfl;obtain⟨b1,b2,Q⟩:∃b1 b2,ah f253=[b1,b2]:=⟨_,_,rfl⟩
 obtain⟨F,D⟩:=jU (O:=km s m) (K:=s.P.length+4) Z hZ hl (by omega) (mem:=m++[.cells true 0 [.slice 0 0 s.P.length none,.slice 1 0 s.T.length none]]) (b0:=b) (o:=o3) (gU hb _) (m0:=m.length) (fun z h=>rU s m _ z h) Q;have M:=fun S d X V U=>(D S d ⟨X,V,U⟩).1
 have j:=fun S d X V U=>(D S d ⟨X,V,U⟩).2.1
 have W:=fun S d X V U=>(D S d ⟨X,V,U⟩).2.2.1
 have C:=fun S d X V U=>(D S d ⟨X,V,U⟩).2.2.2.1
 have g2:=fun S d X V U=>(D S d ⟨X,V,U⟩).2.2.2.2
 obtain⟨F2,R⟩:=jU (O:=km s m) (K:=s.P.length+4) Y hY (by omega) (by omega) (mem:=m++[.cells true 0 [.slice 0 0 s.P.length none,.slice 1 0 s.T.length none]]) (b0:=H) (o:=y) (gU Z9 _) (m0:=m.length) (fun z h=>rU s m _ z h) Q;have L :=fun S d X V U=>(R S d ⟨X,V,U⟩).1
 have J :=fun S d X V U=>(R S d ⟨X,V,U⟩).2.1
 have afn :=fun S d X V U=>(R S d ⟨X,V,U⟩).2.2.1
 have B :=fun S d X V U=>(R S d ⟨X,V,U⟩).2.2.2.1
 have g2' :=fun S d X V U=>(R S d ⟨X,V,U⟩).2.2.2.2
 clear D R;simp[ah,aE,f253] at Q;obtain⟨_,rfl⟩:=Q;have w0:IntKind.i64.wrap 1=1:=rfl;have G:=wV s m [.cells true 0 [.slice 0 0 s.P.length none,.slice 1 0 s.T.length none]];obtain⟨O,hOO⟩:=xE (km s m);rw[←hOO] at hO M L G;have u :(m++[.cells true 0 [.slice 0 0 s.P.length none,.slice 1 0 s.T.length none]])[c]? =some (.cells o4 1 [.slice b 0 Z.length none,.slice H 0 Y.length none]):=gU hc _;refine cE (lv:=rE) (K:=(s.P.length+4)) hO ?_;obtain⟨N,hN⟩:=xE s.P.length;simp only[shA,hn,I,←hN] at G M j W C g2 L J afn B g2' u ⊢;simp[aa,hG,f253,G,M,C,L,B,w2,aT,ga,rE,u,w0]
theorem rn(m:Mem)(b:Nat)(o1 o2 y:Bool)(H:m[0]? =some (.cells o1 2 (pC s.P)))(hq:m[1]? =some (.cells o2 3 (tC s.T)))(I:m[b]? =some (.cells y 1 (qC (qH Z)))):
  kO prog 221 [shA s,.slice b 0 Z.length none] m (.int .i64 0) m:=by
 have U:aS prog 221=some f221:=by kernel_rfl
 have Q:=gL H;have N:=gL hq;have M:=gL I;obtain⟨E,X⟩:=xE (α:=Mem) [.cells true 0 [.slice 0 0 s.P.length none,.slice 1 0 s.T.length none],.cells true 1 [.slice b 0 Z.length none]];have S:=Eb s Z hZ hl hn (m++E) b (m.length+1) o1 o2 y true (gU H _) (gU hq _) (gU I _) (by rw[X];simp);have R:qS prog (jt [(253,[shA s,.slice (m.length+1) 0 1 none],m++E,⟨.int .i64 0,none,[]⟩)]):=iO fun e V=>by simp only[lM] at V;subst V;exact⟨by simpa [y9.mem] using S,by simp⟩
 refine er R ?_;rw[X];simp[aa,U,f221,jt,shA]
end
end
theorem XK{a b:Int}(h:a≤b):¬0<CO (hQ a) (hQ b):=by have:=OZ.2 (ZA h);omega
theorem BQ(Z Y:List Int)(H:∀(i:Nat) z y,Z[i]? =some z→Y[i]? =some y→z≤y∧z.natAbs<1000∧y.natAbs<1000)(hn:Z.length=Y.length)(hl:Z.length≤1000)(hK:Z.length<K){b1:Nat}{o' :Bool}(W:mem[b0]? =some (.cells o 1 (qC (qH Z))))(I :mem[b1]? =some (.cells o' 1 (qC (qH Y))))(hO:∀z y:Int,z.natAbs<1000→y.natAbs<1000→O (.fn 111) [.str (ax (hQ z)),.str (ax (hQ y))] mem=some ⟨.int .i64 (CO (hQ z) (hQ y)),none,[]⟩)(J:ah f223=[b]):
  ∃F:Env→Bool→Env,∀X d,(ad X 19=.slice b0 0 Z.length none∧ad X 20=.int .i64 Z.length∧ad X 21=.int .i64 0∧ad X 2=.slice b1 0 Z.length none)→
   aW (bh prog) (fun _=>[21]) O K 34 m0 true (.loop b) ⟨X,mem,d⟩=some (.exit 0,⟨F X d,mem,d⟩)∧True:=by
 refine bj (L:=[21]) rfl (fun X=>ad X 19=.slice b0 0 Z.length none∧ad X 20=.int .i64 Z.length∧ad X 21=.int .i64 0∧ad X 2=.slice b1 0 Z.length none) (fun _ _=>True) ?_;rintro X d ⟨h28,h29,h30,h2⟩;simp[ah,aE,f223] at J;have V:aA [21] (ae b) X ((21,.int .i64 ((0:Nat):Int))::X)=aA [21] (ae b) X X:=by simp[aA,h30]
 rw[←V];refine bz (α:=Nat) (fun n=>⟨aA [21] (ae b) X ((21,.int .i64 (n:Int))::X),mem,d⟩) (fun n=>Z.length-n) (fun n=>n≤Z.length) (.exit 0) _ d _ (by simp) ?_ K 0 (by omega) (by omega);rintro n Q;clear V;subst J;by_cases U:n<Z.length
 ·obtain⟨z,S⟩:∃z,Z[n]? =some z:=⟨Z[n],List.getElem?_eq_getElem U⟩
  obtain⟨y,R⟩:∃y,Y[n]? =some y:=⟨Y[n]'(by omega),List.getElem?_eq_getElem (by omega)⟩
  have N:=ZK S;have M:=ZK R;obtain⟨G,D,C⟩:=H n z y S R;have B:=hO z y D C;have u:=XK G;have w1:IntKind.i64.wrap ((n:Int)+1)=((n+1:Nat):Int):=by rw[af];omega
  left;obtain⟨v,m⟩:=xE (n+1);rw[←m] at w1;refine⟨v,?_⟩;simp[h28,h29,h2,U,W,I,N,M,B,w1,u];omega
 ·right
  simp[h29,U]
open Classical in
noncomputable def wU(f:FuncId)(args:List AV):Option AV:=match f,args with
 |111,[.str s,.str t]=>match dY s,dY t with
  |some a,some b=>if big 3 a∧big 3 b then some (.int .i64 (CO a b)) else none
  |_,_=>none
 |_,_=>none
theorem PT{k:Nat}{q:Rat}(h0:0<k)(hk:k≤40000)(h:big k q):kx q:=by have Z:=aI h0 h.1;have X:=aI h0 h.2;exact⟨by omega,by omega⟩
theorem Ry:qS prog (ag wU):=bF fun f Z v h mem=>by
 unfold wU at h;split at h
 ·split at h
  ·rename_i a b V U
   split at h
   ·rename_i X
    cases h;rw[az V,az U];exact uq a b (PT (by decide) (by decide) X.1) (PT (by decide) (by decide) X.2) mem
   ·cases h
  ·cases h
 ·cases h
theorem rl(s:af1)(Z Y:List Int)(hZ:∀z∈Z,z.natAbs<1000)(hY:∀z∈Y,z.natAbs<1000)(hl:Z.length≤1000)(hn:Z.length=s.P.length)(H:Y.length=s.P.length)(J:∀(i:Nat) z y,Z[i]? =some z→Y[i]? =some y→z≤y)(m:Mem)(b I :Nat)(o1 o2 W o4:Bool)(hp:m[0]? =some (.cells o1 2 (pC s.P)))(hq:m[1]? =some (.cells o2 3 (tC s.T)))(hb:m[b]? =some (.cells W 1 (qC (qH Z))))(Z9 :m[I]? =some (.cells o4 1 (qC (qH Y)))):
  kO prog 223 [shA s,.slice b 0 Z.length none,.slice I 0 Y.length none] m (.tuple [.bool true,.int .i64 0]) m:=by
 have hG:aS prog 223=some f223:=by kernel_rfl
 have l0:=gL hp;have l1:=gL hq;have lb:=gL hb;have lb' :=gL Z9;obtain⟨E,L⟩:=xE (α:=Mem) [.cells true 0 [.slice 0 0 s.P.length none,.slice 1 0 s.T.length none],.cells true 1 [.slice b 0 Z.length none,.slice I 0 Y.length none]];have G:=Ec s Z hZ hl hn Y hY H (m++E) b I (m.length+1) o1 o2 W o4 true (gU hp _) (gU hq _) (gU hb _) (gU Z9 _) (by rw[L];simp);obtain⟨O,X⟩:=xE (afF.or (ag wU) (jt [(253,[shA s,.slice (m.length+1) 0 2 none],m++E,⟨.int .i64 0,none,[]⟩)]));have hO:qS prog O:=by rw[X];refine qS.or' Ry (iO fun e D=>?_);simp only[lM] at D;subst D;exact⟨by simpa [y9.mem] using G,by simp⟩
 have U:O (.fn 253) [shA s,.slice (m.length+1) 0 2 none] (m++E)=some ⟨.int .i64 0,none,[]⟩:=by rw[X];simp[afF.or,ag,wU,jt]
 have S:∀z y:Int,z.natAbs<1000→y.natAbs<1000→O (.fn 111) [.str (ax (hQ z)),.str (ax (hQ y))] (m++E)=some ⟨.int .i64 (CO (hQ z) (hQ y)),none,[]⟩:=fun z y Q M=>by have C:=WJ Q;have B:=WJ M;have u:big 3 (hQ z):=⟨C.1,by have:=C.2;omega⟩;have b2:big 3 (hQ y):=⟨B.1,by have:=B.2;omega⟩;rw[X];simp[afF.or,ag,wU,ay,u,b2]
 clear X;obtain⟨bb,V⟩:∃b,ah f223=[b]:=⟨_,rfl⟩
 obtain⟨F,j⟩:=BQ (O:=O) (K:=s.P.length+1) Z Y (fun i z y Q M=>⟨J i z y Q M,hZ z (List.mem_of_getElem? Q),hY y (List.mem_of_getElem? M)⟩) (by omega) hl (by omega) (mem:=m++E) (b0:=b) (b1:=I) (o:=W) (o' :=o4) (gU hb _) (gU Z9 _) (m0:=m.length) S V;have R:=fun z' d h1 h2 h3 h4=>(j z' d ⟨h1,h2,h3,h4⟩).1
 clear j S;simp[ah,aE,f223] at V;subst V;refine cE (lv:=(fun _=>[21])) (K:=(s.P.length+1)) hO ?_;clear G;obtain⟨N,hN⟩:=xE s.P.length;subst L;simp only[shA,hn,H,←hN] at U R ⊢;simp[aa,hG,f223,U,R]
end Go.Proofs
