/- See B54. -/
import Derived.Test.YtffdedmakncfmaaGreatDoorB35
import Derived.Test.YtffdedmakncfmaaGreatDoorB36
set_option linter.all false
set_option maxRecDepth 100000
set_option maxHeartbeats 40000000
namespace Go.Proofs
open Go.Eng
end Go.Proofs
namespace Go.Proofs
open Go.Eng
open Tryz
theorem MU(d:Nat)(a b:List UInt8):jy (ba prog) (d+2) 91 (.agg [.str a,.str b]) (.agg [.str a,.str b])=some true:=by have i:=kB d;rw[jy];simp[Rt,jm,TyI.isAgg,i]
open Classical in
noncomputable def er(f:FuncId)(args:List AV)(v:AV)(p:Mem→Prop):ae3:=fun c a M=>if c=.fn f∧a=args∧p M then some ⟨v,none,[]⟩ else none
theorem fI{P:Program}{f:FuncId}{args:List AV}{v:AV}{p:Mem→Prop}(h:∀M,p M→kO P f args M v M):qS P (er f args v p):=by
 have k:∀c a M r,er f args v p c a M=some r→(c=.fn f∧a=args∧p M)∧r=⟨v,none,[]⟩:=fun c a M r Z=>by
  unfold er at Z;split at Z
  ·cases Z;exact⟨‹_›,rfl⟩
  ·cases Z
 refine⟨fun g a M r Z=>?_,fun b a M r Z=>?_,fun c a M r q Z V=>?_⟩
 ·obtain⟨⟨X,rfl,U⟩,rfl⟩:=k _ _ _ _ Z
  cases X;simpa [y9.mem] using h M U
 ·obtain⟨⟨X,_⟩,_⟩:=k _ _ _ _ Z
  cases X
 ·obtain⟨_,rfl⟩:=k _ _ _ _ Z
  cases V
end Go.Proofs
namespace Go.Proofs
open Go.Eng
end Go.Proofs
namespace Go.Proofs
open Go.Eng
open Tryz
theorem XG{Z:List Int}{i:Nat}{z:Int}(h:Z[i]? =some z):(qC (qH Z))[i]? =some (.str (aB (hQ z))):=Wm (by simp[qH,h])
def qu(c:Code):List Nat:=if (ad c).contains 18 then [18] else [30]
variable{K b0 m0:Nat}{O:ae3}{b:Code}{mem:Mem}{o:Bool}
theorem jr(Z:List Int)(H:∀z∈Z,z.natAbs<1000)(W:Z.length≤1000)(Y:Z.length<K)(I:mem[b0]? =some (.cells o 1 (qC (qH Z))))(J:∀z:Int,z.natAbs<1000→O (.fn 61) [.str (aB (hQ z))] mem=some ⟨.int .i64 0,none,[]⟩){b1:Code}(y:ah f253=[b1,b]):
  ∃F:Env→Bool→Env,∀X d,(ab X 28=.slice b0 0 Z.length none∧ab X 29=.int .i64 Z.length∧ab X 30=.int .i64 0)→
   bh (ba prog) qu O K 41 m0 true (.loop b) ⟨X,mem,d⟩=some (.exit 2,⟨F X d,mem,d⟩)∧(ab (F X d) 16=ab X 16∧ab (F X d) 17=ab X 17∧ab (F X d) 18=ab X 18∧ab (F X d) 2=ab X 2):=by
 refine bj (L:=[30]) (by simp[ah,aE,f253] at y;rw[←y.2];rfl) (fun X=>ab X 28=.slice b0 0 Z.length none∧ab X 29=.int .i64 Z.length∧ab X 30=.int .i64 0) (fun X V =>ab V 16=ab X 16∧ab V 17=ab X 17∧ab V 18=ab X 18∧ab V 2=ab X 2) ?_;rintro X d ⟨YU,YY,YX⟩;simp[ah,aE,f253] at y;have S:ay [30] (ad b) X ((30,.int .i64 ((0:Nat):Int))::X)=ay [30] (ad b) X X:=by simp[ay,YX]
 rw[←S];refine bx (α:=Nat) (fun n=>⟨ay [30] (ad b) X ((30,.int .i64 (n:Int))::X),mem,d⟩) (fun n=>Z.length-n) (fun n=>n≤Z.length) (.exit 2) _ d _ (by simp) ?_ K 0 (by omega) (by omega);rintro n G;clear S;obtain⟨_,rfl⟩:=y;by_cases U:n<Z.length
 ·obtain⟨z,R⟩:∃z,Z[n]? =some z:=⟨Z[n],List.getElem?_eq_getElem U⟩
  have Q:=XG R;have N:=J z (H z (List.mem_of_getElem? R));have w1:IntKind.i64.wrap ((n:Int)+1)=((n+1:Nat):Int):=by rw[ae];omega
  left;obtain⟨v,M⟩:=xE (n+1);rw[←M] at w1;refine⟨v,?_⟩;simp[YU,YY,U,I,Q,N,w1];omega
 ·right
  simp[YY,U]
def vK(f:FuncId)(args:List AV):Option AV:=match f,args with
 |61,[.str s]=>if s.length≤9 then some (.int .i64 (Ay s)) else none
 |_,_=>none
theorem Qq:qS prog (af vK):=bH fun f Z v h mem=>by
 unfold vK at h;split at h
 ·split at h
  ·cases h;exact qj _ (by omega) mem
  ·cases h
 ·cases h
noncomputable def jG(s:afh)(m:Mem):ae3:=ae3.or (af vK) (er 131 [shA s] (.int .i64 0) (fun M=>∃ext,M=m++ext))
section
variable (s:afh)
include s
theorem Bf(m:Mem)(p q:Nat)(o o' :Bool)(y:m[p]? =some (.cells o 2 (pC s.P)))(hq:m[q]? =some (.cells o' 3 (tC s.T)))(h0:p=0)(h1:q=1):qS prog (jG s m):=by subst h0;subst h1;have X:=gL y;have V:=gL hq;refine qS.or' Qq (fI fun M Z=>?_);obtain⟨ext,rfl⟩:=Z;exact vm s _ 0 1 o o' (gU y _) (gU hq _)
theorem qM(m M:Mem)(z:Int)(h:z.natAbs<1000):jG s m (.fn 61) [.str (aB (hQ z))] M=some ⟨.int .i64 0,none,[]⟩:=by have Z:=Ca h;have X:=jx ((U5 h).mono (by omega) (by omega));simp[jG,ae3.or,af,vK,Z,X]
theorem vy(m ext:Mem):jG s m (.fn 131) [shA s] (m++ext)=some ⟨.int .i64 0,none,[]⟩:=by simp[jG,ae3.or,af,vK,er]
section
variable (Z:List Int)(hZ:∀z∈Z,z.natAbs<1000)(hl:Z.length≤1000)(hn:Z.length=s.P.length)
include Z hZ hl hn
theorem Dm(m:Mem)(b c:Nat)(y H I J:Bool)(hp:m[0]? =some (.cells y 2 (pC s.P)))(hq:m[1]? =some (.cells H 3 (tC s.T)))(W:m[b]? =some (.cells I 1 (qC (qH Z))))(hc:m[c]? =some (.cells J 1 [.slice b 0 Z.length none])):
  kO prog 253 [shA s,.slice c 0 1 none] m (.int .i64 0) m:=by
 have hG:aT prog 253=some f253:=by kernel_rfl
 have lb:=gL W;have lc:=gL hc;have u:=Bf s m 0 1 y H hp hq rfl rfl;obtain⟨j,Y,L⟩:∃j Y,ah f253=[j,Y]:=⟨_,_,rfl⟩
 obtain⟨F,R⟩:=jr (O:=jG s m) (K:=Z.length+3) Z hZ hl (by omega) (mem:=m++[.cells true 0 [.slice 0 0 s.P.length none,.slice 1 0 s.T.length none]]) (b0:=b) (o:=I) (gU W _) (m0:=m.length) (fun z h=>qM s m _ z h) L;have G:=fun X d V U S=>(R X d ⟨V,U,S⟩).1
 have D:=fun X d V U S=>(R X d ⟨V,U,S⟩).2.1
 have C:=fun X d V U S=>(R X d ⟨V,U,S⟩).2.2.1
 have Q:=fun X d V U S=>(R X d ⟨V,U,S⟩).2.2.2.1
 have g2:=fun X d V U S=>(R X d ⟨V,U,S⟩).2.2.2.2
 clear R;simp[ah,aE,f253] at L;obtain⟨_,rfl⟩:=L;have w0:IntKind.i64.wrap 1=1:=rfl;have B:=vy s m [.cells true 0 [.slice 0 0 s.P.length none,.slice 1 0 s.T.length none]];obtain⟨O,Zq⟩:=xE (jG s m);rw[←Zq] at u G B;have M :(m++[.cells true 0 [.slice 0 0 s.P.length none,.slice 1 0 s.T.length none]])[c]? =some (.cells J 1 [.slice b 0 Z.length none]):=gU hc _;refine cv (lv:=qu) (K:=(Z.length+3)) u ?_;obtain⟨N,hN⟩:=xE s.P.length;simp only[shA,hn,←hN] at B G D C Q g2 M ⊢;simp[aa,hG,f253,B,G,Q,bp,gi,qu,M,w0]
theorem Dn(Y:List Int)(hY:∀z∈Y,z.natAbs<1000)(Zu:Y.length=s.P.length)(m:Mem)(b H c:Nat)(o1 o2 o3 y o4:Bool)(hp:m[0]? =some (.cells o1 2 (pC s.P)))(hq:m[1]? =some (.cells o2 3 (tC s.T)))(hb:m[b]? =some (.cells o3 1 (qC (qH Z))))(Yd :m[H]? =some (.cells y 1 (qC (qH Y))))(hc:m[c]? =some (.cells o4 1 [.slice b 0 Z.length none,.slice H 0 Y.length none])):
  kO prog 253 [shA s,.slice c 0 2 none] m (.int .i64 0) m:=by
 have hG:aT prog 253=some f253:=by kernel_rfl
 have lb:=gL hb;have lb' :=gL Yd;have lc:=gL hc;have hO:=Bf s m 0 1 o1 o2 hp hq rfl rfl;obtain⟨b1,b2,C⟩:∃b1 b2,ah f253=[b1,b2]:=⟨_,_,rfl⟩
 obtain⟨F,Q⟩:=jr (O:=jG s m) (K:=s.P.length+4) Z hZ hl (by omega) (mem:=m++[.cells true 0 [.slice 0 0 s.P.length none,.slice 1 0 s.T.length none]]) (b0:=b) (o:=o3) (gU hb _) (m0:=m.length) (fun z h=>qM s m _ z h) C;have B:=fun X d V U S=>(Q X d ⟨V,U,S⟩).1
 have u:=fun X d V U S=>(Q X d ⟨V,U,S⟩).2.1
 have j:=fun X d V U S=>(Q X d ⟨V,U,S⟩).2.2.1
 have L:=fun X d V U S=>(Q X d ⟨V,U,S⟩).2.2.2.1
 have g2:=fun X d V U S=>(Q X d ⟨V,U,S⟩).2.2.2.2
 obtain⟨F2,M⟩:=jr (O:=jG s m) (K:=s.P.length+4) Y hY (by omega) (by omega) (mem:=m++[.cells true 0 [.slice 0 0 s.P.length none,.slice 1 0 s.T.length none]]) (b0:=H) (o:=y) (gU Yd _) (m0:=m.length) (fun z h=>qM s m _ z h) C;have R :=fun X d V U S=>(M X d ⟨V,U,S⟩).1
 have W :=fun X d V U S=>(M X d ⟨V,U,S⟩).2.1
 have J :=fun X d V U S=>(M X d ⟨V,U,S⟩).2.2.1
 have G :=fun X d V U S=>(M X d ⟨V,U,S⟩).2.2.2.1
 have I :=fun X d V U S=>(M X d ⟨V,U,S⟩).2.2.2.2
 clear Q M;simp[ah,aE,f253] at C;obtain⟨_,rfl⟩:=C;have w0:IntKind.i64.wrap 1=1:=rfl;have ZW:=vy s m [.cells true 0 [.slice 0 0 s.P.length none,.slice 1 0 s.T.length none]];obtain⟨O,Zq⟩:=xE (jG s m);rw[←Zq] at hO B R ZW;have D :(m++[.cells true 0 [.slice 0 0 s.P.length none,.slice 1 0 s.T.length none]])[c]? =some (.cells o4 1 [.slice b 0 Z.length none,.slice H 0 Y.length none]):=gU hc _;refine cv (lv:=qu) (K:=(s.P.length+4)) hO ?_;obtain⟨N,hN⟩:=xE s.P.length;simp only[shA,hn,Zu,←hN] at ZW B u j L g2 R W J G I D ⊢;simp[aa,hG,f253,ZW,B,L,R,G,w2,bp,gi,qu,D,w0]
theorem qo(m:Mem)(b:Nat)(y H I:Bool)(J:m[0]? =some (.cells y 2 (pC s.P)))(hq:m[1]? =some (.cells H 3 (tC s.T)))(W:m[b]? =some (.cells I 1 (qC (qH Z)))):
  kO prog 221 [shA s,.slice b 0 Z.length none] m (.int .i64 0) m:=by
 have U:aT prog 221=some f221:=by kernel_rfl
 have Q:=gL J;have N:=gL hq;have M:=gL W;obtain⟨E,X⟩:=xE (α:=Mem) [.cells true 0 [.slice 0 0 s.P.length none,.slice 1 0 s.T.length none],.cells true 1 [.slice b 0 Z.length none]];have S:=Dm s Z hZ hl hn (m++E) b (m.length+1) y H I true (gU J _) (gU hq _) (gU W _) (by rw[X];simp);have R:qS prog (jX [(253,[shA s,.slice (m.length+1) 0 1 none],m++E,⟨.int .i64 0,none,[]⟩)]):=jJ fun e V=>by simp only[lM] at V;subst V;exact⟨by simpa [y9.mem] using S,by simp⟩
 refine fP R ?_;rw[X];simp[aa,U,f221,jX,shA]
end
end
theorem V9{a b:Int}(h:a≤b):¬0<we (hQ a) (hQ b):=by have:=BZ.2 (XA h);omega
theorem A7(Z Y:List Int)(H:∀(i:Nat) z y,Z[i]? =some z→Y[i]? =some y→z≤y∧z.natAbs<1000∧y.natAbs<1000)(hn:Z.length=Y.length)(hl:Z.length≤1000)(hK:Z.length<K){b1:Nat}{o' :Bool}(W:mem[b0]? =some (.cells o 1 (qC (qH Z))))(I :mem[b1]? =some (.cells o' 1 (qC (qH Y))))(hO:∀z y:Int,z.natAbs<1000→y.natAbs<1000→O (.fn 111) [.str (aB (hQ z)),.str (aB (hQ y))] mem=some ⟨.int .i64 (we (hQ z) (hQ y)),none,[]⟩)(J:ah f223=[b]):
  ∃F:Env→Bool→Env,∀X d,(ab X 19=.slice b0 0 Z.length none∧ab X 20=.int .i64 Z.length∧ab X 21=.int .i64 0∧ab X 2=.slice b1 0 Z.length none)→
   bh (ba prog) (fun _=>[21]) O K 34 m0 true (.loop b) ⟨X,mem,d⟩=some (.exit 0,⟨F X d,mem,d⟩)∧True:=by
 refine bj (L:=[21]) rfl (fun X=>ab X 19=.slice b0 0 Z.length none∧ab X 20=.int .i64 Z.length∧ab X 21=.int .i64 0∧ab X 2=.slice b1 0 Z.length none) (fun _ _=>True) ?_;rintro X d ⟨YU,YY,YX,h2⟩;simp[ah,aE,f223] at J;have U:ay [21] (ad b) X ((21,.int .i64 ((0:Nat):Int))::X)=ay [21] (ad b) X X:=by simp[ay,YX]
 rw[←U];refine bx (α:=Nat) (fun n=>⟨ay [21] (ad b) X ((21,.int .i64 (n:Int))::X),mem,d⟩) (fun n=>Z.length-n) (fun n=>n≤Z.length) (.exit 0) _ d _ (by simp) ?_ K 0 (by omega) (by omega);rintro n m;clear U;subst J;by_cases V:n<Z.length
 ·obtain⟨z,S⟩:∃z,Z[n]? =some z:=⟨Z[n],List.getElem?_eq_getElem V⟩
  obtain⟨y,R⟩:∃y,Y[n]? =some y:=⟨Y[n]'(by omega),List.getElem?_eq_getElem (by omega)⟩
  have Q:=XG S;have N:=XG R;obtain⟨M,G,D⟩:=H n z y S R;have C:=hO z y G D;have B:=V9 M;have w1:IntKind.i64.wrap ((n:Int)+1)=((n+1:Nat):Int):=by rw[ae];omega
  left;obtain⟨v,u⟩:=xE (n+1);rw[←u] at w1;refine⟨v,?_⟩;simp[YU,YY,h2,V,W,I,Q,N,C,w1,B];omega
 ·right
  simp[YY,V]
open Classical in
noncomputable def vx(f:FuncId)(args:List AV):Option AV:=match f,args with
 |111,[.str s,.str t]=>match ef s,ef t with
  |some a,some b=>if big 3 a∧big 3 b then some (.int .i64 (we a b)) else none
  |_,_=>none
 |_,_=>none
theorem OD{k:Nat}{q:Rat}(h0:0<k)(hk:k≤40000)(h:big k q):iK q:=by have Z:=aG h0 h.1;have X:=aG h0 h.2;exact⟨by omega,by omega⟩
theorem P9:qS prog (af vx):=bH fun f Z v h mem=>by
 unfold vx at h;split at h
 ·split at h
  ·rename_i a b V U
   split at h
   ·rename_i X
    cases h;rw[aC V,aC U];exact sY a b (OD (by decide) (by decide) X.1) (OD (by decide) (by decide) X.2) mem
   ·cases h
  ·cases h
 ·cases h
theorem qm(s:afh)(Z Y:List Int)(hZ:∀z∈Z,z.natAbs<1000)(hY:∀z∈Y,z.natAbs<1000)(hl:Z.length≤1000)(hn:Z.length=s.P.length)(Zu:Y.length=s.P.length)(I:∀(i:Nat) z y,Z[i]? =some z→Y[i]? =some y→z≤y)(m:Mem)(b H :Nat)(o1 o2 J W:Bool)(hp:m[0]? =some (.cells o1 2 (pC s.P)))(hq:m[1]? =some (.cells o2 3 (tC s.T)))(hb:m[b]? =some (.cells J 1 (qC (qH Z))))(Yd :m[H]? =some (.cells W 1 (qC (qH Y)))):
  kO prog 223 [shA s,.slice b 0 Z.length none,.slice H 0 Y.length none] m (.tuple [.bool true,.int .i64 0]) m:=by
 have hG:aT prog 223=some f223:=by kernel_rfl
 have l0:=gL hp;have l1:=gL hq;have lb:=gL hb;have lb' :=gL Yd;obtain⟨E,Q⟩:=xE (α:=Mem) [.cells true 0 [.slice 0 0 s.P.length none,.slice 1 0 s.T.length none],.cells true 1 [.slice b 0 Z.length none,.slice H 0 Y.length none]];have M:=Dn s Z hZ hl hn Y hY Zu (m++E) b H (m.length+1) o1 o2 J W true (gU hp _) (gU hq _) (gU hb _) (gU Yd _) (by rw[Q];simp);obtain⟨O,V⟩:=xE (ae3.or (af vx) (jX [(253,[shA s,.slice (m.length+1) 0 2 none],m++E,⟨.int .i64 0,none,[]⟩)]));have hO:qS prog O:=by rw[V];refine qS.or' P9 (jJ fun e L=>?_);simp only[lM] at L;subst L;exact⟨by simpa [y9.mem] using M,by simp⟩
 have X:O (.fn 253) [shA s,.slice (m.length+1) 0 2 none] (m++E)=some ⟨.int .i64 0,none,[]⟩:=by rw[V];simp[ae3.or,af,vx,jX]
 have G:∀z y:Int,z.natAbs<1000→y.natAbs<1000→O (.fn 111) [.str (aB (hQ z)),.str (aB (hQ y))] (m++E)=some ⟨.int .i64 (we (hQ z) (hQ y)),none,[]⟩:=fun z y U S=>by have D:=U5 U;have C:=U5 S;have B:big 3 (hQ z):=⟨D.1,by have:=D.2;omega⟩;have b2:big 3 (hQ y):=⟨C.1,by have:=C.2;omega⟩;rw[V];simp[ae3.or,af,vx,az,B,b2]
 clear V;obtain⟨bb,R⟩:∃b,ah f223=[b]:=⟨_,rfl⟩
 obtain⟨F,u⟩:=A7 (O:=O) (K:=s.P.length+1) Z Y (fun i z y U S=>⟨I i z y U S,hZ z (List.mem_of_getElem? U),hY y (List.mem_of_getElem? S)⟩) (by omega) hl (by omega) (mem:=m++E) (b0:=b) (b1:=H) (o:=J) (o' :=W) (gU hb _) (gU Yd _) (m0:=m.length) G R;have j:=fun z' d h1 h2 h3 h4=>(u z' d ⟨h1,h2,h3,h4⟩).1
 clear u G;simp[ah,aE,f223] at R;subst R;refine cv (lv:=(fun _=>[21])) (K:=(s.P.length+1)) hO ?_;clear M;obtain⟨N,hN⟩:=xE s.P.length;subst Q;simp only[shA,hn,Zu,←hN] at X j ⊢;simp[aa,hG,f223,X,j]
end Go.Proofs
