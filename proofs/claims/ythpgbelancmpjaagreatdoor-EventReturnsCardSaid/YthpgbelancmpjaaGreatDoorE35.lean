/- See E54. -/
import Derived.Test.YthpgbelancmpjaaGreatDoorE33
import Derived.Test.YthpgbelancmpjaaGreatDoorE34
set_option linter.all false
set_option maxRecDepth 100000
set_option maxHeartbeats 40000000
namespace Go.Proofs
open Go.Eng
end Go.Proofs
namespace Go.Proofs
open Go.Eng
open Tryz
theorem LY(d:Nat)(a b:List UInt8):jU (aV prog) (d+2) 108 (.agg [.str a,.str b]) (.agg [.str a,.str b])=some true:=by have i:=kg d;rw[jU];simp[QD,iY,TyI.isAgg,i]
open Classical in
noncomputable def cX(f:FuncId)(args:List AV)(v:AV)(p:Mem→Prop):y9:=fun c a M=>if c=.fn f∧a=args∧p M then some ⟨v,none,[]⟩ else none
theorem dO{P:Program}{f:FuncId}{args:List AV}{v:AV}{p:Mem→Prop}(h:∀M,p M→kO P f args M v M):qS P (cX f args v p):=by
 have k:∀c a M r,cX f args v p c a M=some r→(c=.fn f∧a=args∧p M)∧r=⟨v,none,[]⟩:=fun c a M r Z=>by
  unfold cX at Z;split at Z
  ·cases Z;exact⟨‹_›,rfl⟩
  ·cases Z
 refine⟨fun g a M r Z=>?_,fun b a M r Z=>?_,fun c a M r q Z V=>?_⟩
 ·obtain⟨⟨X,rfl,U⟩,rfl⟩:=k _ _ _ _ Z
  cases X;simpa [aee.mem] using h M U
 ·obtain⟨⟨X,_⟩,_⟩:=k _ _ _ _ Z
  cases X
 ·obtain⟨_,rfl⟩:=k _ _ _ _ Z
  cases V
end Go.Proofs
namespace Go.Proofs
open Go.Eng
end Go.Proofs
namespace Go.Proofs
open Go.Eng
open Tryz
theorem Xl{Z:List Int}{i:Nat}{z:Int}(h:Z[i]? =some z):(qC (qH Z))[i]? =some (.str (aj (hQ z))):=Nf (by simp[qH,h])
def qh(c:Code):List Nat:=if (ae c).contains 18 then [18] else [30]
variable{K b0 m0:Nat}{O:y9}{b:Code}{mem:Mem}{o:Bool}
theorem ja(Z:List Int)(I:∀z∈Z,z.natAbs<1000)(Y:Z.length≤1000)(hK:Z.length<K)(J:mem[b0]? =some (.cells o 1 (qC (qH Z))))(W:∀z:Int,z.natAbs<1000→O (.fn 86) [.str (aj (hQ z))] mem=some ⟨.int .i64 0,none,[]⟩){b1:Code}(H:ah f201=[b1,b]):
  ∃F:Env→Bool→Env,∀X d,(ad X 28=.slice b0 0 Z.length none∧ad X 29=.int .i64 Z.length∧ad X 30=.int .i64 0)→
   aS (aV prog) qh O K 41 m0 true (.loop b) ⟨X,mem,d⟩=some (.exit 2,⟨F X d,mem,d⟩)∧(ad (F X d) 16=ad X 16∧ad (F X d) 17=ad X 17∧ad (F X d) 18=ad X 18∧ad (F X d) 2=ad X 2):=by
 refine bw (L:=[30]) (by simp[ah,aG,f201] at H;rw[←H.2];rfl) (fun X=>ad X 28=.slice b0 0 Z.length none∧ad X 29=.int .i64 Z.length∧ad X 30=.int .i64 0) (fun X V =>ad V 16=ad X 16∧ad V 17=ad X 17∧ad V 18=ad X 18∧ad V 2=ad X 2) ?_;rintro X d ⟨YD,YG,YF⟩;simp[ah,aG,f201] at H;have S:aw [30] (ae b) X ((30,.int .i64 ((0:Nat):Int))::X)=aw [30] (ae b) X X:=by simp[aw,YF]
 rw[←S];refine bO (α:=Nat) (fun n=>⟨aw [30] (ae b) X ((30,.int .i64 (n:Int))::X),mem,d⟩) (fun n=>Z.length-n) (fun n=>n≤Z.length) (.exit 2) _ d _ (by simp) ?_ K 0 (by omega) (by omega);rintro n D;clear S;obtain⟨_,rfl⟩:=H;by_cases U:n<Z.length
 ·obtain⟨z,R⟩:∃z,Z[n]? =some z:=⟨Z[n],List.getElem?_eq_getElem U⟩
  have N:=Xl R;have M:=W z (I z (List.mem_of_getElem? R));have w1:IntKind.i64.wrap ((n:Int)+1)=((n+1:Nat):Int):=by rw[af];omega
  left;obtain⟨v,G⟩:=xE (n+1);rw[←G] at w1;refine⟨v,?_⟩;simp[YD,YG,U,J,N,M,w1];omega
 ·right
  simp[YG,U]
def vj(f:FuncId)(args:List AV):Option AV:=match f,args with
 |86,[.str s]=>if s.length≤9 then some (.int .i64 (zV s)) else none
 |_,_=>none
theorem Pq:qS prog (ag vj):=bM fun f Z v h mem=>by
 unfold vj at h;split at h
 ·split at h
  ·cases h;exact pY _ (by omega) mem
  ·cases h
 ·cases h
noncomputable def jo(s:aeo)(m:Mem):y9:=y9.or (ag vj) (cX 46 [shA s] (.int .i64 0) (fun M=>∃ext,M=m++ext))
section
variable (s:aeo)
include s
theorem AF(m:Mem)(p q:Nat)(o o' :Bool)(H:m[p]? =some (.cells o 2 (pC s.P)))(hq:m[q]? =some (.cells o' 3 (tC s.T)))(h0:p=0)(h1:q=1):qS prog (jo s m):=by subst h0;subst h1;have X:=gL H;have V:=gL hq;refine qS.or' Pq (dO fun M Z=>?_);obtain⟨ext,rfl⟩:=Z;exact nK s _ 0 1 o o' (gU H _) (gU hq _)
theorem qw(m M:Mem)(z:Int)(h:z.natAbs<1000):jo s m (.fn 86) [.str (aj (hQ z))] M=some ⟨.int .i64 0,none,[]⟩:=by have Z:=Bs h;have X:=gm ((Uu h).mono (by omega) (by omega));simp[jo,y9.or,ag,vj,Z,X]
theorem uY(m ext:Mem):jo s m (.fn 46) [shA s] (m++ext)=some ⟨.int .i64 0,none,[]⟩:=by simp[jo,y9.or,ag,vj,cX]
section
variable (Z:List Int)(hZ:∀z∈Z,z.natAbs<1000)(hl:Z.length≤1000)(hn:Z.length=s.P.length)
include Z hZ hl hn
theorem sR(m:Mem)(b c:Nat)(o1 o2 o3 H:Bool)(J:m[0]? =some (.cells o1 2 (pC s.P)))(hq:m[1]? =some (.cells o2 3 (tC s.T)))(I:m[b]? =some (.cells o3 1 (qC (qH Z))))(hc:m[c]? =some (.cells H 1 [.slice b 0 Z.length none])):
  kO prog 201 [shA s,.slice c 0 1 none] m (.int .i64 0) m:=by
 have W:aT prog 201=some f201:=by kernel_rfl
 have lb:=gL I;have lc:=gL hc;have u:=AF s m 0 1 o1 o2 J hq rfl rfl;obtain⟨j,Y,G⟩:∃j Y,ah f201=[j,Y]:=⟨_,_,rfl⟩
 obtain⟨F,R⟩:=ja (O:=jo s m) (K:=Z.length+3) Z hZ hl (by omega) (mem:=m++[.cells true 0 [.slice 0 0 s.P.length none,.slice 1 0 s.T.length none]]) (b0:=b) (o:=o3) (gU I _) (m0:=m.length) (fun z h=>qw s m _ z h) G;have D:=fun X d V U S=>(R X d ⟨V,U,S⟩).1
 have C:=fun X d V U S=>(R X d ⟨V,U,S⟩).2.1
 have B:=fun X d V U S=>(R X d ⟨V,U,S⟩).2.2.1
 have M:=fun X d V U S=>(R X d ⟨V,U,S⟩).2.2.2.1
 have g2:=fun X d V U S=>(R X d ⟨V,U,S⟩).2.2.2.2
 clear R;simp[ah,aG,f201] at G;obtain⟨_,rfl⟩:=G;have w0:IntKind.i64.wrap 1=1:=rfl;have A:=uY s m [.cells true 0 [.slice 0 0 s.P.length none,.slice 1 0 s.T.length none]];obtain⟨O,Zx⟩:=xE (jo s m);rw[←Zx] at u D A;have L :(m++[.cells true 0 [.slice 0 0 s.P.length none,.slice 1 0 s.T.length none]])[c]? =some (.cells H 1 [.slice b 0 Z.length none]):=gU hc _;refine ca (lv:=qh) (K:=(Z.length+3)) u ?_;obtain⟨N,hN⟩:=xE s.P.length;simp only[shA,hn,←hN] at A D C B M g2 L ⊢;simp[aa,W,f201,A,D,M,bh,fy,qh,L,w0]
theorem Cz(Y:List Int)(hY:∀z∈Y,z.natAbs<1000)(Z4:Y.length=s.P.length)(m:Mem)(b I c:Nat)(o1 o2 o3 H o4:Bool)(hp:m[0]? =some (.cells o1 2 (pC s.P)))(hq:m[1]? =some (.cells o2 3 (tC s.T)))(hb:m[b]? =some (.cells o3 1 (qC (qH Z))))(XQ :m[I]? =some (.cells H 1 (qC (qH Y))))(hc:m[c]? =some (.cells o4 1 [.slice b 0 Z.length none,.slice I 0 Y.length none])):
  kO prog 201 [shA s,.slice c 0 2 none] m (.int .i64 0) m:=by
 have hG:aT prog 201=some f201:=by kernel_rfl
 have lb:=gL hb;have lb' :=gL XQ;have lc:=gL hc;have hO:=AF s m 0 1 o1 o2 hp hq rfl rfl;obtain⟨b1,b2,B⟩:∃b1 b2,ah f201=[b1,b2]:=⟨_,_,rfl⟩
 obtain⟨F,M⟩:=ja (O:=jo s m) (K:=s.P.length+4) Z hZ hl (by omega) (mem:=m++[.cells true 0 [.slice 0 0 s.P.length none,.slice 1 0 s.T.length none]]) (b0:=b) (o:=o3) (gU hb _) (m0:=m.length) (fun z h=>qw s m _ z h) B;have A:=fun X d V U S=>(M X d ⟨V,U,S⟩).1
 have u:=fun X d V U S=>(M X d ⟨V,U,S⟩).2.1
 have j:=fun X d V U S=>(M X d ⟨V,U,S⟩).2.2.1
 have G:=fun X d V U S=>(M X d ⟨V,U,S⟩).2.2.2.1
 have g2:=fun X d V U S=>(M X d ⟨V,U,S⟩).2.2.2.2
 obtain⟨F2,L⟩:=ja (O:=jo s m) (K:=s.P.length+4) Y hY (by omega) (by omega) (mem:=m++[.cells true 0 [.slice 0 0 s.P.length none,.slice 1 0 s.T.length none]]) (b0:=I) (o:=H) (gU XQ _) (m0:=m.length) (fun z h=>qw s m _ z h) B;have R :=fun X d V U S=>(L X d ⟨V,U,S⟩).1
 have W :=fun X d V U S=>(L X d ⟨V,U,S⟩).2.1
 have J :=fun X d V U S=>(L X d ⟨V,U,S⟩).2.2.1
 have D :=fun X d V U S=>(L X d ⟨V,U,S⟩).2.2.2.1
 have g2' :=fun X d V U S=>(L X d ⟨V,U,S⟩).2.2.2.2
 clear M L;simp[ah,aG,f201] at B;obtain⟨_,rfl⟩:=B;have w0:IntKind.i64.wrap 1=1:=rfl;have ZC:=uY s m [.cells true 0 [.slice 0 0 s.P.length none,.slice 1 0 s.T.length none]];obtain⟨O,Zx⟩:=xE (jo s m);rw[←Zx] at hO A R ZC;have C :(m++[.cells true 0 [.slice 0 0 s.P.length none,.slice 1 0 s.T.length none]])[c]? =some (.cells o4 1 [.slice b 0 Z.length none,.slice I 0 Y.length none]):=gU hc _;refine ca (lv:=qh) (K:=(s.P.length+4)) hO ?_;obtain⟨N,hN⟩:=xE s.P.length;simp only[shA,hn,Z4,←hN] at ZC A u j G g2 R W J D g2' C ⊢;simp[aa,hG,f201,ZC,A,G,R,D,w2,bh,fy,qh,C,w0]
theorem qc(m:Mem)(b:Nat)(o1 o2 o3:Bool)(H:m[0]? =some (.cells o1 2 (pC s.P)))(hq:m[1]? =some (.cells o2 3 (tC s.T)))(I:m[b]? =some (.cells o3 1 (qC (qH Z)))):
  kO prog 118 [shA s,.slice b 0 Z.length none] m (.int .i64 0) m:=by
 have U:aT prog 118=some f118:=by kernel_rfl
 have N:=gL H;have M:=gL hq;have L:=gL I;obtain⟨E,X⟩:=xE (α:=Mem) [.cells true 0 [.slice 0 0 s.P.length none,.slice 1 0 s.T.length none],.cells true 1 [.slice b 0 Z.length none]];have S:=sR s Z hZ hl hn (m++E) b (m.length+1) o1 o2 o3 true (gU H _) (gU hq _) (gU I _) (by rw[X];simp);have R:qS prog (jI [(201,[shA s,.slice (m.length+1) 0 1 none],m++E,⟨.int .i64 0,none,[]⟩)]):=jr fun e V=>by simp only[lM] at V;subst V;exact⟨by simpa [aee.mem] using S,by simp⟩
 refine gT R ?_;rw[X];simp[aa,U,f118,jI,shA]
end
end
theorem VE{a b:Int}(h:a≤b):¬0<pU (hQ a) (hQ b):=by have:=Bl.2 (Xf h);omega
theorem Aw(Z Y:List Int)(H:∀(i:Nat) z y,Z[i]? =some z→Y[i]? =some y→z≤y∧z.natAbs<1000∧y.natAbs<1000)(hn:Z.length=Y.length)(hl:Z.length≤1000)(hK:Z.length<K){b1:Nat}{o' :Bool}(W:mem[b0]? =some (.cells o 1 (qC (qH Z))))(I :mem[b1]? =some (.cells o' 1 (qC (qH Y))))(hO:∀z y:Int,z.natAbs<1000→y.natAbs<1000→O (.fn 136) [.str (aj (hQ z)),.str (aj (hQ y))] mem=some ⟨.int .i64 (pU (hQ z) (hQ y)),none,[]⟩)(J:ah f235=[b]):
  ∃F:Env→Bool→Env,∀X d,(ad X 19=.slice b0 0 Z.length none∧ad X 20=.int .i64 Z.length∧ad X 21=.int .i64 0∧ad X 2=.slice b1 0 Z.length none)→
   aS (aV prog) (fun _=>[21]) O K 34 m0 true (.loop b) ⟨X,mem,d⟩=some (.exit 0,⟨F X d,mem,d⟩)∧True:=by
 refine bw (L:=[21]) rfl (fun X=>ad X 19=.slice b0 0 Z.length none∧ad X 20=.int .i64 Z.length∧ad X 21=.int .i64 0∧ad X 2=.slice b1 0 Z.length none) (fun _ _=>True) ?_;rintro X d ⟨YD,YG,YF,h2⟩;simp[ah,aG,f235] at J;have U:aw [21] (ae b) X ((21,.int .i64 ((0:Nat):Int))::X)=aw [21] (ae b) X X:=by simp[aw,YF]
 rw[←U];refine bO (α:=Nat) (fun n=>⟨aw [21] (ae b) X ((21,.int .i64 (n:Int))::X),mem,d⟩) (fun n=>Z.length-n) (fun n=>n≤Z.length) (.exit 0) _ d _ (by simp) ?_ K 0 (by omega) (by omega);rintro n m;clear U;subst J;by_cases V:n<Z.length
 ·obtain⟨z,S⟩:∃z,Z[n]? =some z:=⟨Z[n],List.getElem?_eq_getElem V⟩
  obtain⟨y,R⟩:∃y,Y[n]? =some y:=⟨Y[n]'(by omega),List.getElem?_eq_getElem (by omega)⟩
  have N:=Xl S;have M:=Xl R;obtain⟨G,D,C⟩:=H n z y S R;have B:=hO z y D C;have A:=VE G;have w1:IntKind.i64.wrap ((n:Int)+1)=((n+1:Nat):Int):=by rw[af];omega
  left;obtain⟨v,u⟩:=xE (n+1);rw[←u] at w1;refine⟨v,?_⟩;simp[YD,YG,h2,V,W,I,N,M,B,w1,A];omega
 ·right
  simp[YG,V]
open Classical in
noncomputable def uX(f:FuncId)(args:List AV):Option AV:=match f,args with
 |136,[.str s,.str t]=>match ek s,ek t with
  |some a,some b=>if big 3 a∧big 3 b then some (.int .i64 (pU a b)) else none
  |_,_=>none
 |_,_=>none
theorem NJ{k:Nat}{q:Rat}(h0:0<k)(hk:k≤40000)(h:big k q):dc q:=by have Z:=aI h0 h.1;have X:=aI h0 h.2;exact⟨by omega,by omega⟩
theorem O8:qS prog (ag uX):=bM fun f Z v h mem=>by
 unfold uX at h;split at h
 ·split at h
  ·rename_i a b V U
   split at h
   ·rename_i X
    cases h;rw[aA V,aA U];exact sQ a b (NJ (by decide) (by decide) X.1) (NJ (by decide) (by decide) X.2) mem
   ·cases h
  ·cases h
 ·cases h
theorem p9(s:aeo)(Z Y:List Int)(hZ:∀z∈Z,z.natAbs<1000)(hY:∀z∈Y,z.natAbs<1000)(hl:Z.length≤1000)(hn:Z.length=s.P.length)(Z4:Y.length=s.P.length)(I:∀(i:Nat) z y,Z[i]? =some z→Y[i]? =some y→z≤y)(m:Mem)(b H :Nat)(o1 o2 o3 J:Bool)(hp:m[0]? =some (.cells o1 2 (pC s.P)))(hq:m[1]? =some (.cells o2 3 (tC s.T)))(W:m[b]? =some (.cells o3 1 (qC (qH Z))))(XQ :m[H]? =some (.cells J 1 (qC (qH Y)))):
  kO prog 235 [shA s,.slice b 0 Z.length none,.slice H 0 Y.length none] m (.tuple [.bool true,.int .i64 0]) m:=by
 have hG:aT prog 235=some f235:=by kernel_rfl
 have l0:=gL hp;have l1:=gL hq;have lb:=gL W;have lb' :=gL XQ;obtain⟨E,M⟩:=xE (α:=Mem) [.cells true 0 [.slice 0 0 s.P.length none,.slice 1 0 s.T.length none],.cells true 1 [.slice b 0 Z.length none,.slice H 0 Y.length none]];have L:=Cz s Z hZ hl hn Y hY Z4 (m++E) b H (m.length+1) o1 o2 o3 J true (gU hp _) (gU hq _) (gU W _) (gU XQ _) (by rw[M];simp);obtain⟨O,V⟩:=xE (y9.or (ag uX) (jI [(201,[shA s,.slice (m.length+1) 0 2 none],m++E,⟨.int .i64 0,none,[]⟩)]));have hO:qS prog O:=by rw[V];refine qS.or' O8 (jr fun e G=>?_);simp only[lM] at G;subst G;exact⟨by simpa [aee.mem] using L,by simp⟩
 have X:O (.fn 201) [shA s,.slice (m.length+1) 0 2 none] (m++E)=some ⟨.int .i64 0,none,[]⟩:=by rw[V];simp[y9.or,ag,uX,jI]
 have D:∀z y:Int,z.natAbs<1000→y.natAbs<1000→O (.fn 136) [.str (aj (hQ z)),.str (aj (hQ y))] (m++E)=some ⟨.int .i64 (pU (hQ z) (hQ y)),none,[]⟩:=fun z y U S=>by have C:=Uu U;have B:=Uu S;have A:big 3 (hQ z):=⟨C.1,by have:=C.2;omega⟩;have b2:big 3 (hQ y):=⟨B.1,by have:=B.2;omega⟩;rw[V];simp[y9.or,ag,uX,ar,A,b2]
 clear V;obtain⟨bb,R⟩:∃b,ah f235=[b]:=⟨_,rfl⟩
 obtain⟨F,u⟩:=Aw (O:=O) (K:=s.P.length+1) Z Y (fun i z y U S=>⟨I i z y U S,hZ z (List.mem_of_getElem? U),hY y (List.mem_of_getElem? S)⟩) (by omega) hl (by omega) (mem:=m++E) (b0:=b) (b1:=H) (o:=o3) (o' :=J) (gU W _) (gU XQ _) (m0:=m.length) D R;have j:=fun z' d h1 h2 h3 h4=>(u z' d ⟨h1,h2,h3,h4⟩).1
 clear u D;simp[ah,aG,f235] at R;subst R;refine ca (lv:=(fun _=>[21])) (K:=(s.P.length+1)) hO ?_;clear L;obtain⟨N,hN⟩:=xE s.P.length;subst M;simp only[shA,hn,Z4,←hN] at X j ⊢;simp[aa,hG,f235,X,j]
end Go.Proofs
