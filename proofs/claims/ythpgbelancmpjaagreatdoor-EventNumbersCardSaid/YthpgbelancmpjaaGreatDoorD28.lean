/- See D38. -/
import Derived.Test.YthpgbelancmpjaaGreatDoorD27
set_option linter.all false
set_option maxRecDepth 100000
set_option maxHeartbeats 40000000
namespace Go.Proofs
open Go.Eng
end Go.Proofs
namespace Go.Proofs
open Go.Eng
open Tryz
theorem Nf(d:Nat)(a b:List UInt8):k9 (bd prog) (d+2) 108 (.agg [.str a,.str b]) (.agg [.str a,.str b])=some true:=by have i:=lz d;rw[k9];simp[RT,jV,TyI.isAgg,i]
open Classical in
noncomputable def fR(f:FuncId)(args:List AV)(v:AV)(p:Mem->Prop):y9:=fun c a M=>if c=.fn f/\a=args/\p M then some ⟨v,none,[]⟩ else none
theorem gC{P:Program}{f:FuncId}{args:List AV}{v:AV}{p:Mem->Prop}(h:∀M,p M->kO P f args M v M):qS P (fR f args v p):=by
 have k:∀c a M r,fR f args v p c a M=some r->(c=.fn f/\a=args/\p M)/\r=⟨v,none,[]⟩:=fun c a M r Z=>by
  unfold fR at Z;split at Z
  .cases Z;exact⟨‹_›,rfl⟩
  .cases Z
 refine⟨fun g a M r Z=>?_,fun b a M r Z=>?_,fun c a M r q Z V=>?_⟩
 .obtain⟨⟨X,rfl,U⟩,rfl⟩:=k _ _ _ _ Z
  cases X;simpa [afh.mem] using h M U
 .obtain⟨⟨X,_⟩,_⟩:=k _ _ _ _ Z
  cases X
 .obtain⟨_,rfl⟩:=k _ _ _ _ Z
  cases V
end Go.Proofs
namespace Go.Proofs
open Go.Eng
end Go.Proofs
namespace Go.Proofs
open Go.Eng
open Tryz
theorem YH{Z:List Int}{i:Nat}{z:Int}(h:Z[i]? =some z):(qC (qH Z))[i]? =some (.str (ao (hQ z))):=Ov (by simp[qH,h])
def qP(c:Code):List Nat:=if (ad c).contains 18 then [18] else [30]
variable{K b0 m0:Nat}{O:y9}{mem:Mem}{o:Bool}
theorem jY(Z:List Int)(I:∀z∈Z,z.natAbs<1000)(Y:Z.length<=1000)(hK:Z.length<K)(J:mem[b0]? =some (.cells o 1 (qC (qH Z))))(W:∀z:Int,z.natAbs<1000->O (.fn 86) [.str (ao (hQ z))] mem=some ⟨.int .i64 0,none,[]⟩){b1 b:Code}(H:ah f201=[b1,b]):
  ∃F:Env->Bool->Env,∀X d,(ae X 28=.slice b0 0 Z.length none/\ae X 29=.int .i64 Z.length/\ae X 30=.int .i64 0)->
   aU (bd prog) qP O K 41 m0 true (.loop b) ⟨X,mem,d⟩=some (.exit 2,⟨F X d,mem,d⟩)/\(ae (F X d) 16=ae X 16/\ae (F X d) 17=ae X 17/\ae (F X d) 18=ae X 18/\ae (F X d) 2=ae X 2):=by
 refine bl (L:=[30]) (by simp[ah,aE,f201] at H;rw[<-H.2];rfl) (fun X=>ae X 28=.slice b0 0 Z.length none/\ae X 29=.int .i64 Z.length/\ae X 30=.int .i64 0) (fun X V =>ae V 16=ae X 16/\ae V 17=ae X 17/\ae V 18=ae X 18/\ae V 2=ae X 2) ?_;rintro X d ⟨ZT,ZW,ZV⟩;simp[ah,aE,f201] at H;have S:aw [30] (ad b) X ((30,.int .i64 ((0:Nat):Int))::X)=aw [30] (ad b) X X:=by simp[aw,ZV]
 rw[<-S];refine bG (α:=Nat) (fun n=>⟨aw [30] (ad b) X ((30,.int .i64 (n:Int))::X),mem,d⟩) (fun n=>Z.length-n) (fun n=>n<=Z.length) (.exit 2) _ d _ (by simp) ?_ K 0 (by omega) (by omega);rintro n D;clear S;obtain⟨_,rfl⟩:=H;by_cases U:n<Z.length
 .obtain⟨z,R⟩:∃z,Z[n]? =some z:=⟨Z[n],GT U⟩
  have N:=YH R;have M:=W z (I z (J1 R));have w1:IntKind.i64.wrap ((n:Int)+1)=((n+1:Nat):Int):=by rw[af];omega
  left;obtain⟨v,G⟩:=xE (n+1);rw[<-G] at w1;refine⟨v,?_⟩;simp[ZT,ZW,U,J,N,M,w1];omega
 .right
  simp[ZW,U]
def vW(f:FuncId)(args:List AV):Option AV:=match f,args with
 |86,[.str s]=>if s.length<=9 then some (.int .i64 (yT s)) else none
 |_,_=>none
theorem QR:qS prog (ag vW):=bP fun f Z v h mem=>by
 unfold vW at h;split at h
 .split at h
  .cases h;exact qz _ (by omega) mem
  .cases h
 .cases h
noncomputable def kv(s:afq)(m:Mem):y9:=y9.or (ag vW) (fR 46 [shA s] (.int .i64 0) (fun M=>∃ext,M=m++ext))
section
variable (s:afq)
include s
theorem Bh(m:Mem)(p q:Nat)(o o' :Bool)(H:m[p]? =some (.cells o 2 (pC s.P)))(hq:m[q]? =some (.cells o' 3 (tC s.T)))(h0:p=0)(h1:q=1):qS prog (kv s m):=by subst h0;subst h1;have X:=gL H;have V:=gL hq;refine qS.or' QR (gC fun M Z=>?_);obtain⟨ext,rfl⟩:=Z;exact oI s _ 0 1 o o' (gU H _) (gU hq _)
theorem re(m M:Mem)(z:Int)(h:z.natAbs<1000):kv s m (.fn 86) [.str (ao (hQ z))] M=some ⟨.int .i64 0,none,[]⟩:=by have Z:=Cc h;have X:=im ((VB h).mono (by omega) (by omega));simp[kv,y9.or,ag,vW,Z,X]
theorem vO(m ext:Mem):kv s m (.fn 46) [shA s] (m++ext)=some ⟨.int .i64 0,none,[]⟩:=by simp[kv,y9.or,ag,vW,fR]
section
variable (Z:List Int)(hZ:∀z∈Z,z.natAbs<1000)(hl:Z.length<=1000)(hn:Z.length=s.P.length)
include Z hZ hl hn
theorem tI(m:Mem)(b c:Nat)(o1 o2 o3 o4:Bool)(I:m[0]? =some (.cells o1 2 (pC s.P)))(hq:m[1]? =some (.cells o2 3 (tC s.T)))(H:m[b]? =some (.cells o3 1 (qC (qH Z))))(hc:m[c]? =some (.cells o4 1 [.slice b 0 Z.length none])):
  kO prog 201 [shA s,.slice c 0 1 none] m (.int .i64 0) m:=by
 have hG:aX prog 201=some f201:=by kernel_rfl
 have lb:=gL H;have lc:=gL hc;have Y:=Bh s m 0 1 o1 o2 I hq rfl rfl;obtain⟨W,J,D⟩:∃W J,ah f201=[W,J]:=⟨_,_,rfl⟩
 obtain⟨F,M⟩:=jY (O:=kv s m) (K:=Z.length+3) Z hZ hl (by omega) (mem:=m++[.cells true 0 [.slice 0 0 s.P.length none,.slice 1 0 s.T.length none]]) (b0:=b) (o:=o3) (gU H _) (m0:=m.length) (fun z h=>re s m _ z h) D;have C:=fun X d V U S=>(M X d ⟨V,U,S⟩).1
 have B:=fun X d V U S=>(M X d ⟨V,U,S⟩).2.1
 have u:=fun X d V U S=>(M X d ⟨V,U,S⟩).2.2.1
 have L:=fun X d V U S=>(M X d ⟨V,U,S⟩).2.2.2.1
 have g2:=fun X d V U S=>(M X d ⟨V,U,S⟩).2.2.2.2
 clear M;simp[ah,aE,f201] at D;obtain⟨_,rfl⟩:=D;have w0:IntKind.i64.wrap 1=1:=rfl;have R:=vO s m [.cells true 0 [.slice 0 0 s.P.length none,.slice 1 0 s.T.length none]];obtain⟨O,j⟩:=xE (kv s m);rw[<-j] at Y C R;have G :(m++[.cells true 0 [.slice 0 0 s.P.length none,.slice 1 0 s.T.length none]])[c]? =some (.cells o4 1 [.slice b 0 Z.length none]):=gU hc _;refine dj (lv:=qP) (K:=(Z.length+3)) Y ?_;obtain⟨N,hN⟩:=xE s.P.length;simp only[shA,hn,<-hN] at R C B u L g2 G |-;simp[aa,hG,f201,R,C,L,ba,ga,qP,G,w0]
theorem Di(Y:List Int)(hY:∀z∈Y,z.natAbs<1000)(J:Y.length=s.P.length)(m:Mem)(b I c:Nat)(o1 o2 o3 H o4:Bool)(hp:m[0]? =some (.cells o1 2 (pC s.P)))(hq:m[1]? =some (.cells o2 3 (tC s.T)))(hb:m[b]? =some (.cells o3 1 (qC (qH Z))))(Y7 :m[I]? =some (.cells H 1 (qC (qH Y))))(hc:m[c]? =some (.cells o4 1 [.slice b 0 Z.length none,.slice I 0 Y.length none])):
  kO prog 201 [shA s,.slice c 0 2 none] m (.int .i64 0) m:=by
 have hG:aX prog 201=some f201:=by kernel_rfl
 have lb:=gL hb;have lb' :=gL Y7;have lc:=gL hc;have hO:=Bh s m 0 1 o1 o2 hp hq rfl rfl;obtain⟨b1,b2,u⟩:∃b1 b2,ah f201=[b1,b2]:=⟨_,_,rfl⟩
 obtain⟨F,L⟩:=jY (O:=kv s m) (K:=s.P.length+4) Z hZ hl (by omega) (mem:=m++[.cells true 0 [.slice 0 0 s.P.length none,.slice 1 0 s.T.length none]]) (b0:=b) (o:=o3) (gU hb _) (m0:=m.length) (fun z h=>re s m _ z h) u;have j:=fun X d V U S=>(L X d ⟨V,U,S⟩).1
 have W:=fun X d V U S=>(L X d ⟨V,U,S⟩).2.1
 have g17:=fun X d V U S=>(L X d ⟨V,U,S⟩).2.2.1
 have D:=fun X d V U S=>(L X d ⟨V,U,S⟩).2.2.2.1
 have g2:=fun X d V U S=>(L X d ⟨V,U,S⟩).2.2.2.2
 obtain⟨F2,G⟩:=jY (O:=kv s m) (K:=s.P.length+4) Y hY (by omega) (by omega) (mem:=m++[.cells true 0 [.slice 0 0 s.P.length none,.slice 1 0 s.T.length none]]) (b0:=I) (o:=H) (gU Y7 _) (m0:=m.length) (fun z h=>re s m _ z h) u;have R :=fun X d V U S=>(G X d ⟨V,U,S⟩).1
 have aeX :=fun X d V U S=>(G X d ⟨V,U,S⟩).2.1
 have aeY :=fun X d V U S=>(G X d ⟨V,U,S⟩).2.2.1
 have C :=fun X d V U S=>(G X d ⟨V,U,S⟩).2.2.2.1
 have g2' :=fun X d V U S=>(G X d ⟨V,U,S⟩).2.2.2.2
 clear L G;simp[ah,aE,f201] at u;obtain⟨_,rfl⟩:=u;have w0:IntKind.i64.wrap 1=1:=rfl;have M:=vO s m [.cells true 0 [.slice 0 0 s.P.length none,.slice 1 0 s.T.length none]];obtain⟨O,hOO⟩:=xE (kv s m);rw[<-hOO] at hO j R M;have B :(m++[.cells true 0 [.slice 0 0 s.P.length none,.slice 1 0 s.T.length none]])[c]? =some (.cells o4 1 [.slice b 0 Z.length none,.slice I 0 Y.length none]):=gU hc _;refine dj (lv:=qP) (K:=(s.P.length+4)) hO ?_;obtain⟨N,hN⟩:=xE s.P.length;simp only[shA,hn,J,<-hN] at M j W g17 D g2 R aeX aeY C g2' B |-;simp[aa,hG,f201,M,j,D,R,C,w2,ba,ga,qP,B,w0]
theorem qD(m:Mem)(b:Nat)(o1 o2 o3:Bool)(H:m[0]? =some (.cells o1 2 (pC s.P)))(hq:m[1]? =some (.cells o2 3 (tC s.T)))(I:m[b]? =some (.cells o3 1 (qC (qH Z)))):
  kO prog 118 [shA s,.slice b 0 Z.length none] m (.int .i64 0) m:=by
 have U:aX prog 118=some f118:=by kernel_rfl
 have N:=gL H;have M:=gL hq;have L:=gL I;obtain⟨E,X⟩:=xE (α:=Mem) [.cells true 0 [.slice 0 0 s.P.length none,.slice 1 0 s.T.length none],.cells true 1 [.slice b 0 Z.length none]];have S:=tI s Z hZ hl hn (m++E) b (m.length+1) o1 o2 o3 true (gU H _) (gU hq _) (gU I _) (by rw[X];simp);have R:qS prog (wE [(201,[shA s,.slice (m.length+1) 0 1 none],m++E,⟨.int .i64 0,none,[]⟩)]):=AA fun e V=>by simp only[lM] at V;subst V;exact⟨by simpa [afh.mem] using S,by simp⟩
 refine iS R ?_;rw[X];simp[aa,U,f118,wE,shA]
end
end
theorem WM{a b:Int}(h:a<=b):¬0<qu (hQ a) (hQ b):=by have:=B0.2 (Yz h);omega
theorem A8(Z Y:List Int)(H:∀(i:Nat) z y,Z[i]? =some z->Y[i]? =some y->z<=y/\z.natAbs<1000/\y.natAbs<1000)(hn:Z.length=Y.length)(hl:Z.length<=1000)(hK:Z.length<K){b1:Nat}{o' :Bool}(W:mem[b0]? =some (.cells o 1 (qC (qH Z))))(I :mem[b1]? =some (.cells o' 1 (qC (qH Y))))(hO:∀z y:Int,z.natAbs<1000->y.natAbs<1000->O (.fn 136) [.str (ao (hQ z)),.str (ao (hQ y))] mem=some ⟨.int .i64 (qu (hQ z) (hQ y)),none,[]⟩){b:Code}(J:ah f235=[b]):
  ∃F:Env->Bool->Env,∀X d,(ae X 19=.slice b0 0 Z.length none/\ae X 20=.int .i64 Z.length/\ae X 21=.int .i64 0/\ae X 2=.slice b1 0 Z.length none)->
   aU (bd prog) (fun _=>[21]) O K 34 m0 true (.loop b) ⟨X,mem,d⟩=some (.exit 0,⟨F X d,mem,d⟩)/\True:=by
 refine bl (L:=[21]) rfl (fun X=>ae X 19=.slice b0 0 Z.length none/\ae X 20=.int .i64 Z.length/\ae X 21=.int .i64 0/\ae X 2=.slice b1 0 Z.length none) (fun _ _=>True) ?_;rintro X d ⟨ZT,ZW,ZV,h2⟩;simp[ah,aE,f235] at J;have U:aw [21] (ad b) X ((21,.int .i64 ((0:Nat):Int))::X)=aw [21] (ad b) X X:=by simp[aw,ZV]
 rw[<-U];refine bG (α:=Nat) (fun n=>⟨aw [21] (ad b) X ((21,.int .i64 (n:Int))::X),mem,d⟩) (fun n=>Z.length-n) (fun n=>n<=Z.length) (.exit 0) _ d _ (by simp) ?_ K 0 (by omega) (by omega);rintro n j;clear U;subst J;by_cases V:n<Z.length
 .obtain⟨z,S⟩:∃z,Z[n]? =some z:=⟨Z[n],GT V⟩
  obtain⟨y,R⟩:∃y,Y[n]? =some y:=⟨Y[n]'(by omega),GT (by omega)⟩
  have N:=YH S;have M:=YH R;obtain⟨G,D,C⟩:=H n z y S R;have B:=hO z y D C;have u:=WM G;have w1:IntKind.i64.wrap ((n:Int)+1)=((n+1:Nat):Int):=by rw[af];omega
  left;obtain⟨v,m⟩:=xE (n+1);rw[<-m] at w1;refine⟨v,?_⟩;simp[ZT,ZW,h2,V,W,I,N,M,B,w1,u];omega
 .right
  simp[ZW,V]
open Classical in
noncomputable def vN(f:FuncId)(args:List AV):Option AV:=match f,args with
 |136,[.str s,.str t]=>match dY s,dY t with
  |some a,some b=>if big 3 a/\big 3 b then some (.int .i64 (qu a b)) else none
  |_,_=>none
 |_,_=>none
theorem OW{k:Nat}{q:Rat}(h0:0<k)(H:k<=40000)(h:big k q):ek q:=by have Z:=aN h0 h.1;have X:=aN h0 h.2;exact⟨by omega,by omega⟩
theorem Qw:qS prog (ag vN):=bP fun f Z v h mem=>by
 unfold vN at h;split at h
 .split at h
  .rename_i a b V U
   split at h
   .rename_i X
    cases h;rw[au V,au U];exact tH a b (OW (by decide) (by decide) X.1) (OW (by decide) (by decide) X.2) mem
   .cases h
  .cases h
 .cases h
theorem qB(s:afq)(Z Y:List Int)(hZ:∀z∈Z,z.natAbs<1000)(hY:∀z∈Y,z.natAbs<1000)(hl:Z.length<=1000)(hn:Z.length=s.P.length)(H:Y.length=s.P.length)(J:∀(i:Nat) z y,Z[i]? =some z->Y[i]? =some y->z<=y)(m:Mem)(b I :Nat)(o1 o2 o3 o4:Bool)(hp:m[0]? =some (.cells o1 2 (pC s.P)))(hq:m[1]? =some (.cells o2 3 (tC s.T)))(W:m[b]? =some (.cells o3 1 (qC (qH Z))))(Y7 :m[I]? =some (.cells o4 1 (qC (qH Y)))):
  kO prog 235 [shA s,.slice b 0 Z.length none,.slice I 0 Y.length none] m (.tuple [.bool true,.int .i64 0]) m:=by
 have hG:aX prog 235=some f235:=by kernel_rfl
 have l0:=gL hp;have l1:=gL hq;have lb:=gL W;have lb' :=gL Y7;obtain⟨E,L⟩:=xE (α:=Mem) [.cells true 0 [.slice 0 0 s.P.length none,.slice 1 0 s.T.length none],.cells true 1 [.slice b 0 Z.length none,.slice I 0 Y.length none]];have G:=Di s Z hZ hl hn Y hY H (m++E) b I (m.length+1) o1 o2 o3 o4 true (gU hp _) (gU hq _) (gU W _) (gU Y7 _) (by rw[L];simp);obtain⟨O,X⟩:=xE (y9.or (ag vN) (wE [(201,[shA s,.slice (m.length+1) 0 2 none],m++E,⟨.int .i64 0,none,[]⟩)]));have hO:qS prog O:=by rw[X];refine qS.or' Qw (AA fun e D=>?_);simp only[lM] at D;subst D;exact⟨by simpa [afh.mem] using G,by simp⟩
 have V:O (.fn 201) [shA s,.slice (m.length+1) 0 2 none] (m++E)=some ⟨.int .i64 0,none,[]⟩:=by rw[X];simp[y9.or,ag,vN,wE]
 have U:∀z y:Int,z.natAbs<1000->y.natAbs<1000->O (.fn 136) [.str (ao (hQ z)),.str (ao (hQ y))] (m++E)=some ⟨.int .i64 (qu (hQ z) (hQ y)),none,[]⟩:=fun z y S R=>by have C:=VB S;have B:=VB R;have u:big 3 (hQ z):=⟨C.1,by have:=C.2;omega⟩;have b2:big 3 (hQ y):=⟨B.1,by have:=B.2;omega⟩;rw[X];simp[y9.or,ag,vN,aB,u,b2]
 clear X;obtain⟨bb,M⟩:∃b,ah f235=[b]:=⟨_,rfl⟩
 obtain⟨F,j⟩:=A8 (O:=O) (K:=s.P.length+1) Z Y (fun i z y S R=>⟨J i z y S R,hZ z (J1 S),hY y (J1 R)⟩) (by omega) hl (by omega) (mem:=m++E) (b0:=b) (b1:=I) (o:=o3) (o' :=o4) (gU W _) (gU Y7 _) (m0:=m.length) U M;have Zh:=fun z' d h1 h2 h3 h4=>(j z' d ⟨h1,h2,h3,h4⟩).1
 clear j U;simp[ah,aE,f235] at M;subst M;refine dj (lv:=(fun _=>[21])) (K:=(s.P.length+1)) hO ?_;clear G;obtain⟨N,hN⟩:=xE s.P.length;subst L;simp only[shA,hn,H,<-hN] at V Zh |-;simp[aa,hG,f235,V,Zh]
theorem HB(a b c:P2)(h:WK a b c)(M:Mem):kO prog 179 [pA a,pA b,pA c] M (.str (ao (cf a b c))) M:=by
 have H:aX prog 179=some f179:=by kernel_rfl
 obtain⟨B,u⟩:=a;obtain⟨b1,b2⟩:=b;obtain⟨c1,c2⟩:=c;obtain⟨⟨⟨m,j⟩,⟨Y,W⟩,r1,r2⟩,⟨N,L,G,F⟩,t1,t2⟩:=h;unfold cf;simp only at m j Y W r1 r2 N L G F t1 t2 |-;obtain⟨x1,V⟩:=xE (b1-B);obtain⟨x2,U⟩:=xE (c2-u);obtain⟨x3,S⟩:=xE (b2-u);obtain⟨x4,R⟩:=xE (c1-B);simp only[<-V,<-U,<-S,<-R] at N L G F t1 t2 |-;obtain⟨y1,Z⟩:=xE (x1*x2);obtain⟨y2,X⟩:=xE (x3*x4);rw[<-Z] at t1;rw[<-X] at t2;rw[<-Z,<-X];unfold ek at*;refine aA cQ ?_ M;obtain⟨J,I,D⟩:∃J I,aI f179=[J,I]:=⟨_,_,rfl⟩
 obtain⟨C,ZF⟩:=Ca D (l:=[0,1,0,4,15,0,32,0,128,511,1023,2047]) (l' :=[0,0,2,0,8,30,0,64,0,256,1022,2046,4095,8191]) (by kernel_rfl);have k1:fv [0,1,0,4,15,0,32,0,128,511,1023,2047] 11=true:=by decide
 have k2:fv [0,0,2,0,8,30,0,64,0,256,1022,2046,4095,8191] 13=true:=by decide
 simp[aI,ca,f179] at D;obtain⟨rfl,rfl⟩:=D;simp[aa,H,f179,-aG,an C,an ZF,bD,bt,bB,k1,k2,pA,aB,ag,aT,aV,m,j,Y,W,r1,r2,N,L,G,F,t1,t2,<-V,<-U,<-S,<-R,<-Z,<-X,Nat.testBit]
theorem HC(a b c:P2)(h:WK a b c)(M:Mem):kO prog 99 [pA a,pA b,pA c] M (.int .i64 (gd (cf a b c))) M:=by
 have X:aX prog 99=some f99:=by kernel_rfl
 have Z:qS prog (y9.or (fR 179 [pA a,pA b,pA c] (.str (ao (cf a b c))) (fun _=>True)) (ag aT)):=qS.or (gC fun N _=>HB a b c h N) cQ;obtain⟨y,V⟩:=xE (cf a b c);rw[<-V] at Z |-;refine aA Z ?_ M;simp[aa,X,f99,y9.or,fR,pA,aB,ag,aT,aV,bE,bz]
open Classical in
noncomputable def v8(f:FuncId)(args:List AV):Option AV:=
 match f,args with
 |99,[.agg [.str a,.str b],.agg [.str c,.str d],.agg [.str e,.str g]]=>match dY a,dY b,dY c,dY d,dY e,dY g with
  |some x,some y,some z,some w,some u,some v=>if WK (x,y) (z,w) (u,v) then some (.int .i64 (gd (cf (x,y) (z,w) (u,v)))) else none
  |_,_,_,_,_,_=>none
 |_,_=>none
theorem QT:qS prog (ag v8):=bP fun f Z v h mem=>by
 unfold v8 at h;split at h
 .split at h
  .rename_i x y z w u v X V h3 U S R
   split at h
   .rename_i N
    cases h;rw[au X,au V,au h3,au U,au S,au R];exact HC (x,y) (z,w) (u,v) N mem
   .cases h
  .cases h
 .cases h
def E3(A B C:P2):AV:=.agg [.str (ao A.1),.str (ao A.2),.str (ao B.1),.str (ao B.2),.str (ao C.1),.str (ao C.2)]
theorem Fi(A B C q:P2)(h:Ug A B C q)(M:Mem):kO prog 48 [E3 A B C,pA q] M (.bool (decide (inQ (qi A B C q)))) M:=by
 have U:aX prog 48=some f48:=by kernel_rfl
 obtain⟨R,G,h3⟩:=h;obtain⟨a,b⟩:=A;obtain⟨c,d⟩:=B;obtain⟨e,f⟩:=C;obtain⟨u,v⟩:=q;have N:decide (inQ (qi (a,b) (c,d) (e,f) (u,v)))=decide (0<=gd (cf (c,d) (e,f) (u,v))/\0<=gd (cf (e,f) (a,b) (u,v))/\0<=gd (cf (a,b) (c,d) (u,v))):=decide_eq_decide.2 Iff.rfl;rw[N];clear N;obtain⟨F,X⟩:=xE (gd (cf (c,d) (e,f) (u,v)));obtain⟨D,V⟩:=xE (gd (cf (e,f) (a,b) (u,v)));obtain⟨m,Z⟩:=xE (gd (cf (a,b) (c,d) (u,v)));rw[<-X,<-V,<-Z];refine aA QT ?_ M;by_cases S:0<=m
 .by_cases L:0<=F
  .by_cases j:0<=D<;>simp[aa,U,f48,ag,v8,E3,pA,aB,R,G,h3,<-X,<-V,<-Z,L,j,S]
  .simp[aa,U,f48,ag,v8,E3,pA,aB,R,h3,<-X,<-Z,L,S]
 .simp[aa,U,f48,ag,v8,E3,pA,aB,h3,<-Z,S]
section
variable {P:List P2}{T:List Tr}{t:Tr}{A B C:P2}{i:Nat}
theorem AU(W:T[i]? =some t)(H:P[t.1]? =some A)(I:P[t.2.1]? =some B)(J:P[t.2.2]? =some C){M:Mem}{pb tb:Nat}{o1 o2:Bool}(Y:M[pb]? =some (.cells o1 2 (pC P)))(m2:M[tb]? =some (.cells o2 3 (tC T))):
  kO prog 49 [.agg [.slice pb 0 P.length none,.slice tb 0 T.length none],.int .i64 (i:Int)] M (E3 A B C) M:=by
 have R:aX prog 49=some f49:=by kernel_rfl
 obtain⟨S,N⟩:=Mk W;have V:=gL W;obtain⟨i1,i2,i3⟩:=t;simp only at H I J S;obtain⟨L,-,-,G⟩:=vi H;obtain⟨F,-,-,D⟩:=vi I;obtain⟨r1,-,-,u⟩:=vi J;have a1:=gL H;have a2:=gL I;have a3:=gL J;obtain⟨Z,U⟩:∃Z,aI f49=[Z]:=⟨_,rfl⟩
 obtain⟨UV,ZD⟩:=dx U (l:=[0,1,0,4,15,31,0,64,0,256,960,1984,0,4096,0,16384,61440,126976,262143,524287]) (j:=19) (by kernel_rfl) (by decide);simp[aI,ca,f49] at U;subst U;have h:aa (bd prog) (fun _=>[]) (aX prog) cP 1 49 [.agg [.slice 0 0 P.length none,.slice 1 0 T.length none],.int .i64 (i:Int)] [.cells false 2 (pC P),.cells false 3 (tC T)]=some ⟨E3 A B C,none,[]⟩:=by simp[aa,R,f49,V,S,N,a1,a2,a3,L,F,r1,G,D,u,E3,-aG,an UV,bD,bt,bB,ZD,cv]
 have h2:=(ar aj (aJ _) (az _) (aM _) h).1;have l1:=gL Y;have l2:=gL m2;have:=kO.frame (M:=M) (new:=[]) (args:=[.agg [.slice 0 0 P.length none,.slice 1 0 T.length none],.int .i64 (i:Int)]) [pb,tb] (m:=[.cells false 2 (pC P),.cells false 3 (tC T)]) rfl (by simp[l1,l2]) (by rfl) (fun j s X=>by
  match j with
  |0=>simp at X;subst X;exact cw (dX P) Y P1
  |1=>simp at X;subst X;exact cw (fW T) m2 P1
  |j+2=>simp at X) rfl (by simpa [afh.mem] using h2)
 simpa [AV.afz,AV.ren,fa,E3] using this
end
end Go.Proofs
namespace Go.Proofs
open Go.Eng
open Tryz
theorem Hs(p q r s:Rat)(H:ek p)(hq:ek q)(hr:ek r)(hs:ek s)(h1:ek (p*s))(h2:ek (q*r))(M:Mem):kO prog 307 [.str (ao p),.str (ao q),.str (ao r),.str (ao s)] M (.str (ao (p*s-q*r))) M:=by
 have S:aX prog 307=some f307:=by kernel_rfl
 obtain⟨R,O⟩:=H;obtain⟨N,L⟩:=hq;obtain⟨K,G⟩:=hr;obtain⟨d1,d2⟩:=hs;obtain⟨Z,X⟩:=h1;obtain⟨f1,f2⟩:=h2;obtain⟨x,V⟩:=xE (p*s);obtain⟨y,U⟩:=xE (q*r);rw[<-V] at Z X |-;rw[<-U] at f1 f2 |-;refine aA cQ ?_ M;simp[aa,S,f307,aB,ag,aT,aV,R,O,N,L,K,G,d1,d2,Z,X,f1,f2,<-V,<-U]
open Classical in
noncomputable def vZ(f:FuncId)(args:List AV):Option AV:=
 match f,args with
 |307,[.str a,.str b,.str c,.str d]=>match dY a,dY b,dY c,dY d with
  |some p,some q,some r,some s=>if (ek p/\ek q/\ek r/\ek s)/\ek (p*s)/\ek (q*r) then some (.str (ao (p*s-q*r))) else none
  |_,_,_,_=>none
 |f,args=>aT f args
theorem QS:qS prog (ag vZ):=bP fun f X v h mem=>by
 unfold vZ at h;split at h
 .split at h
  .rename_i p q r s V U h3 S
   split at h
   .rename_i Z
    cases h;rw[au V,au U,au h3,au S];exact Hs p q r s Z.1.1 Z.1.2.1 Z.1.2.2.1 Z.1.2.2.2 Z.2.1 Z.2.2 mem
   .cases h
  .cases h
 .have:=cQ.fn _ _ mem ⟨v,none,[]⟩ (by unfold ag;simp only;rw[h])
  simpa [afh.mem] using this
section
variable {P:List P2}{T:List Tr}{L:List Rat}{t:Tr}{A B C:P2}{f g h:Rat}{i:Nat}
def fsM(P:List P2)(T:List Tr)(L:List Rat):Mem:=[.cells false 2 (pC P),.cells false 3 (tC T),.cells false 1 (qC L)]
theorem Dj(H:T[i]? =some t)(I:P[t.1]? =some A)(J:P[t.2.1]? =some B)(W:P[t.2.2]? =some C)(hf:L[t.1]? =some f)(hg:L[t.2.1]? =some g)(Y:L[t.2.2]? =some h):
  kO prog 306 [.agg [.slice 0 0 P.length none,.slice 1 0 T.length none],.slice 2 0 L.length none,.int .i64 i] (fsM P T L) (.agg [.str (ao A.1),.str (ao A.2),.str (ao f),.str (ao B.1),.str (ao B.2),.str (ao g),.str (ao C.1),.str (ao C.2),.str (ao h)]) (fsM P T L):=by
 have U:aX prog 306=some f306:=by kernel_rfl
 obtain⟨S,R⟩:=Mk H;have X:=gL H;obtain⟨O,-,-,N⟩:=vi I;obtain⟨M,-,-,K⟩:=vi J;obtain⟨r1,-,-,G⟩:=vi W;have F:=gL I;have D:=gL J;have u:=gL W;have f1:=Ov hf;have f2:=Ov hg;have f3:=Ov Y;have o:=gL hf;have m:=gL hg;have b3:=gL Y;obtain⟨t1,t2,t3⟩:=t;simp only at*;obtain⟨Z,V⟩:∃Z,aI f306=[Z]:=⟨_,rfl⟩
 obtain⟨UV,ZD⟩:=dx V (l:=[0,0,2,0,14,30,0,0,192,448,1022,2047,4095]) (j:=12) (by kernel_rfl) (by decide);simp[aI,ca,f306] at V;subst V;unfold fsM;have hr:aa (bd prog) (fun _=>[14]) (aX prog) cP 5 306 [.agg [.slice 0 0 P.length none,.slice 1 0 T.length none],.slice 2 0 L.length none,.int .i64 i] [.cells false 2 (pC P),.cells false 3 (tC T),.cells false 1 (qC L)]=some ⟨.agg [.str (ao A.1),.str (ao A.2),.str (ao f),.str (ao B.1),.str (ao B.2),.str (ao g),.str (ao C.1),.str (ao C.2),.str (ao h)],none,[]⟩:=by simp[aa,U,f306,ba,ga,X,S,R,F,D,u,O,M,r1,N,K,G,f1,f2,f3,o,m,b3,w1,w2,w3,-aG,an UV,bD,bt,bB,ZD,cv,aH]
 have:=(ar aj (aJ _) (az _) (aM _) hr).1;simpa [afh.mem] using this
end
structure ahG (A B C:P2)(f g h:Rat):Prop where
 a:ek A.1/\ek A.2
 b:ek B.1/\ek B.2
 c:ek C.1/\ek C.2
 z:ek f/\ek g/\ek h
 d:(ek (B.1-A.1)/\ek (B.2-A.2))/\ek (C.1-A.1)/\ek (C.2-A.2)
 e:ek (g-f)/\ek (h-f)
 m1:ek ((B.1-A.1)*(C.2-A.2))/\ek ((B.2-A.2)*(C.1-A.1))
 m2:ek ((g-f)*(C.2-A.2))/\ek ((B.2-A.2)*(h-f))
 m3:ek ((B.1-A.1)*(h-f))/\ek ((g-f)*(C.1-A.1))
 s:ek (cf A B C)/\cf A B C≠0
 n:ek ((g-f)*(C.2-A.2)-(B.2-A.2)*(h-f))/\ek ((B.1-A.1)*(h-f)-(g-f)*(C.1-A.1))
 k:ek (1 / cf A B C)
 r:tG [ao (slX A B C f g h).1,ao (slX A B C f g h).2]=0/\(ao (slX A B C f g h).1).length<=LO/\(ao (slX A B C f g h).2).length<=LO
section
variable {P:List P2}{T:List Tr}{L:List Rat}{t:Tr}{A B C:P2}{f g h:Rat}{i:Nat}
theorem KB:(aI f294).map (fun o=>dO o.toList)=[[0,1,3,7,0,16,48,112,255,0,512,1536,3584,0,8192,24576,57344,131071,262143,524287],[0,1,3,7,0,16,48,112,255,0,512,1536,3584,0,8192,24576,57344,131071,262143,524287],[0,1,3,0,8,24,63,0,128,384,0,1024,3072,8191,16383,32767]]:=by kernel_rfl
theorem ahS:fv [0,1,3,7,0,16,48,112,255,0,512,1536,3584,0,8192,24576,57344,131071,262143,524287] 19=true:=by decide
theorem Fc(hi:T[i]? =some t)(hA:P[t.1]? =some A)(hB:P[t.2.1]? =some B)(hC:P[t.2.2]? =some C)(hf:L[t.1]? =some f)(hg:L[t.2.1]? =some g)(hh:L[t.2.2]? =some h)(ok:ahG A B C f g h)(Z:Mem):
  kO prog 294 [.agg [.slice 0 0 P.length none,.slice 1 0 T.length none],.slice 2 0 L.length none,.int .i64 i] (fsM P T L) (pA (slX A B C f g h)) (fsM P T L):=by
 have hG:aX prog 294=some f294:=by kernel_rfl
 have hc:=Dj hi hA hB hC hf hg hh;have G:qS prog (y9.or (fR 306 [.agg [.slice 0 0 P.length none,.slice 1 0 T.length none],.slice 2 0 L.length none,.int .i64 i] (.agg [.str (ao A.1),.str (ao A.2),.str (ao f),.str (ao B.1),.str (ao B.2),.str (ao g),.str (ao C.1),.str (ao C.2),.str (ao h)]) (fun N=>∃Z,N=fsM P T L++Z)) (ag vZ)):=
  qS.or (gC fun N ⟨Z,hZ⟩=>by
   subst hZ;have:=kO.frame (M:=fsM P T L++Z) (new:=[]) (args:=[.agg [.slice 0 0 P.length none,.slice 1 0 T.length none],.slice 2 0 L.length none,.int .i64 i]) [0,1,2] (m:=fsM P T L) rfl (by simp[fsM]) (by rfl) (fun j s X=>by
    match j with
    |0=>simp[fsM] at X;subst X;exact cw (dX P) rfl P1
    |1=>simp[fsM] at X;subst X;exact cw (fW T) rfl P1
    |2=>simp[fsM] at X;subst X;exact cw (oz L) rfl P1
    |j+3=>simp[fsM] at X) rfl (by rw[List.append_nil];exact hc)
   simpa [AV.afz,AV.ren,fa] using this) QS
 obtain⟨⟨a1,a2⟩,⟨b1,b2⟩,⟨c1,c2⟩,⟨z1,z2,z3⟩,⟨⟨d1,d2⟩,d3,d4⟩,⟨F,D⟩,⟨o,Y⟩,⟨W,J⟩,⟨I,H⟩,⟨R,s2⟩,⟨O,K⟩,k,-⟩:=ok;unfold slX;unfold cf at*;obtain⟨ax,ay⟩:=A;obtain⟨bx,V⟩:=B;obtain⟨cx,cy⟩:=C;simp only at*;obtain⟨x,hx⟩:=xE (bx-ax);obtain⟨y,hy⟩:=xE (V-ay);obtain⟨u,hu⟩:=xE (cx-ax);obtain⟨v,hv⟩:=xE (cy-ay);obtain⟨a,ha⟩:=xE (g-f);obtain⟨b,hb⟩:=xE (h-f);simp only[<-hx,<-hy,<-hu,<-hv,<-ha,<-hb] at d1 d2 d3 d4 F D o Y W J I H R s2 O K k |-;obtain⟨S,hS⟩:=xE (x*v-y*u);obtain⟨q,hq⟩:=xE (a*v-y*b);obtain⟨r,hr⟩:=xE (x*b-a*u);simp only[<-hS,<-hq,<-hr] at R s2 O K k |-;obtain⟨w,hw⟩:=xE (1 / S);rw[<-hw] at k |-;have aeZ:dY [49]=some 1:=rfl;have o1:(ai 1).length<=9:=by decide
 have o2:(ai 1).length<=40000:=by decide
 unfold ek at a1 a2 b1 b2 c1 c2 z1 z2 z3 d1 d2 d3 d4 F D o Y W J I H R O K k;obtain⟨U,D'⟩:∃U,aI f294=U :=⟨_,rfl⟩
 have Ze :=cG D' KB;simp only[aI,ca,f294,lA] at D';subst D';simp only[lB] at Ze;obtain⟨P',hb1,ZF⟩:=Ze;have j2:fv [0,1,3,0,8,24,63,0,128,384,0,1024,3072,8191,16383,32767] 15=true:=by decide
 unfold fsM at G |-;have Y6:aa (bd prog) (fun _=>[]) (aX prog) (y9.or (fR 306 [.agg [.slice 0 0 P.length none,.slice 1 0 T.length none],.slice 2 0 L.length none,.int .i64 i] (.agg [.str (ao ax),.str (ao ay),.str (ao f),.str (ao bx),.str (ao V),.str (ao g),.str (ao cx),.str (ao cy),.str (ao h)]) (fun N=>∃Z,N=[.cells false 2 (pC P),.cells false 3 (tC T),.cells false 1 (qC L)]++Z)) (ag vZ)) 1 294 [.agg [.slice 0 0 P.length none,.slice 1 0 T.length none],.slice 2 0 L.length none,.int .i64 i] [.cells false 2 (pC P),.cells false 3 (tC T),.cells false 1 (qC L)]=some ⟨pA (w*q,w*r),none,[]⟩:=by clear G hc;simp[aa,hG,f294,y9.or,fR,ag,vZ,aT,aV,aB,aeZ,o2,a1,a2,b1,b2,c1,c2,z1,z2,z3,d1,d2,d3,d4,F,D,o,Y,W,J,I,H,R,s2,O,K,k,<-hx,<-hy,<-hu,<-hv,<-ha,<-hb,<-hS,<-hq,<-hr,<-hw,ek,pA,cv,aH,-aG,an P',an hb1,an ZF,bD,bt,bB,ahS,j2,Nat.testBit]
 have:=(ar aj (aJ _) G (aM _) Y6).1;simpa [afh.mem] using this
end
variable{M:Mem}{fb pb tb:Nat}{o1 o2 o3:Bool}
section
variable {s:afq}{Z:List Int}{t:Tr}{A B C:P2}{f g h:Rat}{i:Nat}
theorem rz{fn:FuncId}{v:AV}{P:List P2}{T:List Tr}{L:List Rat}{n:Nat}(J:v.closed=true)(hc:kO prog fn [.agg [.slice 0 0 P.length none,.slice 1 0 T.length none],.slice 2 0 L.length none,.int .i64 (n:Int)] (fsM P T L) v (fsM P T L))(H:M[pb]? =some (.cells o1 2 (pC P)))(m2:M[tb]? =some (.cells o2 3 (tC T)))(I:M[fb]? =some (.cells o3 1 (qC L))):
  kO prog fn [.agg [.slice pb 0 P.length none,.slice tb 0 T.length none],.slice fb 0 L.length none,.int .i64 (n:Int)] M v M:=by
 have V:=gL H;have U:=gL m2;have S:=gL I;have:=kO.frame (M:=M) (new:=[]) (args:=[.agg [.slice 0 0 P.length none,.slice 1 0 T.length none],.slice 2 0 L.length none,.int .i64 (n:Int)]) [pb,tb,fb] (m:=fsM P T L) rfl (by simp[V,U,S]) (by rfl) (fun j s X=>by
  match j with
  |0=>simp[fsM] at X;subst X;exact cw (dX P) H P1
  |1=>simp[fsM] at X;subst X;exact cw (fW T) m2 P1
  |2=>simp[fsM] at X;subst X;exact cw (oz L) I P1
  |j+3=>simp[fsM] at X) rfl (by rw[List.append_nil];exact hc)
 simpa [AV.afz,AV.ren,fa,jS _ _ J] using this
section
variable (hn2:s.P.length<=1000)(hZ:∀z∈Z,z.natAbs<1000)(hl:Z.length=s.P.length)(hi:s.T[i]? =some t)(hA:s.P[t.1]? =some A)(hB:s.P[t.2.1]? =some B)(hC:s.P[t.2.2]? =some C)(hf:(qH Z)[t.1]? =some f)(hg:(qH Z)[t.2.1]? =some g)(hh:(qH Z)[t.2.2]? =some h)
include hn2 hZ hl hi hA hB hC hf hg hh
theorem Ht(ok:ahG A B C f g h):
  kO prog 274 [.agg [.slice 0 0 s.P.length none,.slice 1 0 s.T.length none],.slice 2 0 (qH Z).length none,.int .i64 (i:Int)] (fsM s.P s.T (qH Z)) (.tuple [pA (slX A B C f g h),.int .i64 0]) (fsM s.P s.T (qH Z)):=by
 have F:aX prog 274=some f274:=by kernel_rfl
 have S:=Fc hi hA hB hC hf hg hh ok [];have D:=gL hi;obtain⟨r1,r2,L⟩:=ok.r;have R:(qH Z).length=Z.length:=by simp[qH]
 obtain⟨X,u⟩:=xE (slX A B C f g h);rw[<-u] at S r1 r2 L |-;obtain⟨O,V⟩:=xE (α:=Mem) [.cells true 0 [.slice 0 0 s.P.length none,.slice 1 0 s.T.length none],.cells true 0 [.str [],.str []],.cells true 1 [.slice 2 0 (qH Z).length none]];have U:=tI s Z hZ (by omega) hl (fsM s.P s.T (qH Z)++O) 2 5 false false false true rfl rfl rfl (by rw[V];simp[fsM,R]);have K:∀N,kO prog 47 [pA X] N (.int .i64 0) N:=fun N=>by
  have:=iz (ao X.1) (ao X.2) r2 L N
  rwa [r1] at this
 have G:qS prog (y9.or (fR 201 [.agg [.slice 0 0 s.P.length none,.slice 1 0 s.T.length none],.slice 5 0 1 none] (.int .i64 0) (fun N=>N=fsM s.P s.T (qH Z)++O)) (y9.or (fR 294 [.agg [.slice 0 0 s.P.length none,.slice 1 0 s.T.length none],.slice 2 0 (qH Z).length none,.int .i64 (i:Int)] (pA X) (fun N=>∃Y,N=fsM s.P s.T (qH Z)++Y)) (fR 47 [pA X] (.int .i64 0) (fun _=>True)))):=
  qS.or (gC fun N o=>by subst o;exact U) (qS.or (gC fun N ⟨Y,hY⟩=>by subst hY;exact rz rfl S (o1:=false) (o2:=false) (o3:=false) rfl rfl rfl) (gC fun N _=>K N))
 have m:aa (bd prog) (fun _=>[]) (aX prog) (y9.or (fR 201 [.agg [.slice 0 0 s.P.length none,.slice 1 0 s.T.length none],.slice 5 0 1 none] (.int .i64 0) (fun N=>N=fsM s.P s.T (qH Z)++O)) (y9.or (fR 294 [.agg [.slice 0 0 s.P.length none,.slice 1 0 s.T.length none],.slice 2 0 (qH Z).length none,.int .i64 (i:Int)] (pA X) (fun N=>∃Y,N=fsM s.P s.T (qH Z)++Y)) (fR 47 [pA X] (.int .i64 0) (fun _=>True)))) 1 274 [.agg [.slice 0 0 s.P.length none,.slice 1 0 s.T.length none],.slice 2 0 (qH Z).length none,.int .i64 (i:Int)] (fsM s.P s.T (qH Z))=some ⟨.tuple [pA X,.int .i64 0],none,[]⟩:=by
  clear G U S K;subst V;obtain⟨n,j⟩:=xE ((qH Z).length);rw[<-j];have H:∀Y:Mem,∃W,afl.cells false 2 (pC s.P)::.cells false 3 (tC s.T)::.cells false 1 (qC (qH Z))::Y=[.cells false 2 (pC s.P),.cells false 3 (tC s.T),.cells false 1 (qC (qH Z))]++W :=fun Y=>⟨Y,rfl⟩
  have J:¬((i:Int)<0):=by omega
  have I:¬s.T.length<=i:=by omega
  simp[aa,F,f274,y9.or,fR,fsM,J,I,pA]
 have:=(ar aj (aJ _) G (aM _) m).1;simpa [afh.mem] using this
theorem Fb(H:ek (slX A B C f g h).1/\ek (slX A B C f g h).2)(ok:ahG A B C f g h)(I:M[pb]? =some (.cells o1 2 (pC s.P)))(m2:M[tb]? =some (.cells o2 3 (tC s.T)))(J:M[fb]? =some (.cells o3 1 (qC (qH Z)))):
  kO prog 236 [.agg [.slice pb 0 s.P.length none,.slice tb 0 s.T.length none],.slice fb 0 (qH Z).length none,.int .i64 (i:Int)] M (.tuple [vA (VP A B C f g h),.int .i64 0]) M:=by
 have G:aX prog 236=some f236:=by kernel_rfl
 have U:=Ht hn2 hZ hl hi hA hB hC hf hg hh ok;unfold VP;obtain⟨X,F⟩:=xE (slX A B C f g h);obtain⟨-,r2,L⟩:=ok.r;rw[<-F] at U H r2 L |-;obtain⟨⟨W,x2⟩,x3,x4⟩:=H;have D:(ao X.1).length<=1000000000:=QQJ r2 (by decide);have u:(ao X.2).length<=1000000000:=QQJ L (by decide);refine rz rfl ?_ I m2 J;have K:qS prog (y9.or (fR 274 [.agg [.slice 0 0 s.P.length none,.slice 1 0 s.T.length none],.slice 2 0 (qH Z).length none,.int .i64 (i:Int)] (.tuple [pA X,.int .i64 0]) (fun N=>∃Y,N=fsM s.P s.T (qH Z)++Y)) (ag aT)):=
  qS.or (gC fun N ⟨Y,hY⟩=>by subst hY;exact rz rfl U (o1:=false) (o2:=false) (o3:=false) rfl rfl rfl) cQ
 have S:ao 1=[49]:=by decide
 obtain⟨V,R⟩:∃V,aI f236=[V]:=⟨_,rfl⟩
 have o:=kM R (l:=[0,1,3,0,8,31,63,127,255]) (by kernel_rfl);have O:KU [0,1,3,0,8,31,63,127,255] 9 7=true:=by decide
 simp[aI,ca,f236] at R;subst R;have m:aa (bd prog) (fun _=>[]) (aX prog) (y9.or (fR 274 [.agg [.slice 0 0 s.P.length none,.slice 1 0 s.T.length none],.slice 2 0 (qH Z).length none,.int .i64 (i:Int)] (.tuple [pA X,.int .i64 0]) (fun N=>∃Y,N=fsM s.P s.T (qH Z)++Y)) (ag aT)) 1 236 [.agg [.slice 0 0 s.P.length none,.slice 1 0 s.T.length none],.slice 2 0 (qH Z).length none,.int .i64 (i:Int)] (fsM s.P s.T (qH Z))=some ⟨.tuple [vA (-X.1,-X.2,1),.int .i64 0],none,[]⟩:=by clear K U;obtain⟨n,j⟩:=xE ((qH Z).length);rw[<-j];simp[aa,G,f236,y9.or,fR,fsM,ag,aT,aV,bE,bz,aB,S,D,u,pA,vA,cv,aH,-aG,kh o,lx,rI,yQ,cS,O,Nat.testBit]
 have:=(ar aj (aJ _) K (aM _) m).1;simpa [afh.mem] using this
end
end
end Go.Proofs
