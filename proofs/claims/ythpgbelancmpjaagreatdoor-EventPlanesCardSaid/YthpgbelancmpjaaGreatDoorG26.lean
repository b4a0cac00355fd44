/- See G38. -/
import Derived.Test.YthpgbelancmpjaaGreatDoorG25
set_option linter.all false
set_option maxRecDepth 100000
set_option maxHeartbeats 40000000
namespace Go.Proofs
open Go.Eng
end Go.Proofs
namespace Go.Proofs
open Go.Eng
open Tryz
theorem Nn(d:Nat)(a b:List UInt8):lg (aX prog) (d+2) 108 (.agg [.str a,.str b]) (.agg [.str a,.str b])=some true:=by have i:=ly d;rw[lg];simp[R3,jU,TyI.isAgg,i]
open Classical in
noncomputable def jF(f:FuncId)(args:List AV)(v:AV)(p:Mem->Prop):y9:=fun c a M=>if c=.fn f/\a=args/\p M then some ⟨v,none,[]⟩ else none
theorem kx{P:Program}{f:FuncId}{args:List AV}{v:AV}{p:Mem->Prop}(h:∀M,p M->kO P f args M v M):qS P (jF f args v p):=by
 have k:∀c a M r,jF f args v p c a M=some r->(c=.fn f/\a=args/\p M)/\r=⟨v,none,[]⟩:=fun c a M r Z=>by
  unfold jF at Z;split at Z
  .cases Z;exact⟨‹_›,rfl⟩
  .cases Z
 refine⟨fun g a M r Z=>?_,fun b a M r Z=>?_,fun c a M r q Z V=>?_⟩
 .obtain⟨⟨X,rfl,U⟩,rfl⟩:=k _ _ _ _ Z
  cases X;simpa [afl.mem] using h M U
 .obtain⟨⟨X,_⟩,_⟩:=k _ _ _ _ Z
  cases X
 .obtain⟨_,rfl⟩:=k _ _ _ _ Z
  cases V
end Go.Proofs
namespace Go.Proofs
open Go.Eng
end Go.Proofs
namespace Go.Proofs
open Go.Eng
open Tryz
theorem Y4{Z:List Int}{i:Nat}{z:Int}(h:Z[i]? =some z):(qC (qH Z))[i]? =some (.str (aq (hQ z))):=OD (by simp[qH,h])
def qT(c:Code):List Nat:=if (aa c).contains 18 then [18] else [30]
variable{K b0 m0:Nat}{O:y9}{mem:Mem}{o:Bool}
theorem jY(Z:List Int)(I:∀z∈Z,z.natAbs<1000)(hl:Z.length<=1000)(hK:Z.length<K)(J:mem[b0]? =some (.cells o 1 (qC (qH Z))))(Y:∀z:Int,z.natAbs<1000->O (.fn 86) [.str (aq (hQ z))] mem=some ⟨.int .i64 0,none,[]⟩){b1 b:Code}(H:ag f201=[b1,b]):
  ∃F:Env->Bool->Env,∀X d,(ad X 28=.slice b0 0 Z.length none/\ad X 29=.int .i64 Z.length/\ad X 30=.int .i64 0)->
   aL (aX prog) qT O K 41 m0 true (.loop b) ⟨X,mem,d⟩=some (.exit 2,⟨F X d,mem,d⟩)/\(ad (F X d) 16=ad X 16/\ad (F X d) 17=ad X 17/\ad (F X d) 18=ad X 18/\ad (F X d) 2=ad X 2):=by
 refine bj (L:=[30]) (by simp[ag,aE,f201] at H;rw[<-H.2];rfl) (fun X=>ad X 28=.slice b0 0 Z.length none/\ad X 29=.int .i64 Z.length/\ad X 30=.int .i64 0) (fun X V =>ad V 16=ad X 16/\ad V 17=ad X 17/\ad V 18=ad X 18/\ad V 2=ad X 2) ?_;rintro X d ⟨h28,h29,h30⟩;simp[ag,aE,f201] at H;have S:an [30] (aa b) X ((30,.int .i64 ((0:Nat):Int))::X)=an [30] (aa b) X X:=by simp[an,h30]
 rw[<-S];refine bI (α:=Nat) (fun n=>⟨an [30] (aa b) X ((30,.int .i64 (n:Int))::X),mem,d⟩) (fun n=>Z.length-n) (fun n=>n<=Z.length) (.exit 2) _ d _ (by simp) ?_ K 0 (by omega) (by omega);rintro n N;clear S;obtain⟨_,rfl⟩:=H;by_cases U:n<Z.length
 .obtain⟨z,R⟩:∃z,Z[n]? =some z:=⟨Z[n],G2 U⟩
  have M:=Y4 R;have G:=Y z (I z (J1 R));have w1:IntKind.i64.wrap ((n:Int)+1)=((n+1:Nat):Int):=by rw[af];omega
  left;obtain⟨v,C⟩:=xE (n+1);rw[<-C] at w1;refine⟨v,?_⟩;simp[h28,h29,U,J,M,G,w1];omega
 .right
  simp[h29,U]
def wz(f:FuncId)(args:List AV):Option AV:=match f,args with
 |86,[.str s]=>if s.length<=9 then some (.int .i64 (zj s)) else none
 |_,_=>none
theorem QZ:qS prog (ah wz):=bM fun f Z v h mem=>by
 unfold wz at h;split at h
 .split at h
  .cases h;exact qB _ (by omega) mem
  .cases h
 .cases h
noncomputable def ku(s:afv)(m:Mem):y9:=y9.or (ah wz) (jF 46 [shA s] (.int .i64 0) (fun M=>∃ext,M=m++ext))
section
variable (s:afv)
include s
theorem Bs(m:Mem)(p q:Nat)(o o' :Bool)(H:m[p]? =some (.cells o 2 (pC s.P)))(hq:m[q]? =some (.cells o' 3 (tC s.T)))(h0:p=0)(h1:q=1):qS prog (ku s m):=by subst h0;subst h1;have X:=gL H;have V:=gL hq;refine qS.or' QZ (kx fun M Z=>?_);obtain⟨ext,rfl⟩:=Z;exact oG s _ 0 1 o o' (gU H _) (gU hq _)
theorem rn(m M:Mem)(z:Int)(h:z.natAbs<1000):ku s m (.fn 86) [.str (aq (hQ z))] M=some ⟨.int .i64 0,none,[]⟩:=by have Z:=Co h;have X:=gB ((VN h).mono (by omega) (by omega));simp[ku,y9.or,ah,wz,Z,X]
theorem vW(m ext:Mem):ku s m (.fn 46) [shA s] (m++ext)=some ⟨.int .i64 0,none,[]⟩:=by simp[ku,y9.or,ah,wz,jF]
section
variable (Z:List Int)(hZ:∀z∈Z,z.natAbs<1000)(hl:Z.length<=1000)(hn:Z.length=s.P.length)
include Z hZ hl hn
theorem tI(m:Mem)(b c:Nat)(o1 o2 o3 o4:Bool)(hp:m[0]? =some (.cells o1 2 (pC s.P)))(hq:m[1]? =some (.cells o2 3 (tC s.T)))(H:m[b]? =some (.cells o3 1 (qC (qH Z))))(hc:m[c]? =some (.cells o4 1 [.slice b 0 Z.length none])):
  kO prog 201 [shA s,.slice c 0 1 none] m (.int .i64 0) m:=by
 have hG:aZ prog 201=some f201:=by kernel_rfl
 have lb:=gL H;have lc:=gL hc;have J:=Bs s m 0 1 o1 o2 hp hq rfl rfl;obtain⟨I,b2,C⟩:∃I b2,ag f201=[I,b2]:=⟨_,_,rfl⟩
 obtain⟨F,M⟩:=jY (O:=ku s m) (K:=Z.length+3) Z hZ hl (by omega) (mem:=m++[.cells true 0 [.slice 0 0 s.P.length none,.slice 1 0 s.T.length none]]) (b0:=b) (o:=o3) (gU H _) (m0:=m.length) (fun z h=>rn s m _ z h) C;have B:=fun S d X V U=>(M S d ⟨X,V,U⟩).1
 have u:=fun S d X V U=>(M S d ⟨X,V,U⟩).2.1
 have j:=fun S d X V U=>(M S d ⟨X,V,U⟩).2.2.1
 have L:=fun S d X V U=>(M S d ⟨X,V,U⟩).2.2.2.1
 have g2:=fun S d X V U=>(M S d ⟨X,V,U⟩).2.2.2.2
 clear M;simp[ag,aE,f201] at C;obtain⟨_,rfl⟩:=C;have w0:IntKind.i64.wrap 1=1:=rfl;have R:=vW s m [.cells true 0 [.slice 0 0 s.P.length none,.slice 1 0 s.T.length none]];obtain⟨O,Y⟩:=xE (ku s m);rw[<-Y] at J B R;have G :(m++[.cells true 0 [.slice 0 0 s.P.length none,.slice 1 0 s.T.length none]])[c]? =some (.cells o4 1 [.slice b 0 Z.length none]):=gU hc _;refine dv (lv:=qT) (K:=(Z.length+3)) J ?_;obtain⟨N,hN⟩:=xE s.P.length;simp only[shA,hn,<-hN] at R B u j L g2 G |-;simp[ae,hG,f201,R,B,L,aM,fj,qT,G,w0]
theorem Dw(Y:List Int)(hY:∀z∈Y,z.natAbs<1000)(J:Y.length=s.P.length)(m:Mem)(b I c:Nat)(o1 o2 o3 H o4:Bool)(hp:m[0]? =some (.cells o1 2 (pC s.P)))(hq:m[1]? =some (.cells o2 3 (tC s.T)))(hb:m[b]? =some (.cells o3 1 (qC (qH Z))))(Zu :m[I]? =some (.cells H 1 (qC (qH Y))))(hc:m[c]? =some (.cells o4 1 [.slice b 0 Z.length none,.slice I 0 Y.length none])):
  kO prog 201 [shA s,.slice c 0 2 none] m (.int .i64 0) m:=by
 have hG:aZ prog 201=some f201:=by kernel_rfl
 have lb:=gL hb;have lb' :=gL Zu;have lc:=gL hc;have hO:=Bs s m 0 1 o1 o2 hp hq rfl rfl;obtain⟨b1,b2,j⟩:∃b1 b2,ag f201=[b1,b2]:=⟨_,_,rfl⟩
 obtain⟨F,L⟩:=jY (O:=ku s m) (K:=s.P.length+4) Z hZ hl (by omega) (mem:=m++[.cells true 0 [.slice 0 0 s.P.length none,.slice 1 0 s.T.length none]]) (b0:=b) (o:=o3) (gU hb _) (m0:=m.length) (fun z h=>rn s m _ z h) j;have ZE:=fun S d X V U=>(L S d ⟨X,V,U⟩).1
 have g16:=fun S d X V U=>(L S d ⟨X,V,U⟩).2.1
 have g17:=fun S d X V U=>(L S d ⟨X,V,U⟩).2.2.1
 have C:=fun S d X V U=>(L S d ⟨X,V,U⟩).2.2.2.1
 have g2:=fun S d X V U=>(L S d ⟨X,V,U⟩).2.2.2.2
 obtain⟨F2,G⟩:=jY (O:=ku s m) (K:=s.P.length+4) Y hY (by omega) (by omega) (mem:=m++[.cells true 0 [.slice 0 0 s.P.length none,.slice 1 0 s.T.length none]]) (b0:=I) (o:=H) (gU Zu _) (m0:=m.length) (fun z h=>rn s m _ z h) j;have R :=fun S d X V U=>(G S d ⟨X,V,U⟩).1
 have ae0 :=fun S d X V U=>(G S d ⟨X,V,U⟩).2.1
 have ae1 :=fun S d X V U=>(G S d ⟨X,V,U⟩).2.2.1
 have B :=fun S d X V U=>(G S d ⟨X,V,U⟩).2.2.2.1
 have g2' :=fun S d X V U=>(G S d ⟨X,V,U⟩).2.2.2.2
 clear L G;simp[ag,aE,f201] at j;obtain⟨_,rfl⟩:=j;have w0:IntKind.i64.wrap 1=1:=rfl;have M:=vW s m [.cells true 0 [.slice 0 0 s.P.length none,.slice 1 0 s.T.length none]];obtain⟨O,hOO⟩:=xE (ku s m);rw[<-hOO] at hO ZE R M;have u :(m++[.cells true 0 [.slice 0 0 s.P.length none,.slice 1 0 s.T.length none]])[c]? =some (.cells o4 1 [.slice b 0 Z.length none,.slice I 0 Y.length none]):=gU hc _;refine dv (lv:=qT) (K:=(s.P.length+4)) hO ?_;obtain⟨N,hN⟩:=xE s.P.length;simp only[shA,hn,J,<-hN] at M ZE g16 g17 C g2 R ae0 ae1 B g2' u |-;simp[ae,hG,f201,M,ZE,C,R,B,w2,aM,fj,qT,u,w0]
theorem qG(m:Mem)(b:Nat)(o1 o2 o3:Bool)(H:m[0]? =some (.cells o1 2 (pC s.P)))(hq:m[1]? =some (.cells o2 3 (tC s.T)))(I:m[b]? =some (.cells o3 1 (qC (qH Z)))):
  kO prog 118 [shA s,.slice b 0 Z.length none] m (.int .i64 0) m:=by
 have U:aZ prog 118=some f118:=by kernel_rfl
 have N:=gL H;have M:=gL hq;have L:=gL I;obtain⟨E,X⟩:=xE (α:=Mem) [.cells true 0 [.slice 0 0 s.P.length none,.slice 1 0 s.T.length none],.cells true 1 [.slice b 0 Z.length none]];have S:=tI s Z hZ hl hn (m++E) b (m.length+1) o1 o2 o3 true (gU H _) (gU hq _) (gU I _) (by rw[X];simp);have R:qS prog (wN [(201,[shA s,.slice (m.length+1) 0 1 none],m++E,⟨.int .i64 0,none,[]⟩)]):=AO fun e V=>by simp only[lM] at V;subst V;exact⟨by simpa [afl.mem] using S,by simp⟩
 refine nG R ?_;rw[X];simp[ae,U,f118,wN,shA]
end
end
theorem WW{a b:Int}(h:a<=b):¬0<AL (hQ a) (hQ b):=by have:=Oe.2 (YU h);omega
theorem Bi(Z Y:List Int)(H:∀(i:Nat) z y,Z[i]? =some z->Y[i]? =some y->z<=y/\z.natAbs<1000/\y.natAbs<1000)(hn:Z.length=Y.length)(hl:Z.length<=1000)(hK:Z.length<K){b1:Nat}{o' :Bool}(hm:mem[b0]? =some (.cells o 1 (qC (qH Z))))(I :mem[b1]? =some (.cells o' 1 (qC (qH Y))))(hO:∀z y:Int,z.natAbs<1000->y.natAbs<1000->O (.fn 136) [.str (aq (hQ z)),.str (aq (hQ y))] mem=some ⟨.int .i64 (AL (hQ z) (hQ y)),none,[]⟩){b:Code}(J:ag f235=[b]):
  ∃F:Env->Bool->Env,∀X d,(ad X 19=.slice b0 0 Z.length none/\ad X 20=.int .i64 Z.length/\ad X 21=.int .i64 0/\ad X 2=.slice b1 0 Z.length none)->
   aL (aX prog) (fun _=>[21]) O K 34 m0 true (.loop b) ⟨X,mem,d⟩=some (.exit 0,⟨F X d,mem,d⟩)/\True:=by
 refine bj (L:=[21]) rfl (fun X=>ad X 19=.slice b0 0 Z.length none/\ad X 20=.int .i64 Z.length/\ad X 21=.int .i64 0/\ad X 2=.slice b1 0 Z.length none) (fun _ _=>True) ?_;rintro X d ⟨h28,h29,h30,h2⟩;simp[ag,aE,f235] at J;have U:an [21] (aa b) X ((21,.int .i64 ((0:Nat):Int))::X)=an [21] (aa b) X X:=by simp[an,h30]
 rw[<-U];refine bI (α:=Nat) (fun n=>⟨an [21] (aa b) X ((21,.int .i64 (n:Int))::X),mem,d⟩) (fun n=>Z.length-n) (fun n=>n<=Z.length) (.exit 0) _ d _ (by simp) ?_ K 0 (by omega) (by omega);rintro n N;clear U;subst J;by_cases V:n<Z.length
 .obtain⟨z,S⟩:∃z,Z[n]? =some z:=⟨Z[n],G2 V⟩
  obtain⟨y,R⟩:∃y,Y[n]? =some y:=⟨Y[n]'(by omega),G2 (by omega)⟩
  have M:=Y4 S;have G:=Y4 R;obtain⟨C,B,u⟩:=H n z y S R;have m:=hO z y B u;have j:=WW C;have w1:IntKind.i64.wrap ((n:Int)+1)=((n+1:Nat):Int):=by rw[af];omega
  left;obtain⟨v,hv⟩:=xE (n+1);rw[<-hv] at w1;refine⟨v,?_⟩;simp[h28,h29,h2,V,hm,I,M,G,m,w1,j];omega
 .right
  simp[h29,V]
open Classical in
noncomputable def vV(f:FuncId)(args:List AV):Option AV:=match f,args with
 |136,[.str s,.str t]=>match eh s,eh t with
  |some a,some b=>if big 3 a/\big 3 b then some (.int .i64 (AL a b)) else none
  |_,_=>none
 |_,_=>none
theorem O5{k:Nat}{q:Rat}(h0:0<k)(H:k<=40000)(h:big k q):fI q:=by have Z:=aN h0 h.1;have X:=aN h0 h.2;exact⟨by omega,by omega⟩
theorem QK:qS prog (ah vV):=bM fun f Z v h mem=>by
 unfold vV at h;split at h
 .split at h
  .rename_i a b V U
   split at h
   .rename_i X
    cases h;rw[aw V,aw U];exact tH a b (O5 (by decide) (by decide) X.1) (O5 (by decide) (by decide) X.2) mem
   .cases h
  .cases h
 .cases h
theorem qE(s:afv)(Z Y:List Int)(hZ:∀z∈Z,z.natAbs<1000)(hY:∀z∈Y,z.natAbs<1000)(hl:Z.length<=1000)(hn:Z.length=s.P.length)(H:Y.length=s.P.length)(J:∀(i:Nat) z y,Z[i]? =some z->Y[i]? =some y->z<=y)(m:Mem)(b I :Nat)(o1 o2 o3 o4:Bool)(hp:m[0]? =some (.cells o1 2 (pC s.P)))(hq:m[1]? =some (.cells o2 3 (tC s.T)))(hb:m[b]? =some (.cells o3 1 (qC (qH Z))))(Zu :m[I]? =some (.cells o4 1 (qC (qH Y)))):
  kO prog 235 [shA s,.slice b 0 Z.length none,.slice I 0 Y.length none] m (.tuple [.bool true,.int .i64 0]) m:=by
 have hG:aZ prog 235=some f235:=by kernel_rfl
 have l0:=gL hp;have l1:=gL hq;have lb:=gL hb;have lb' :=gL Zu;obtain⟨E,L⟩:=xE (α:=Mem) [.cells true 0 [.slice 0 0 s.P.length none,.slice 1 0 s.T.length none],.cells true 1 [.slice b 0 Z.length none,.slice I 0 Y.length none]];have G:=Dw s Z hZ hl hn Y hY H (m++E) b I (m.length+1) o1 o2 o3 o4 true (gU hp _) (gU hq _) (gU hb _) (gU Zu _) (by rw[L];simp);obtain⟨O,X⟩:=xE (y9.or (ah vV) (wN [(201,[shA s,.slice (m.length+1) 0 2 none],m++E,⟨.int .i64 0,none,[]⟩)]));have hO:qS prog O:=by rw[X];refine qS.or' QK (AO fun e C=>?_);simp only[lM] at C;subst C;exact⟨by simpa [afl.mem] using G,by simp⟩
 have V:O (.fn 201) [shA s,.slice (m.length+1) 0 2 none] (m++E)=some ⟨.int .i64 0,none,[]⟩:=by rw[X];simp[y9.or,ah,vV,wN]
 have U:∀z y:Int,z.natAbs<1000->y.natAbs<1000->O (.fn 136) [.str (aq (hQ z)),.str (aq (hQ y))] (m++E)=some ⟨.int .i64 (AL (hQ z) (hQ y)),none,[]⟩:=fun z y S R=>by have B:=VN S;have u:=VN R;have j:big 3 (hQ z):=⟨B.1,by have:=B.2;omega⟩;have b2:big 3 (hQ y):=⟨u.1,by have:=u.2;omega⟩;rw[X];simp[y9.or,ah,vV,aF,j,b2]
 clear X;obtain⟨bb,M⟩:∃b,ag f235=[b]:=⟨_,rfl⟩
 obtain⟨F,hF⟩:=Bi (O:=O) (K:=s.P.length+1) Z Y (fun i z y S R=>⟨J i z y S R,hZ z (J1 S),hY y (J1 R)⟩) (by omega) hl (by omega) (mem:=m++E) (b0:=b) (b1:=I) (o:=o3) (o' :=o4) (gU hb _) (gU Zu _) (m0:=m.length) U M;have ZE:=fun AC d h1 h2 h3 h4=>(hF AC d ⟨h1,h2,h3,h4⟩).1
 clear hF U;simp[ag,aE,f235] at M;subst M;refine dv (lv:=(fun _=>[21])) (K:=(s.P.length+1)) hO ?_;clear G;obtain⟨N,hN⟩:=xE s.P.length;subst L;simp only[shA,hn,H,<-hN] at V ZE |-;simp[ae,hG,f235,V,ZE]
theorem HN(a b c:P2)(h:WU a b c)(M:Mem):kO prog 179 [pA a,pA b,pA c] M (.str (aq (bD a b c))) M:=by
 have hG:aZ prog 179=some f179:=by kernel_rfl
 obtain⟨u,m⟩:=a;obtain⟨b1,b2⟩:=b;obtain⟨c1,c2⟩:=c;obtain⟨⟨⟨j,Y⟩,⟨J,I⟩,r1,r2⟩,⟨N,L,G,F⟩,t1,t2⟩:=h;unfold bD;simp only at j Y J I r1 r2 N L G F t1 t2 |-;obtain⟨x1,V⟩:=xE (b1-u);obtain⟨x2,U⟩:=xE (c2-m);obtain⟨x3,S⟩:=xE (b2-m);obtain⟨x4,R⟩:=xE (c1-u);simp only[<-V,<-U,<-S,<-R] at N L G F t1 t2 |-;obtain⟨y1,Z⟩:=xE (x1*x2);obtain⟨y2,X⟩:=xE (x3*x4);rw[<-Z] at t1;rw[<-X] at t2;rw[<-Z,<-X];unfold fI at*;refine aA cU ?_ M;obtain⟨H,o2,C⟩:∃H o2,aJ f179=[H,o2]:=⟨_,_,rfl⟩
 obtain⟨B,ZV⟩:=Cl C (l:=[0,1,0,4,15,0,32,0,128,511,1023,2047]) (l' :=[0,0,2,0,8,30,0,64,0,256,1022,2046,4095,8191]) (by kernel_rfl);have k1:fu [0,1,0,4,15,0,32,0,128,511,1023,2047] 11=true:=by decide
 have k2:fu [0,0,2,0,8,30,0,64,0,256,1022,2046,4095,8191] 13=true:=by decide
 simp[aJ,cB,f179] at C;obtain⟨rfl,rfl⟩:=C;simp[ae,hG,f179,-aR,aC B,aC ZV,bV,bK,bQ,k1,k2,pA,aF,ah,bn,bH,j,Y,J,I,r1,r2,N,L,G,F,t1,t2,<-V,<-U,<-S,<-R,<-Z,<-X,Nat.testBit]
theorem HO(a b c:P2)(h:WU a b c)(M:Mem):kO prog 99 [pA a,pA b,pA c] M (.int .i64 (ga (bD a b c))) M:=by
 have X:aZ prog 99=some f99:=by kernel_rfl
 have Z:qS prog (y9.or (jF 179 [pA a,pA b,pA c] (.str (aq (bD a b c))) (fun _=>True)) (ah bn)):=qS.or (kx fun N _=>HN a b c h N) cU;obtain⟨y,V⟩:=xE (bD a b c);rw[<-V] at Z |-;refine aA Z ?_ M;simp[ae,X,f99,y9.or,jF,pA,aF,ah,bn,bH,bO,bG]
open Classical in
noncomputable def wC(f:FuncId)(args:List AV):Option AV:=
 match f,args with
 |99,[.agg [.str a,.str b],.agg [.str c,.str d],.agg [.str e,.str g]]=>match eh a,eh b,eh c,eh d,eh e,eh g with
  |some x,some y,some z,some w,some u,some v=>if WU (x,y) (z,w) (u,v) then some (.int .i64 (ga (bD (x,y) (z,w) (u,v)))) else none
  |_,_,_,_,_,_=>none
 |_,_=>none
theorem Q3:qS prog (ah wC):=bM fun f Z v h mem=>by
 unfold wC at h;split at h
 .split at h
  .rename_i x y z w u v X V h3 U S R
   split at h
   .rename_i N
    cases h;rw[aw X,aw V,aw h3,aw U,aw S,aw R];exact HO (x,y) (z,w) (u,v) N mem
   .cases h
  .cases h
 .cases h
def Fi(A B C:P2):AV:=.agg [.str (aq A.1),.str (aq A.2),.str (aq B.1),.str (aq B.2),.str (aq C.1),.str (aq C.2)]
theorem Fv(A B C q:P2)(h:Ur A B C q)(M:Mem):kO prog 48 [Fi A B C,pA q] M (.bool (decide (inQ (gZ A B C q)))) M:=by
 have U:aZ prog 48=some f48:=by kernel_rfl
 obtain⟨R,G,h3⟩:=h;obtain⟨a,b⟩:=A;obtain⟨c,d⟩:=B;obtain⟨e,f⟩:=C;obtain⟨u,v⟩:=q;have N:decide (inQ (gZ (a,b) (c,d) (e,f) (u,v)))=decide (0<=ga (bD (c,d) (e,f) (u,v))/\0<=ga (bD (e,f) (a,b) (u,v))/\0<=ga (bD (a,b) (c,d) (u,v))):=decide_eq_decide.2 Iff.rfl;rw[N];clear N;obtain⟨F,X⟩:=xE (ga (bD (c,d) (e,f) (u,v)));obtain⟨m,V⟩:=xE (ga (bD (e,f) (a,b) (u,v)));obtain⟨j,Z⟩:=xE (ga (bD (a,b) (c,d) (u,v)));rw[<-X,<-V,<-Z];refine aA Q3 ?_ M;by_cases S:0<=j
 .by_cases L:0<=F
  .by_cases Y:0<=m<;>simp[ae,U,f48,ah,wC,Fi,pA,aF,R,G,h3,<-X,<-V,<-Z,L,Y,S]
  .simp[ae,U,f48,ah,wC,Fi,pA,aF,R,h3,<-X,<-Z,L,S]
 .simp[ae,U,f48,ah,wC,Fi,pA,aF,h3,<-Z,S]
section
variable {P:List P2}{T:List Tr}{t:Tr}{A B C:P2}{i:Nat}
theorem Bc(Y:T[i]? =some t)(H:P[t.1]? =some A)(I:P[t.2.1]? =some B)(J:P[t.2.2]? =some C){M:Mem}{pb tb:Nat}{o1 o2:Bool}(m1:M[pb]? =some (.cells o1 2 (pC P)))(m2:M[tb]? =some (.cells o2 3 (tC T))):
  kO prog 49 [.agg [.slice pb 0 P.length none,.slice tb 0 T.length none],.int .i64 (i:Int)] M (Fi A B C) M:=by
 have R:aZ prog 49=some f49:=by kernel_rfl
 obtain⟨S,N⟩:=Mx Y;have V:=gL Y;obtain⟨i1,i2,i3⟩:=t;simp only at H I J S;obtain⟨L,-,-,G⟩:=vu H;obtain⟨F,-,-,u⟩:=vu I;obtain⟨r1,-,-,r4⟩:=vu J;have a1:=gL H;have a2:=gL I;have a3:=gL J;obtain⟨Z,U⟩:∃Z,aJ f49=[Z]:=⟨_,rfl⟩
 obtain⟨X',Z2⟩:=eU U (l:=[0,1,0,4,15,31,0,64,0,256,960,1984,0,4096,0,16384,61440,126976,262143,524287]) (j:=19) (by kernel_rfl) (by decide);simp[aJ,cB,f49] at U;subst U;have h:ae (aX prog) (fun _=>[]) (aZ prog) cO 1 49 [.agg [.slice 0 0 P.length none,.slice 1 0 T.length none],.int .i64 (i:Int)] [.cells false 2 (pC P),.cells false 3 (tC T)]=some ⟨Fi A B C,none,[]⟩:=by simp[ae,R,f49,V,S,N,a1,a2,a3,L,F,r1,G,u,r4,Fi,-aR,aC X',bV,bK,bQ,Z2,cj]
 have h2:=(aB aj (aI _) (az _) (aQ _) h).1;have l1:=gL m1;have l2:=gL m2;have:=kO.frame (M:=M) (new:=[]) (args:=[.agg [.slice 0 0 P.length none,.slice 1 0 T.length none],.int .i64 (i:Int)]) [pb,tb] (m:=[.cells false 2 (pC P),.cells false 3 (tC T)]) rfl (by simp[l1,l2]) (by rfl) (fun j s X=>by
  match j with
  |0=>simp at X;subst X;exact cH (ea P) m1 P1
  |1=>simp at X;subst X;exact cH (fY T) m2 P1
  |j+2=>simp at X) rfl (by simpa [afl.mem] using h2)
 simpa [AV.afI,AV.ren,fA,Fi] using this
end
end Go.Proofs
namespace Go.Proofs
open Go.Eng
open Tryz
theorem HD(p q r s:Rat)(H:fI p)(hq:fI q)(hr:fI r)(hs:fI s)(h1:fI (p*s))(h2:fI (q*r))(M:Mem):kO prog 307 [.str (aq p),.str (aq q),.str (aq r),.str (aq s)] M (.str (aq (p*s-q*r))) M:=by
 have S:aZ prog 307=some f307:=by kernel_rfl
 obtain⟨R,O⟩:=H;obtain⟨N,L⟩:=hq;obtain⟨K,G⟩:=hr;obtain⟨d1,d2⟩:=hs;obtain⟨Z,X⟩:=h1;obtain⟨f1,f2⟩:=h2;obtain⟨x,V⟩:=xE (p*s);obtain⟨y,U⟩:=xE (q*r);rw[<-V] at Z X |-;rw[<-U] at f1 f2 |-;refine aA cU ?_ M;simp[ae,S,f307,aF,ah,bn,bH,R,O,N,L,K,G,d1,d2,Z,X,f1,f2,<-V,<-U]
open Classical in
noncomputable def wA(f:FuncId)(args:List AV):Option AV:=
 match f,args with
 |307,[.str a,.str b,.str c,.str d]=>match eh a,eh b,eh c,eh d with
  |some p,some q,some r,some s=>if (fI p/\fI q/\fI r/\fI s)/\fI (p*s)/\fI (q*r) then some (.str (aq (p*s-q*r))) else none
  |_,_,_,_=>none
 |f,args=>bn f args
theorem Q0:qS prog (ah wA):=bM fun f X v h mem=>by
 unfold wA at h;split at h
 .split at h
  .rename_i p q r s V U h3 S
   split at h
   .rename_i Z
    cases h;rw[aw V,aw U,aw h3,aw S];exact HD p q r s Z.1.1 Z.1.2.1 Z.1.2.2.1 Z.1.2.2.2 Z.2.1 Z.2.2 mem
   .cases h
  .cases h
 .have:=cU.fn _ _ mem ⟨v,none,[]⟩ (by unfold ah;simp only;rw[h])
  simpa [afl.mem] using this
section
variable {P:List P2}{T:List Tr}{L:List Rat}{t:Tr}{A B C:P2}{f g h:Rat}{i:Nat}
def fsM(P:List P2)(T:List Tr)(L:List Rat):Mem:=[.cells false 2 (pC P),.cells false 3 (tC T),.cells false 1 (qC L)]
theorem Dx(H:T[i]? =some t)(I:P[t.1]? =some A)(J:P[t.2.1]? =some B)(Y:P[t.2.2]? =some C)(hf:L[t.1]? =some f)(hg:L[t.2.1]? =some g)(hh:L[t.2.2]? =some h):
  kO prog 306 [.agg [.slice 0 0 P.length none,.slice 1 0 T.length none],.slice 2 0 L.length none,.int .i64 i] (fsM P T L) (.agg [.str (aq A.1),.str (aq A.2),.str (aq f),.str (aq B.1),.str (aq B.2),.str (aq g),.str (aq C.1),.str (aq C.2),.str (aq h)]) (fsM P T L):=by
 have U:aZ prog 306=some f306:=by kernel_rfl
 obtain⟨S,R⟩:=Mx H;have X:=gL H;obtain⟨O,-,-,N⟩:=vu I;obtain⟨M,-,-,K⟩:=vu J;obtain⟨r1,-,-,G⟩:=vu Y;have F:=gL I;have u:=gL J;have o:=gL Y;have f1:=OD hf;have f2:=OD hg;have f3:=OD hh;have m:=gL hf;have b2:=gL hg;have b3:=gL hh;obtain⟨t1,t2,t3⟩:=t;simp only at*;obtain⟨Z,V⟩:∃Z,aJ f306=[Z]:=⟨_,rfl⟩
 obtain⟨X',Z2⟩:=eU V (l:=[0,0,2,0,14,30,0,0,192,448,1022,2047,4095]) (j:=12) (by kernel_rfl) (by decide);simp[aJ,cB,f306] at V;subst V;unfold fsM;have hr:ae (aX prog) (fun _=>[14]) (aZ prog) cO 5 306 [.agg [.slice 0 0 P.length none,.slice 1 0 T.length none],.slice 2 0 L.length none,.int .i64 i] [.cells false 2 (pC P),.cells false 3 (tC T),.cells false 1 (qC L)]=some ⟨.agg [.str (aq A.1),.str (aq A.2),.str (aq f),.str (aq B.1),.str (aq B.2),.str (aq g),.str (aq C.1),.str (aq C.2),.str (aq h)],none,[]⟩:=by simp[ae,U,f306,aM,fj,X,S,R,F,u,o,O,M,r1,N,K,G,f1,f2,f3,m,b2,b3,w1,w2,w3,-aR,aC X',bV,bK,bQ,Z2,cj,aH]
 have:=(aB aj (aI _) (az _) (aQ _) hr).1;simpa [afl.mem] using this
end
structure ahK (A B C:P2)(f g h:Rat):Prop where
 a:fI A.1/\fI A.2
 b:fI B.1/\fI B.2
 c:fI C.1/\fI C.2
 z:fI f/\fI g/\fI h
 d:(fI (B.1-A.1)/\fI (B.2-A.2))/\fI (C.1-A.1)/\fI (C.2-A.2)
 e:fI (g-f)/\fI (h-f)
 m1:fI ((B.1-A.1)*(C.2-A.2))/\fI ((B.2-A.2)*(C.1-A.1))
 m2:fI ((g-f)*(C.2-A.2))/\fI ((B.2-A.2)*(h-f))
 m3:fI ((B.1-A.1)*(h-f))/\fI ((g-f)*(C.1-A.1))
 s:fI (bD A B C)/\bD A B C≠0
 n:fI ((g-f)*(C.2-A.2)-(B.2-A.2)*(h-f))/\fI ((B.1-A.1)*(h-f)-(g-f)*(C.1-A.1))
 k:fI (1 / bD A B C)
 r:vo [aq (slX A B C f g h).1,aq (slX A B C f g h).2]=0/\(aq (slX A B C f g h).1).length<=RD/\(aq (slX A B C f g h).2).length<=RD
section
variable {P:List P2}{T:List Tr}{L:List Rat}{t:Tr}{A B C:P2}{f g h:Rat}{i:Nat}
theorem KP:(aJ f294).map (fun o=>dT o.toList)=[[0,1,3,7,0,16,48,112,255,0,512,1536,3584,0,8192,24576,57344,131071,262143,524287],[0,1,3,7,0,16,48,112,255,0,512,1536,3584,0,8192,24576,57344,131071,262143,524287],[0,1,3,0,8,24,63,0,128,384,0,1024,3072,8191,16383,32767]]:=by kernel_rfl
theorem ahV:fu [0,1,3,7,0,16,48,112,255,0,512,1536,3584,0,8192,24576,57344,131071,262143,524287] 19=true:=by decide
theorem Fp(hi:T[i]? =some t)(hA:P[t.1]? =some A)(hB:P[t.2.1]? =some B)(hC:P[t.2.2]? =some C)(hf:L[t.1]? =some f)(hg:L[t.2.1]? =some g)(hh:L[t.2.2]? =some h)(ok:ahK A B C f g h)(Z:Mem):
  kO prog 294 [.agg [.slice 0 0 P.length none,.slice 1 0 T.length none],.slice 2 0 L.length none,.int .i64 i] (fsM P T L) (pA (slX A B C f g h)) (fsM P T L):=by
 have hG:aZ prog 294=some f294:=by kernel_rfl
 have hc:=Dx hi hA hB hC hf hg hh;have G:qS prog (y9.or (jF 306 [.agg [.slice 0 0 P.length none,.slice 1 0 T.length none],.slice 2 0 L.length none,.int .i64 i] (.agg [.str (aq A.1),.str (aq A.2),.str (aq f),.str (aq B.1),.str (aq B.2),.str (aq g),.str (aq C.1),.str (aq C.2),.str (aq h)]) (fun N=>∃Z,N=fsM P T L++Z)) (ah wA)):=
  qS.or (kx fun N ⟨Z,hZ⟩=>by
   subst hZ;have:=kO.frame (M:=fsM P T L++Z) (new:=[]) (args:=[.agg [.slice 0 0 P.length none,.slice 1 0 T.length none],.slice 2 0 L.length none,.int .i64 i]) [0,1,2] (m:=fsM P T L) rfl (by simp[fsM]) (by rfl) (fun j s X=>by
    match j with
    |0=>simp[fsM] at X;subst X;exact cH (ea P) rfl P1
    |1=>simp[fsM] at X;subst X;exact cH (fY T) rfl P1
    |2=>simp[fsM] at X;subst X;exact cH (oo L) rfl P1
    |j+3=>simp[fsM] at X) rfl (by rw[List.append_nil];exact hc)
   simpa [AV.afI,AV.ren,fA] using this) Q0
 obtain⟨⟨a1,a2⟩,⟨b1,b2⟩,⟨c1,c2⟩,⟨z1,z2,z3⟩,⟨⟨d1,d2⟩,d3,d4⟩,⟨F,o⟩,⟨Y,J⟩,⟨I,H⟩,⟨m5,m6⟩,⟨R,s2⟩,⟨O,K⟩,k,-⟩:=ok;unfold slX;unfold bD at*;obtain⟨ax,ay⟩:=A;obtain⟨bx,V⟩:=B;obtain⟨cx,cy⟩:=C;simp only at*;obtain⟨x,hx⟩:=xE (bx-ax);obtain⟨y,hy⟩:=xE (V-ay);obtain⟨u,hu⟩:=xE (cx-ax);obtain⟨v,hv⟩:=xE (cy-ay);obtain⟨a,ha⟩:=xE (g-f);obtain⟨b,hb⟩:=xE (h-f);simp only[<-hx,<-hy,<-hu,<-hv,<-ha,<-hb] at d1 d2 d3 d4 F o Y J I H m5 m6 R s2 O K k |-;obtain⟨S,hS⟩:=xE (x*v-y*u);obtain⟨q,hq⟩:=xE (a*v-y*b);obtain⟨r,hr⟩:=xE (x*b-a*u);simp only[<-hS,<-hq,<-hr] at R s2 O K k |-;obtain⟨w,hw⟩:=xE (1 / S);rw[<-hw] at k |-;have ae2:eh [49]=some 1:=rfl;have o1:(ai 1).length<=9:=by decide
 have o2:(ai 1).length<=40000:=by decide
 unfold fI at a1 a2 b1 b2 c1 c2 z1 z2 z3 d1 d2 d3 d4 F o Y J I H m5 m6 R O K k;obtain⟨U,F'⟩:∃U,aJ f294=U :=⟨_,rfl⟩
 have ZH :=cG F' KP;simp only[aJ,cB,f294,lA] at F';subst F';simp only[lB] at ZH;obtain⟨UV,hb1,ZV⟩:=ZH;have j2:fu [0,1,3,0,8,24,63,0,128,384,0,1024,3072,8191,16383,32767] 15=true:=by decide
 unfold fsM at G |-;have Zr:ae (aX prog) (fun _=>[]) (aZ prog) (y9.or (jF 306 [.agg [.slice 0 0 P.length none,.slice 1 0 T.length none],.slice 2 0 L.length none,.int .i64 i] (.agg [.str (aq ax),.str (aq ay),.str (aq f),.str (aq bx),.str (aq V),.str (aq g),.str (aq cx),.str (aq cy),.str (aq h)]) (fun N=>∃Z,N=[.cells false 2 (pC P),.cells false 3 (tC T),.cells false 1 (qC L)]++Z)) (ah wA)) 1 294 [.agg [.slice 0 0 P.length none,.slice 1 0 T.length none],.slice 2 0 L.length none,.int .i64 i] [.cells false 2 (pC P),.cells false 3 (tC T),.cells false 1 (qC L)]=some ⟨pA (w*q,w*r),none,[]⟩:=by clear G hc;simp[ae,hG,f294,y9.or,jF,ah,wA,bn,bH,aF,ae2,o2,a1,a2,b1,b2,c1,c2,z1,z2,z3,d1,d2,d3,d4,F,o,Y,J,I,H,m5,m6,R,s2,O,K,k,<-hx,<-hy,<-hu,<-hv,<-ha,<-hb,<-hS,<-hq,<-hr,<-hw,fI,pA,cj,aH,-aR,aC UV,aC hb1,aC ZV,bV,bK,bQ,ahV,j2,Nat.testBit]
 have:=(aB aj (aI _) G (aQ _) Zr).1;simpa [afl.mem] using this
end
variable{M:Mem}{fb pb tb:Nat}{o1 o2 o3:Bool}
section
variable {s:afv}{Z:List Int}{t:Tr}{A B C:P2}{f g h:Rat}{i:Nat}
theorem rC{fn:FuncId}{v:AV}{P:List P2}{T:List Tr}{L:List Rat}{n:Nat}(J:v.closed=true)(hc:kO prog fn [.agg [.slice 0 0 P.length none,.slice 1 0 T.length none],.slice 2 0 L.length none,.int .i64 (n:Int)] (fsM P T L) v (fsM P T L))(H:M[pb]? =some (.cells o1 2 (pC P)))(m2:M[tb]? =some (.cells o2 3 (tC T)))(I:M[fb]? =some (.cells o3 1 (qC L))):
  kO prog fn [.agg [.slice pb 0 P.length none,.slice tb 0 T.length none],.slice fb 0 L.length none,.int .i64 (n:Int)] M v M:=by
 have V:=gL H;have U:=gL m2;have S:=gL I;have:=kO.frame (M:=M) (new:=[]) (args:=[.agg [.slice 0 0 P.length none,.slice 1 0 T.length none],.slice 2 0 L.length none,.int .i64 (n:Int)]) [pb,tb,fb] (m:=fsM P T L) rfl (by simp[V,U,S]) (by rfl) (fun j s X=>by
  match j with
  |0=>simp[fsM] at X;subst X;exact cH (ea P) H P1
  |1=>simp[fsM] at X;subst X;exact cH (fY T) m2 P1
  |2=>simp[fsM] at X;subst X;exact cH (oo L) I P1
  |j+3=>simp[fsM] at X) rfl (by rw[List.append_nil];exact hc)
 simpa [AV.afI,AV.ren,fA,jR _ _ J] using this
section
variable (hn2:s.P.length<=1000)(hZ:∀z∈Z,z.natAbs<1000)(hl:Z.length=s.P.length)(hi:s.T[i]? =some t)(hA:s.P[t.1]? =some A)(hB:s.P[t.2.1]? =some B)(hC:s.P[t.2.2]? =some C)(hf:(qH Z)[t.1]? =some f)(hg:(qH Z)[t.2.1]? =some g)(hh:(qH Z)[t.2.2]? =some h)
include hn2 hZ hl hi hA hB hC hf hg hh
theorem HE(ok:ahK A B C f g h):
  kO prog 274 [.agg [.slice 0 0 s.P.length none,.slice 1 0 s.T.length none],.slice 2 0 (qH Z).length none,.int .i64 (i:Int)] (fsM s.P s.T (qH Z)) (.tuple [pA (slX A B C f g h),.int .i64 0]) (fsM s.P s.T (qH Z)):=by
 have F:aZ prog 274=some f274:=by kernel_rfl
 have S:=Fp hi hA hB hC hf hg hh ok [];have u:=gL hi;obtain⟨r1,r2,L⟩:=ok.r;have R:(qH Z).length=Z.length:=by simp[qH]
 obtain⟨X,o⟩:=xE (slX A B C f g h);rw[<-o] at S r1 r2 L |-;obtain⟨O,V⟩:=xE (α:=Mem) [.cells true 0 [.slice 0 0 s.P.length none,.slice 1 0 s.T.length none],.cells true 0 [.str [],.str []],.cells true 1 [.slice 2 0 (qH Z).length none]];have U:=tI s Z hZ (by omega) hl (fsM s.P s.T (qH Z)++O) 2 5 false false false true rfl rfl rfl (by rw[V];simp[fsM,R]);have K:∀N,kO prog 47 [pA X] N (.int .i64 0) N:=fun N=>by
  have:=iv (aq X.1) (aq X.2) r2 L N
  rwa [r1] at this
 have G:qS prog (y9.or (jF 201 [.agg [.slice 0 0 s.P.length none,.slice 1 0 s.T.length none],.slice 5 0 1 none] (.int .i64 0) (fun N=>N=fsM s.P s.T (qH Z)++O)) (y9.or (jF 294 [.agg [.slice 0 0 s.P.length none,.slice 1 0 s.T.length none],.slice 2 0 (qH Z).length none,.int .i64 (i:Int)] (pA X) (fun N=>∃Y,N=fsM s.P s.T (qH Z)++Y)) (jF 47 [pA X] (.int .i64 0) (fun _=>True)))):=
  qS.or (kx fun N m=>by subst m;exact U) (qS.or (kx fun N ⟨Y,hY⟩=>by subst hY;exact rC rfl S (o1:=false) (o2:=false) (o3:=false) rfl rfl rfl) (kx fun N _=>K N))
 have j:ae (aX prog) (fun _=>[]) (aZ prog) (y9.or (jF 201 [.agg [.slice 0 0 s.P.length none,.slice 1 0 s.T.length none],.slice 5 0 1 none] (.int .i64 0) (fun N=>N=fsM s.P s.T (qH Z)++O)) (y9.or (jF 294 [.agg [.slice 0 0 s.P.length none,.slice 1 0 s.T.length none],.slice 2 0 (qH Z).length none,.int .i64 (i:Int)] (pA X) (fun N=>∃Y,N=fsM s.P s.T (qH Z)++Y)) (jF 47 [pA X] (.int .i64 0) (fun _=>True)))) 1 274 [.agg [.slice 0 0 s.P.length none,.slice 1 0 s.T.length none],.slice 2 0 (qH Z).length none,.int .i64 (i:Int)] (fsM s.P s.T (qH Z))=some ⟨.tuple [pA X,.int .i64 0],none,[]⟩:=by
  clear G U S K;subst V;obtain⟨n,J⟩:=xE ((qH Z).length);rw[<-J];have e1:∀Y:Mem,∃I,afq.cells false 2 (pC s.P)::.cells false 3 (tC s.T)::.cells false 1 (qC (qH Z))::Y=[.cells false 2 (pC s.P),.cells false 3 (tC s.T),.cells false 1 (qC (qH Z))]++I :=fun Y=>⟨Y,rfl⟩
  have H:¬((i:Int)<0):=by omega
  have i1:¬s.T.length<=i:=by omega
  simp[ae,F,f274,y9.or,jF,fsM,H,i1,pA]
 have:=(aB aj (aI _) G (aQ _) j).1;simpa [afl.mem] using this
theorem Fo(H:fI (slX A B C f g h).1/\fI (slX A B C f g h).2)(ok:ahK A B C f g h)(I:M[pb]? =some (.cells o1 2 (pC s.P)))(m2:M[tb]? =some (.cells o2 3 (tC s.T)))(J:M[fb]? =some (.cells o3 1 (qC (qH Z)))):
  kO prog 236 [.agg [.slice pb 0 s.P.length none,.slice tb 0 s.T.length none],.slice fb 0 (qH Z).length none,.int .i64 (i:Int)] M (.tuple [vA (UH A B C f g h),.int .i64 0]) M:=by
 have G:aZ prog 236=some f236:=by kernel_rfl
 have U:=HE hn2 hZ hl hi hA hB hC hf hg hh ok;unfold UH;obtain⟨X,F⟩:=xE (slX A B C f g h);obtain⟨-,r2,L⟩:=ok.r;rw[<-F] at U H r2 L |-;obtain⟨⟨x1,x2⟩,x3,x4⟩:=H;have u:(aq X.1).length<=1000000000:=QQd r2 (by decide);have o:(aq X.2).length<=1000000000:=QQd L (by decide);refine rC rfl ?_ I m2 J;have K:qS prog (y9.or (jF 274 [.agg [.slice 0 0 s.P.length none,.slice 1 0 s.T.length none],.slice 2 0 (qH Z).length none,.int .i64 (i:Int)] (.tuple [pA X,.int .i64 0]) (fun N=>∃Y,N=fsM s.P s.T (qH Z)++Y)) (ah bn)):=
  qS.or (kx fun N ⟨Y,hY⟩=>by subst hY;exact rC rfl U (o1:=false) (o2:=false) (o3:=false) rfl rfl rfl) cU
 have S:aq 1=[49]:=by decide
 obtain⟨V,R⟩:∃V,aJ f236=[V]:=⟨_,rfl⟩
 have m:=nS R (l:=[0,1,3,0,8,31,63,127,255]) (by kernel_rfl);have O:Rg [0,1,3,0,8,31,63,127,255] 9 7=true:=by decide
 simp[aJ,cB,f236] at R;subst R;have j:ae (aX prog) (fun _=>[]) (aZ prog) (y9.or (jF 274 [.agg [.slice 0 0 s.P.length none,.slice 1 0 s.T.length none],.slice 2 0 (qH Z).length none,.int .i64 (i:Int)] (.tuple [pA X,.int .i64 0]) (fun N=>∃Y,N=fsM s.P s.T (qH Z)++Y)) (ah bn)) 1 236 [.agg [.slice 0 0 s.P.length none,.slice 1 0 s.T.length none],.slice 2 0 (qH Z).length none,.int .i64 (i:Int)] (fsM s.P s.T (qH Z))=some ⟨.tuple [vA (-X.1,-X.2,1),.int .i64 0],none,[]⟩:=by clear K U;obtain⟨n,hn⟩:=xE ((qH Z).length);rw[<-hn];simp[ae,G,f236,y9.or,jF,fsM,ah,bn,bH,bO,bG,aF,S,u,o,pA,vA,cj,aH,-aR,pV m,pT,wJ,EB,dR,O,Nat.testBit]
 have:=(aB aj (aI _) K (aQ _) j).1;simpa [afl.mem] using this
end
end
end Go.Proofs
