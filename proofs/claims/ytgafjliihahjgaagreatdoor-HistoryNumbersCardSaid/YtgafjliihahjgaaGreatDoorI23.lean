/- See I36. -/
import Derived.Test.YtgafjliihahjgaaGreatDoorI22
set_option linter.all false
set_option maxRecDepth 100000
set_option maxHeartbeats 40000000
namespace Go.Proofs
open Go.Eng
open Tryz
def Ba(s:List UInt8):Nat->List (List UInt8)->Int
 |_,[]=> -1
 |i,x::l=>if s=x then (i:Int) else Ba s (i+1) l
theorem Qg{s:List UInt8}:∀{i:Nat} {l:List (List UInt8)},Ba s i l<0↔s∉l
 |i,[]=>by simp[Ba]
 |i,x::l=>by
  unfold Ba;by_cases h:s=x
  .rw[if_pos h];simp[h]
  .rw[if_neg h,Qg];simp[h]
theorem UW{s:List UInt8}:∀{i:Nat} {l:List (List UInt8)},-1<=Ba s i l
 |i,[]=>by unfold Ba;omega
 |i,x::l=>by
  unfold Ba;split
  .omega
  .exact UW
theorem Cr{O:af3}{K:Nat}(L:List (List UInt8))(s:List UInt8)(H:L.length<=1000000000)(I:L.length<K){b:Code}(y:ag f37=[b]):
  ∃F:Env->Bool->Env,∀Z d,(ad Z 0=.slice 0 0 L.length none/\ad Z 1=.str s/\ad Z 7=.int .i64 L.length/\ad Z 8=.int .i64 0)->
   aT (aU prog) (fun _=>[8]) O K 19 1 true (.loop b) ⟨Z,[.cells false 1 (stC L)],d⟩=some (if Ba s 0 L<0 then .exit 0 else .ret,⟨F Z d,[.cells false 1 (stC L)],d⟩)/\
    (¬Ba s 0 L<0->ad (F Z d) 4=.int .i64 (Ba s 0 L)):=by
 refine bG rfl (fun Z=>ad Z 0=.slice 0 0 L.length none/\ad Z 1=.str s/\ad Z 7=.int .i64 L.length/\ad Z 8=.int .i64 0) (fun _ C =>¬Ba s 0 L<0->ad C 4=.int .i64 (Ba s 0 L)) ?_;rintro Z d ⟨h0,X,h7,h8⟩;simp[ag,aH,f37] at y;have J:au [8] (ab b) Z ((8,.int .i64 ((0:Nat):Int))::Z)=au [8] (ab b) Z Z:=by simp[au,h8]
 rw[<-J];have G:(stC L).length=L.length:=ga L;refine bW (α:=Nat) (fun n=>⟨au [8] (ab b) Z ((8,.int .i64 (n:Int))::Z),[.cells false 1 (stC L)],d⟩) (fun n=>L.length-n) (fun n=>n<=L.length/\Ba s 0 L=Ba s n (L.drop n)) _ _ d _ (by split<;>simp) ?_ K 0 ⟨by omega,by rw[List.drop_zero]⟩ (by omega);rintro n ⟨hn1,he⟩;clear J;subst y;by_cases W:n<L.length
 .obtain⟨x,S⟩:∃x,L[n]? =some x:=⟨L[n],GT W⟩
  have D:∀h,(stC L)[n]'h=.str x:=fun h=>by have:=uQ S;rw[GT h] at this;exact QQb this
  have B:L.drop n=x::L.drop (n+1):=by rw[N4] at S;obtain⟨X,A⟩:=S;rw[<-A];exact N2 X
  rw[B,Ba] at he;have w1:IntKind.i64.wrap ((n:Int)+1)=((n+1:Nat):Int):=by rw[ai];omega
  by_cases V:s=x
  .right
   rw[if_pos V] at he;subst V;have M:¬(n:Int)<0:=by omega
   rw[he,if_neg M];simp[h0,X,h7,W,G,D]
  .left
   rw[if_neg V] at he;have y:(s==x)=false:=by simpa using V
   refine⟨n+1,?_⟩;refine bM (show(n+1<=L.length/\Ba s 0 L=Ba s (n+1) (L.drop (n+1)))/\L.length-(n+1)<L.length-n from⟨⟨by omega,he⟩,by omega⟩) ?_;simp[h0,X,h7,W,G,D,y,w1]
 .right
  have e:L.drop n=[]:=Mp (by omega);rw[e,Ba] at he;rw[he,if_pos (by decide)];simp[h7,W]
theorem IL(L:List (List UInt8))(s:List UInt8)(y:L.length<=1000000000):
  kO prog 37 [.slice 0 0 L.length none,.str s] [.cells false 1 (stC L)] (.int .i64 (Ba s 0 L)) [.cells false 1 (stC L)]:=by
 have M:aS prog 37=some f37:=by kernel_rfl
 obtain⟨b,W⟩:∃b,ag f37=[b]:=⟨_,rfl⟩
 obtain⟨F,Z⟩:=Cr (O:=bD) (K:=L.length+1) L s y (by omega) W;simp[ag,aH,f37] at W;subst W;refine dx (lv:=(fun _=>[8])) (K:=(L.length+1)) (aj _) ?_;by_cases hc:Ba s 0 L<0
 .rw[if_pos hc] at Z
  have V:=fun X d h=>(Z X d h).1
  clear Z;have J:Ba s 0 L= -1:=by have:=UW (s:=s) (i:=0) (l:=L);omega
  rw[J];simp[aa,M,f37,V]
 .rw[if_neg hc] at Z
  have V:=fun X d h=>(Z X d h).1
  have S:=fun X d h=>(Z X d h).2 hc
  clear Z;simp[aa,M,f37,V,S]
theorem Et(s:List UInt8)(M:Mem):kO prog 37 [.y9,.str s] M (.int .i64 (-1)) M:=by
 have Z:aS prog 37=some f37:=by kernel_rfl
 refine dv (aj _) (lv:=fun _=>[8]) (K:=1) rfl rfl ?_ M;simp[aa,Z,f37,aR,fW]
variable{L:List (List UInt8)}{M:Mem}{x:AV}
theorem zr(s:List UInt8)(y:L.length<=1000000000)(hx:sts M x=some L):kO prog 37 [x,.str s] M (.int .i64 (Ba s 0 L)) M:=by
 rcases yc hx with h | ⟨rfl,rfl⟩
 .exact kO.ahP (rest:=[.str s]) (mo L) rfl rfl (IL L s y) h
 .exact Et s M
noncomputable def Hm:af3:=fun c Z M=>match c,Z with
 |.fn 37,[x,.str s]=>match sts M x with
  |some L=>if L.length<=1000000000 then some ⟨.int .i64 (Ba s 0 L),none,[]⟩ else none
  |none=>none
 |c,Z=>bD c Z M
theorem RC:adM prog Hm:=by
 refine cP fun c Z M r h=>?_
 unfold Hm at h;split at h
 .split at h
  .rename_i L X
   split at h
   .rename_i hc
    cases h;refine aC ?_;rw[List.append_nil];exact zr _ hc X
   .cases h
  .cases h
 .exact fK (aj _) h
theorem qY(s:List UInt8)(y:L.length<=1000000000)(hx:sts M x=some L):kO prog 18 [x,.str s] M (.bool (decide (s∈L))) M:=by
 have Z:aS prog 18=some f18:=by kernel_rfl
 have X:decide (0<=Ba s 0 L)=decide (s∈L):=by
  rw[decide_eq_decide];have:=Qg (s:=s) (i:=0) (l:=L);by_cases h:s∈L
  .simp only[h,iff_true]
   exact Int.not_lt.1 fun e=>this.1 e h
  .simp only[h,iff_false]
   have:=this.2 h;omega
 refine fM RC ?_;rw[<-X];simp[aa,Z,f18,Hm,hx,y]
end Go.Proofs
namespace Go.Proofs
open Go.Eng
open Tryz
open Classical in
noncomputable def km(L:List (FuncId×List AV×AV))(p:Mem->Prop):af3:=fun c a M=>if p M then af (dR L) c a M else none
theorem nM{P:Program}{L:List (FuncId×List AV×AV)}{p:Mem->Prop}(h:∀x∈L,∀M,p M->kO P x.1 x.2.1 M x.2.2 M):adM P (km L p):=by
 have k:∀f a v,dR L f a=some v->∃x∈L,f=x.1/\a=x.2.1/\v=x.2.2:=by
  clear h;intro f a v X;induction L with
  |nil=>simp[dR] at X
  |cons x L ih=>
   rw[dR] at X;split at X
   .rename_i hc
    cases X;exact⟨x,by simp,hc.1,hc.2,rfl⟩
   .obtain⟨y,J,W⟩:=ih X
    exact⟨y,by simp[J],W⟩
 have V:∀c a M r,km L p c a M=some r->p M/\∃f,c=.fn f/\∃x∈L,f=x.1/\a=x.2.1/\r=⟨x.2.2,none,[]⟩:=by
  intro c a M r Z;unfold km at Z;split at Z
  .rename_i S
   refine⟨S,?_⟩;unfold af at Z;split at Z
   .rename_i f
    split at Z
    .rename_i v X
     cases Z;obtain⟨x,O,W,G,h3⟩:=k _ _ _ X;exact⟨f,rfl,x,O,W,G,by rw[h3]⟩
    .cases Z
   .cases Z
  .cases Z
 refine⟨fun f a M r Z=>?_,fun b a M r Z=>?_,fun c a M r q Z hq=>?_⟩
 .obtain⟨S,g,K,x,O,W,rfl,rfl⟩:=V _ _ _ _ Z
  cases K;subst W;simpa [afA.mem] using h x O M S
 .obtain⟨_,g,K,_⟩:=V _ _ _ _ Z
  cases K
 .obtain⟨_,g,_,x,_,_,_,rfl⟩:=V _ _ _ _ Z
  cases hq
def me(c:Code):List Nat:=if (ab c).contains 35 then [35] else [10,65]
theorem gu(M:Mem)(u k:Nat)(o:Bool)(U:List (List UInt8))(s:List UInt8)(hu:M[u]? =some (.cells o 1 (stC U)))(hk:k<=U.length)(y:U.length<=3)(hs:s∉U.take k):
  kO prog 18 [.slice u 0 k none,.str s] M (.bool false) M:=by
 have h:sts M (.slice u 0 k none)=some (U.take k):=by
  have Z:(stC U).take (k*1)=stC (U.take k):=by simp[stC,List.map_take]
  unfold sts;rw[Mh hu (by rw[ga];omega) Z];exact D3 _
 have:=qY (M:=M) s (by rw[P3];omega) h
 rwa [decide_eq_false hs] at this
theorem ah5:aS prog 186=some f186:=by kernel_rfl
theorem Iu(s:af8)(nm:List UInt8)(u0:List UInt8)(Q:u0∈bF)(Z:List Int)(R:∀z∈Z,z.natAbs<1000)(Y:Z.length<=1000)(hn:Z.length=s.P.length)(m:Mem)(b u:Nat)(o1 o2 H o4:Bool)(I:m[0]? =some (.cells o1 2 (pC s.P)))(hq:m[1]? =some (.cells o2 3 (tC s.T)))(y:m[b]? =some (.cells H 1 (qC (qH Z))))(hu:m[u]? =some (.cells o4 1 (stC [u0]))):
  kO prog 186 [shA s,.agg (aZ nm (.slice b 0 Z.length none) (.slice u 0 1 none) (.y9))] m (.int .i64 0) m:=by
 have O:=gL I;have J:=gL hq;have G:=gL y;have F:=gL hu;have D:=fun ext:Mem=>(Hi (l₂:=ext) O).trans I
 have C:=fun ext:Mem=>(Hi (l₂:=ext) J).trans hq
 have B:=fun ext:Mem=>(Hi (l₂:=ext) G).trans y
 have V:=fun ext:Mem=>(Hi (l₂:=ext) F).trans hu
 have X:adM prog (af (dR [(109,[.str u0],.int .i64 0)])):=gQ fun e he M=>by simp only[lM] at he;rcases he with rfl;exact dZ _ Q M
 have W:adM prog (km [(250,[shA s,.slice b 0 Z.length none],.int .i64 0),(18,[.slice u 0 0 none,.str u0],.bool false)] (fun M=>∃ext,M=m++ext)):=nM fun e he M A=>by
  obtain⟨ext,rfl⟩:=A;simp only[lM] at he;rcases he with rfl | rfl
  .exact ra s Z R Y hn _ b o1 o2 H (D ext) (C ext) (B ext)
  .exact gu _ u 0 o4 [u0] u0 (V ext) (by simp) (by simp) (by simp)
 have S:=adM.or' X W;clear X W;refine dx (lv:=me) (K:=5) S ?_;clear S;obtain⟨N,j⟩:=xE Z.length;simp only[<-j] at y |-;simp[aa,ah5,f186,af3.or,af,dR,km,shA,aZ,aR,fW,me,stC,V,w0,w1]
theorem Iv(s:af8)(nm:List UInt8)(u0 H:List UInt8)(n0:u0∈bF)(n1:H∈bF)(R:H≠u0)(Z:List Int)(hZ:∀z∈Z,z.natAbs<1000)(hl:Z.length<=1000)(hn:Z.length=s.P.length)(I:List Int)(Y:∀z∈I,z.natAbs<1000)(hl1:I.length=s.P.length)(aax:∀(i:Nat) z y,Z[i]? =some z->I[i]? =some y->z<=y)(m:Mem)(b u c r1:Nat)(o1 o2 o3 o4 o5 q1:Bool)(hp:m[0]? =some (.cells o1 2 (pC s.P)))(hq:m[1]? =some (.cells o2 3 (tC s.T)))(hb:m[b]? =some (.cells o3 1 (qC (qH Z))))(hu:m[u]? =some (.cells o4 1 (stC [u0,H])))(hc:m[c]? =some (.cells o5 1 [.slice r1 0 Z.length none]))(Q:m[r1]? =some (.cells q1 1 (qC (qH I)))):
  kO prog 186 [shA s,.agg (aZ nm (.slice b 0 Z.length none) (.slice u 0 2 none) (.slice c 0 1 none))] m (.int .i64 0) m:=by
 have B:=gL hp;have A:=gL hq;have j:=gL hb;have lu:=gL hu;have lc:=gL hc;have V:=gL Q;have J:=fun ext:Mem=>(Hi (l₂:=ext) B).trans hp
 have G:=fun ext:Mem=>(Hi (l₂:=ext) A).trans hq
 have F:=fun ext:Mem=>(Hi (l₂:=ext) j).trans hb
 have S:=fun ext:Mem=>(Hi (l₂:=ext) lu).trans hu
 have D:=fun ext:Mem=>(Hi (l₂:=ext) lc).trans hc
 have O:=fun ext:Mem=>(Hi (l₂:=ext) V).trans Q
 have X:adM prog (af (dR [(109,[.str u0],.int .i64 0),(109,[.str H],.int .i64 0)])):=gQ fun e he M=>by
  simp only[lM] at he;rcases he with rfl | rfl
  .exact dZ _ n0 M
  .exact dZ _ n1 M
 have W:adM prog (km [(250,[shA s,.slice b 0 Z.length none],.int .i64 0),(18,[.slice u 0 0 none,.str u0],.bool false),(18,[.slice u 0 1 none,.str H],.bool false),(251,[shA s,.slice b 0 Z.length none,.slice r1 0 Z.length none],.tuple [.bool true,.int .i64 0])] (fun M=>∃ext,M=m++ext)):=nM fun e he M hM=>by
  obtain⟨ext,rfl⟩:=hM;simp only[lM] at he;rcases he with rfl | rfl | rfl | rfl
  .exact ra s Z hZ hl hn _ b o1 o2 o3 (J ext) (G ext) (F ext)
  .exact gu _ u 0 o4 [u0,H] u0 (S ext) (by simp) (by simp) (by simp)
  .exact gu _ u 1 o4 [u0,H] H (S ext) (by simp) (by simp) (by simp[R])
  .have:=q9 s Z I hZ Y (by omega) hn hl1 aax (m++ext) b r1 o1 o2 o3 q1 (J ext) (G ext) (F ext) (O ext)
   rw[show I.length=Z.length by omega] at this;exact this
 have C:=adM.or' X W;clear X W;refine dx (lv:=me) (K:=5) C ?_;clear C;obtain⟨N,hN⟩:=xE Z.length;simp only[<-hN] at D |-;simp[aa,ah5,f186,af3.or,af,dR,km,shA,aZ,aR,fW,me,stC,S,D,w1,w2]
theorem Iw(s:af8)(nm:List UInt8)(u0 H I:List UInt8)(n0:u0∈bF)(n1:H∈bF)(n2:I∈bF)(d01:H≠u0)(d02:I≠u0)(d12:I≠H)(Z:List Int)(hZ:∀z∈Z,z.natAbs<1000)(hl:Z.length<=1000)(hn:Z.length=s.P.length)(Q R:List Int)(Y:∀z∈Q,z.natAbs<1000)(hl1:Q.length=s.P.length)(aax:∀(i:Nat) z y,Z[i]? =some z->Q[i]? =some y->z<=y)(hY2:∀z∈R,z.natAbs<1000)(hl2:R.length=s.P.length)(aav:∀(i:Nat) z y,Q[i]? =some z->R[i]? =some y->z<=y)(m:Mem)(b u c r1 r2:Nat)(o1 o2 o3 o4 o5 q1 q2:Bool)(hp:m[0]? =some (.cells o1 2 (pC s.P)))(hq:m[1]? =some (.cells o2 3 (tC s.T)))(hb:m[b]? =some (.cells o3 1 (qC (qH Z))))(hu:m[u]? =some (.cells o4 1 (stC [u0,H,I])))(hc:m[c]? =some (.cells o5 1 [.slice r1 0 Z.length none,.slice r2 0 Z.length none]))(hr1:m[r1]? =some (.cells q1 1 (qC (qH Q))))(hr2:m[r2]? =some (.cells q2 1 (qC (qH R)))):
  kO prog 186 [shA s,.agg (aZ nm (.slice b 0 Z.length none) (.slice u 0 3 none) (.slice c 0 2 none))] m (.int .i64 0) m:=by
 have j:=gL hp;have lq:=gL hq;have lb:=gL hb;have lu:=gL hu;have lc:=gL hc;have O:=gL hr1;have J:=gL hr2;have G:=fun ext:Mem=>(Hi (l₂:=ext) j).trans hp
 have F:=fun ext:Mem=>(Hi (l₂:=ext) lq).trans hq
 have C:=fun ext:Mem=>(Hi (l₂:=ext) lb).trans hb
 have S:=fun ext:Mem=>(Hi (l₂:=ext) lu).trans hu
 have B:=fun ext:Mem=>(Hi (l₂:=ext) lc).trans hc
 have X:=fun ext:Mem=>(Hi (l₂:=ext) O).trans hr1
 have D:=fun ext:Mem=>(Hi (l₂:=ext) J).trans hr2
 have W:adM prog (af (dR [(109,[.str u0],.int .i64 0),(109,[.str H],.int .i64 0),(109,[.str I],.int .i64 0)])):=gQ fun e he M=>by
  simp only[lM] at he;rcases he with rfl | rfl | rfl
  .exact dZ _ n0 M
  .exact dZ _ n1 M
  .exact dZ _ n2 M
 have V:adM prog (km [(250,[shA s,.slice b 0 Z.length none],.int .i64 0),(18,[.slice u 0 0 none,.str u0],.bool false),(18,[.slice u 0 1 none,.str H],.bool false),(18,[.slice u 0 2 none,.str I],.bool false),(251,[shA s,.slice b 0 Z.length none,.slice r1 0 Z.length none],.tuple [.bool true,.int .i64 0]),(251,[shA s,.slice r1 0 Z.length none,.slice r2 0 Z.length none],.tuple [.bool true,.int .i64 0])] (fun M=>∃ext,M=m++ext)):=nM fun e he M hM=>by
  obtain⟨ext,rfl⟩:=hM;simp only[lM] at he;rcases he with rfl | rfl | rfl | rfl | rfl | rfl
  .exact ra s Z hZ hl hn _ b o1 o2 o3 (G ext) (F ext) (C ext)
  .exact gu _ u 0 o4 [u0,H,I] u0 (S ext) (by simp) (by simp) (by simp)
  .exact gu _ u 1 o4 [u0,H,I] H (S ext) (by simp) (by simp) (by simp[d01])
  .exact gu _ u 2 o4 [u0,H,I] I (S ext) (by simp) (by simp) (by simp[d02,d12])
  .have:=q9 s Z Q hZ Y (by omega) hn hl1 aax (m++ext) b r1 o1 o2 o3 q1 (G ext) (F ext) (C ext) (X ext)
   rw[show Q.length=Z.length by omega] at this;exact this
  .have:=q9 s Q R Y hY2 (by omega) hl1 hl2 aav (m++ext) r1 r2 o1 o2 q1 q2 (G ext) (F ext) (X ext) (D ext)
   rw[show R.length=Z.length by omega,show Q.length=Z.length by omega] at this;exact this
 have A:=adM.or' W V;clear W V;refine dx (lv:=me) (K:=5) A ?_;clear A;obtain⟨N,hN⟩:=xE Z.length;simp only[<-hN] at B |-;simp[aa,ah5,f186,af3.or,af,dR,km,shA,aZ,aR,fW,me,stC,S,B,w1,w2,w3]
theorem uQ{L:List (List UInt8)}{i:Nat}{s:List UInt8}(h:L[i]? =some s):(stC L)[i]? =some (.str s):=by simp[stC,h]
theorem z7(Q:List Rat):qC Q=stC (Q.map aB):=by simp[qC,stC]
variable{b:Code}
theorem GP{K:Nat}(L:List (List UInt8))(I:L.length<=1000)(Q:L.length<K)(H:ag f242=[b]):
  ∃F:Env->Bool->Env,∀Z d,(ad Z 0=.slice 0 0 L.length none/\ad Z 1=.slice 0 0 L.length none/\ad Z 12=.int .i64 L.length/\ad Z 13=.int .i64 0)->
   aT (aU prog) (fun _=>[13]) bD K 26 1 true (.loop b) ⟨Z,[.cells false 1 (stC L)],d⟩=some (.exit 0,⟨F Z d,[.cells false 1 (stC L)],d⟩)/\True:=by
 refine bG (L:=[13]) rfl (fun Z=>ad Z 0=.slice 0 0 L.length none/\ad Z 1=.slice 0 0 L.length none/\ad Z 12=.int .i64 L.length/\ad Z 13=.int .i64 0) (fun _ _=>True) ?_;rintro Z d ⟨h0,h1,h12,h13⟩;obtain⟨S,W⟩:∃S,aN f242=S:=⟨_,rfl⟩
 have O:=bP W (ls:=[[0,0,3,7,0,0,48,112,255]]) (by kernel_rfl);simp only[aN,cj,f242,List.nil_append,List.append_nil] at W;subst W;simp only[lB] at O;have M:be [0,0,3,7,0,0,48,112,255] 8=true:=by decide
 have e:=fun d x y=>mf d x y
 simp[ag,aH,f242] at H;have X:au [13] (ab b) Z ((13,.int .i64 ((0:Nat):Int))::Z)=au [13] (ab b) Z Z:=by simp[au,h13]
 rw[<-X];refine bW (α:=Nat) (fun n=>⟨au [13] (ab b) Z ((13,.int .i64 (n:Int))::Z),[.cells false 1 (stC L)],d⟩) (fun n=>L.length-n) (fun n=>n<=L.length) (.exit 0) _ d _ (by simp) ?_ K 0 (by omega) (by omega);rintro n J;clear X;subst H;by_cases V:n<L.length
 .obtain⟨z,G⟩:∃z,L[n]? =some z:=⟨L[n],GT V⟩
  have D:=uQ G;have w1:IntKind.i64.wrap ((n:Int)+1)=((n+1:Nat):Int):=by rw[ai];omega
  left;obtain⟨v,C⟩:=xE (n+1);rw[<-C] at w1;refine⟨v,?_⟩;simp[-aJ,ak O,bt,bj,bp,M,h0,h1,h12,V,D,w1];omega
 .right
  simp[h12,V]
theorem QY(L:List (List UInt8))(y:L.length<=1000):
  kO prog 242 [.slice 0 0 L.length none,.slice 0 0 L.length none] [.cells false 1 (stC L)] (.bool true) [.cells false 1 (stC L)]:=by
 have W:aS prog 242=some f242:=by kernel_rfl
 obtain⟨b,Z⟩:∃b,ag f242=[b]:=⟨_,rfl⟩
 obtain⟨F,X⟩:=GP (K:=L.length+1) L y (by omega) Z;have V:=fun S d O M h3 J=>(X S d ⟨O,M,h3,J⟩).1
 clear X;simp[ag,aH,f242] at Z;subst Z;refine dx (lv:=(fun _=>[13])) (K:=(L.length+1)) (aj _) ?_;simp[aa,W,f242,V]
theorem Tt(L:List (List UInt8))(H:L.length<=1000)(M:Mem)(b:Nat)(o:Bool)(y:M[b]? =some (.cells o 1 (stC L))):
  kO prog 242 [.slice b 0 L.length none,.slice b 0 L.length none] M (.bool true) M:=by
 have X:=gL y;have:=kO.frame (M:=M) (new:=[]) [b] rfl (by simpa using X) (by rfl) (fun i t Z=>by
  match i with
  |0=>simp at Z;subst Z;exact bY (mo _) y O1
  |i+1=>simp at Z) rfl (QY L H)
 simpa [AV.agd,AV.ren,eg] using this
theorem GQ{K:Nat}(L:List (List UInt8))(I:L.length<=1000)(Q:L.length<K)(H:ag f26=[b]):
  ∃F:Env->Bool->Env,∀Z d,(ad Z 0=.slice 0 0 L.length none/\ad Z 1=.slice 0 0 L.length none/\ad Z 12=.int .i64 L.length/\ad Z 13=.int .i64 0)->
   aT (aU prog) (fun _=>[13]) bD K 26 1 true (.loop b) ⟨Z,[.cells false 1 (stC L)],d⟩=some (.exit 0,⟨F Z d,[.cells false 1 (stC L)],d⟩)/\True:=by
 refine bG (L:=[13]) rfl (fun Z=>ad Z 0=.slice 0 0 L.length none/\ad Z 1=.slice 0 0 L.length none/\ad Z 12=.int .i64 L.length/\ad Z 13=.int .i64 0) (fun _ _=>True) ?_;rintro Z d ⟨h0,h1,h12,h13⟩;obtain⟨S,W⟩:∃S,aN f26=S:=⟨_,rfl⟩
 have O:=bP W (ls:=[[0,0,3,7,0,0,48,112,255]]) (by kernel_rfl);simp only[aN,cj,f26,List.nil_append,List.append_nil] at W;subst W;simp only[lB] at O;have M:be [0,0,3,7,0,0,48,112,255] 8=true:=by decide
 have e:=fun d x y=>Co d x y
 simp[ag,aH,f26] at H;have X:au [13] (ab b) Z ((13,.int .i64 ((0:Nat):Int))::Z)=au [13] (ab b) Z Z:=by simp[au,h13]
 rw[<-X];refine bW (α:=Nat) (fun n=>⟨au [13] (ab b) Z ((13,.int .i64 (n:Int))::Z),[.cells false 1 (stC L)],d⟩) (fun n=>L.length-n) (fun n=>n<=L.length) (.exit 0) _ d _ (by simp) ?_ K 0 (by omega) (by omega);rintro n J;clear X;subst H;by_cases V:n<L.length
 .obtain⟨z,G⟩:∃z,L[n]? =some z:=⟨L[n],GT V⟩
  have D:=uQ G;have w1:IntKind.i64.wrap ((n:Int)+1)=((n+1:Nat):Int):=by rw[ai];omega
  left;obtain⟨v,C⟩:=xE (n+1);rw[<-C] at w1;refine⟨v,?_⟩;simp[-aJ,ak O,bt,bj,bp,M,h0,h1,h12,V,D,w1];omega
 .right
  simp[h12,V]
theorem QZ(L:List (List UInt8))(y:L.length<=1000):
  kO prog 26 [.slice 0 0 L.length none,.slice 0 0 L.length none] [.cells false 1 (stC L)] (.bool true) [.cells false 1 (stC L)]:=by
 have W:aS prog 26=some f26:=by kernel_rfl
 obtain⟨b,Z⟩:∃b,ag f26=[b]:=⟨_,rfl⟩
 obtain⟨F,X⟩:=GQ (K:=L.length+1) L y (by omega) Z;have V:=fun S d O M h3 J=>(X S d ⟨O,M,h3,J⟩).1
 clear X;simp[ag,aH,f26] at Z;subst Z;refine dx (lv:=(fun _=>[13])) (K:=(L.length+1)) (aj _) ?_;simp[aa,W,f26,V]
theorem BT(L:List (List UInt8))(H:L.length<=1000)(M:Mem)(b:Nat)(o:Bool)(y:M[b]? =some (.cells o 1 (stC L))):
  kO prog 26 [.slice b 0 L.length none,.slice b 0 L.length none] M (.bool true) M:=by
 have X:=gL y;have:=kO.frame (M:=M) (new:=[]) [b] rfl (by simpa using X) (by rfl) (fun i t Z=>by
  match i with
  |0=>simp at Z;subst Z;exact bY (mo _) y O1
  |i+1=>simp at Z) rfl (QZ L H)
 simpa [AV.agd,AV.ren,eg] using this
def agi(N:Mem)(v:AV)(es n:Nat)(C:List AV):Prop:=(v=.y9/\n=0/\C=[])\/∃b o,v=.slice b 0 n none/\0<n/\N[b]? =some (.cells o es C)
variable{N:Mem}{v:AV}
theorem agi.more{es n:Nat}{C:List AV}(h:agi N v es n C)(Z:Mem):agi (N++Z) v es n C:=by
 rcases h with h | ⟨b,o,X,W,h3⟩
 .exact .inl h
 .exact .inr ⟨b,o,X,W,gU h3 _⟩
theorem Zo(f:Nat->Bool):∀l:List (List UInt8×List UInt8),AV.af7 f (kC l)=true
 | []=>rfl
 |k::l=>by simp[kC,AV.af7,AV.afF,Zo f l]
def ahm(N:Mem)(v:AV)(S:List (List (List UInt8))):Prop:=∃Z,Z.length=S.length/\agi N v 1 S.length Z/\∀(i:Nat) x L,Z[i]? =some x->S[i]? =some L->agi N x 1 L.length (stC L)
theorem ahm.more{S:List (List (List UInt8))}(h:ahm N v S)(Z:Mem):ahm (N++Z) v S:=by obtain⟨X,W,V,h3⟩:=h;exact⟨X,W,V.more Z,fun i x L a b=>(h3 i x L a b).more Z⟩
structure Evc.Ok (c:Evc):Prop where
 B:c.B.length<=1000
 U:c.U.length<=1000
 S:c.S.length<=2
 SL:∀L∈c.S,L.length<=1000
 K:c.K.length<=1000
def agO(N:Mem)(y:List AV)(c:Evc):Prop:=∃b u s Z,y=c.cells b u s Z/\agi N b 1 c.B.length (stC c.B)/\agi N u 1 c.U.length (stC c.U)/\ahm N s c.S/\agi N Z 2 c.K.length (kC c.K)
variable{c:Evc}{ev:List AV}
theorem agO.more(h:agO N ev c)(Z:Mem):agO (N++Z) ev c:=by obtain⟨b,u,s,X,W,V,h3,S,O⟩:=h;exact⟨b,u,s,X,W,V.more Z,h3.more Z,S.more Z,O.more Z⟩
def C0(nm:List UInt8)(n:Z3)(o:Int)(s:Z3):Evc:={ k:=2,nm:=nm,x5:=zS n.1,x6:=zS n.2.1,x7:=zS n.2.2,x8:=zS o,x9:=zS s.1,x10:=zS s.2.1,x11:=zS s.2.2 }
def Md(nm:List UInt8)(n:Z3)(K:List (List UInt8×List UInt8))(s:Z3):Evc:={ k:=3,nm:=nm,x12:=zS n.1,x13:=zS n.2.1,x14:=zS n.2.2,K:=K,x16:=zS s.1,x17:=zS s.2.1,x18:=zS s.2.2 }
def OR(nm:List UInt8)(n:Z3)(o w:Int)(u:List UInt8):Evc:={ k:=4,nm:=nm,x19:=zS n.1,x20:=zS n.2.1,x21:=zS n.2.2,x22:=zS o,x23:=aB (hQ w),x24:=u }
def OS(nm:List UInt8)(t:Int×Int×Int×Int)(c:Z3):Evc:={ k:=5,nm:=nm,t1:=t.1,t2:=t.2.1,t3:=t.2.2.1,t4:=t.2.2.2,x29:=zS c.1,x30:=zS c.2.1,x31:=zS c.2.2 }
def Ip(nm:List UInt8)(B U:List (List UInt8))(S:List (List (List UInt8))):Evc:={ k:=1,nm:=nm,B:=B,U:=U,S:=S }
theorem Bm(H:c.B=[])(I:c.U=[])(y:c.S=[])(Q:c.K.length<=1000):c.Ok:=⟨by simp[H],by simp[I],by simp[y],by simp[y],Q⟩
theorem Ig(N:Mem):ahm N .y9 []:=⟨[],rfl,.inl ⟨rfl,rfl,rfl⟩,fun i x L h=>by simp at h⟩
theorem Dc(h:ev=c.cells .y9 .y9 .y9 .y9)(y:c.B=[])(H:c.U=[])(Q:c.S=[])(I:c.K=[]):agO N ev c:=
 ⟨_,_,_,_,h,.inl ⟨rfl,by simp[y],by simp[y,stC]⟩,.inl ⟨rfl,by simp[H],by simp[H,stC]⟩,by rw[Q];exact Ig N,.inl ⟨rfl,by simp[I],by simp[I,kC]⟩⟩
variable{nm:List UInt8}{o o2:Bool}
theorem HT{B U:List (List UInt8)}{S:List (List (List UInt8))}{b u:Nat}{sv:AV}(y:0<B.length)(H:0<U.length)(I:N[b]? =some (.cells o 1 (stC B)))(hu:N[u]? =some (.cells o2 1 (stC U)))(hs:ahm N sv S):
  agO N (aZ nm (.slice b 0 B.length none) (.slice u 0 U.length none) sv) (Ip nm B U S):=⟨_,_,_,.y9,rfl,.inr ⟨b,o,rfl,y,I⟩,.inr ⟨u,o2,rfl,H,hu⟩,hs,.inl ⟨rfl,rfl,rfl⟩⟩
theorem UC{n s:Z3}{L:List P2}{b:Nat}(y:0<L.length)(H:N[b]? =some (.cells o 2 (pC L))):agO N (cn nm n (.slice b 0 L.length none) s) (Md nm n (kT L) s):=
 ⟨.y9,.y9,.y9,_,rfl,.inl ⟨rfl,rfl,rfl⟩,.inl ⟨rfl,rfl,rfl⟩,Ig N,.inr ⟨b,o,by show AV.slice b 0 L.length none=.slice b 0 (kT L).length none;rw[ib],by show 0<(kT L).length;rw[ib];exact y,by show N[b]? =some (.cells o 2 (kC (kT L)));rw[<-Vy];exact H⟩⟩
variable{L1:List (List UInt8)}{o1:Bool}{r1:Nat}
theorem ZD{c:Nat}(hc:N[c]? =some (.cells o 1 [.slice r1 0 L1.length none]))(h1:N[r1]? =some (.cells o1 1 (stC L1)))(y:0<L1.length):ahm N (.slice c 0 1 none) [L1]:=
 ⟨_,rfl,.inr ⟨c,o,rfl,by simp,hc⟩,fun i x L Z X=>by
  match i,Z,X with
  |0,Z,X=>simp at Z X;subst Z X;exact .inr ⟨r1,o1,rfl,y,h1⟩
  |i+1,Z,X=>simp at Z⟩
theorem ZE{c r2:Nat}{L2:List (List UInt8)}(hc:N[c]? =some (.cells o 1 [.slice r1 0 L1.length none,.slice r2 0 L2.length none]))(h1:N[r1]? =some (.cells o1 1 (stC L1)))(h2:N[r2]? =some (.cells o2 1 (stC L2)))(y:0<L1.length)(H:0<L2.length):ahm N (.slice c 0 2 none) [L1,L2]:=
 ⟨_,rfl,.inr ⟨c,o,rfl,by simp,hc⟩,fun i x L Z X=>by
  match i,Z,X with
  |0,Z,X=>simp at Z X;subst Z X;exact .inr ⟨r1,o1,rfl,y,h1⟩
  |1,Z,X=>simp at Z X;subst Z X;exact .inr ⟨r2,o2,rfl,H,h2⟩
  |i+2,Z,X=>simp at Z⟩
def hT(Z:List Int):List (List UInt8):=(qH Z).map aB
theorem dT(Z:List Int):(hT Z).length=Z.length:=by simp[hT,qH]
theorem zc(Z:List Int):kR Z=.cells true 1 (stC (hT Z)):=by rw[kR,z7];rfl
theorem oC(L:List (List UInt8))(H:L.length<=1000)(m:Mem)(b:Nat)(o:Bool)(y:m[b]? =some (.cells o 1 (stC L))):
  kO prog 166 [.slice b 0 L.length none,.slice b 0 L.length none] m (.bool true) m:=by
 have X:aS prog 166=some f166:=by kernel_rfl
 have O:=gL y;have Z:adM prog (fU 242 [.slice b 0 L.length none,.slice b 0 L.length none] (.bool true) (fun M=>∃ext,M=m++ext)):=gn fun M W=>by obtain⟨ext,rfl⟩:=W;exact Tt L H _ b o (gU y _)
 refine fM Z ?_;have V:∃ext,m=m++ext:=⟨[],by simp⟩
 have S:(∃ext,m=m++ext)=True:=eq_true V;clear Z;simp[aa,X,f166,fU,-List.self_eq_append_right,S]
section
variable (n:Nat)(hn:n<=1000)
include n hn
theorem NC(L1:List (List UInt8))(y:L1.length=n)(m:Mem)(c r1:Nat)(o I:Bool)(hc:m[c]? =some (.cells o 1 [.slice r1 0 n none]))(H:m[r1]? =some (.cells I 1 (stC L1))):
  kO prog 243 [.slice c 0 1 none,.slice c 0 1 none,.func 166 []] m (.bool true) m:=by
 have X:aS prog 243=some f243:=by kernel_rfl
 have Z:adM prog (km [(166,[.slice r1 0 n none,.slice r1 0 n none],.bool true)] (fun M=>M=m)):=nM fun e he M W=>by
  subst W;simp only[lM] at he;subst he
  .have:=oC L1 (by omega) M r1 I H
   rw[y] at this;exact this
 refine dx (lv:=(fun _=>[17])) (K:=5) Z ?_;clear Z;simp[aa,X,f243,km,af,dR,aR,fW,hc,w1]
theorem ND(L1:List (List UInt8))(y:L1.length=n)(L2:List (List UInt8))(H:L2.length=n)(m:Mem)(c r1 r2:Nat)(o R Y:Bool)(hc:m[c]? =some (.cells o 1 [.slice r1 0 n none,.slice r2 0 n none]))(I:m[r1]? =some (.cells R 1 (stC L1)))(Q:m[r2]? =some (.cells Y 1 (stC L2))):
  kO prog 243 [.slice c 0 2 none,.slice c 0 2 none,.func 166 []] m (.bool true) m:=by
 have X:aS prog 243=some f243:=by kernel_rfl
 have Z:adM prog (km [(166,[.slice r1 0 n none,.slice r1 0 n none],.bool true),(166,[.slice r2 0 n none,.slice r2 0 n none],.bool true)] (fun M=>M=m)):=nM fun e he M W=>by
  subst W;simp only[lM] at he;rcases he with rfl | rfl
  .have:=oC L1 (by omega) M r1 R I
   rw[y] at this;exact this
  .have:=oC L2 (by omega) M r2 Y Q
   rw[H] at this;exact this
 refine dx (lv:=(fun _=>[17])) (K:=5) Z ?_;clear Z;simp[aa,X,f243,km,af,dR,aR,fW,hc,w1,w2]
theorem Tz(L1:List (List UInt8))(y:L1.length=n)(m:Mem)(c r1:Nat)(o I:Bool)(hc:m[c]? =some (.cells o 1 [.slice r1 0 n none]))(H:m[r1]? =some (.cells I 1 (stC L1))):
  kO prog 167 [.slice c 0 1 none,.slice c 0 1 none] m (.bool true) m:=by
 have X:aS prog 167=some f167:=by kernel_rfl
 have Z:adM prog (fU 243 [.slice c 0 1 none,.slice c 0 1 none,.func 166 []] (.bool true) (fun M=>M=m)):=gn fun M W=>by subst W;exact NC n hn L1 y M c r1 o I hc H
 refine fM Z ?_;clear Z;simp[aa,X,f167,fU]
theorem TA(L1:List (List UInt8))(y:L1.length=n)(L2:List (List UInt8))(H:L2.length=n)(m:Mem)(c r1 r2:Nat)(o R Y:Bool)(hc:m[c]? =some (.cells o 1 [.slice r1 0 n none,.slice r2 0 n none]))(I:m[r1]? =some (.cells R 1 (stC L1)))(Q:m[r2]? =some (.cells Y 1 (stC L2))):
  kO prog 167 [.slice c 0 2 none,.slice c 0 2 none] m (.bool true) m:=by
 have X:aS prog 167=some f167:=by kernel_rfl
 have Z:adM prog (fU 243 [.slice c 0 2 none,.slice c 0 2 none,.func 166 []] (.bool true) (fun M=>M=m)):=gn fun M W=>by subst W;exact ND n hn L1 y L2 H M c r1 r2 o R Y hc I Q
 refine fM Z ?_;clear Z;simp[aa,X,f167,fU]
end
theorem Ef(nm:List UInt8)(B U:List (List UInt8))(H:B.length<=1000)(I:U.length<=1000)(m:Mem)(b u:Nat)(o1 o2:Bool)(y:m[b]? =some (.cells o1 1 (stC B)))(hu:m[u]? =some (.cells o2 1 (stC U))):
  kO prog 110 [.agg (aZ nm (.slice b 0 B.length none) (.slice u 0 U.length none) (.y9)),.agg (aZ nm (.slice b 0 B.length none) (.slice u 0 U.length none) (.y9))] m (.bool true) m:=by
 have S:=gL y;have O:=gL hu;have W:adM prog (km [(166,[.slice b 0 B.length none,.slice b 0 B.length none],.bool true),(26,[.slice u 0 U.length none,.slice u 0 U.length none],.bool true)] (fun M=>∃ext,M=m++ext)):=nM fun e he M V=>by
  obtain⟨ext,rfl⟩:=V;simp only[lM] at he;rcases he with rfl | rfl
  .exact oC B H _ b o1 (gU y _)
  .exact BT U I _ u o2 (gU hu _)
 have k:∀f Z v E,(f,Z,v)∈[(166,[.slice b 0 B.length none,.slice b 0 B.length none],.bool true),(26,[.slice u 0 U.length none,.slice u 0 U.length none],.bool true)]->km [(166,[.slice b 0 B.length none,.slice b 0 B.length none],.bool true),(26,[.slice u 0 U.length none,.slice u 0 U.length none],.bool true)] (fun M=>∃ext,M=m++ext) (.fn f) Z (m++E)=some ⟨v,none,[]⟩:=fun f Z v E h=>by simp only[lM,Prod.mk.injEq] at h;rcases h with⟨rfl,rfl,rfl⟩ | ⟨rfl,rfl,rfl⟩<;>simp[km,af,dR]
 have X:∀f Z E,km [(166,[.slice b 0 B.length none,.slice b 0 B.length none],.bool true),(26,[.slice u 0 U.length none,.slice u 0 U.length none],.bool true)] (fun M=>∃ext,M=m++ext) (.fn f) Z (m++E)=af (dR [(166,[.slice b 0 B.length none,.slice b 0 B.length none],.bool true),(26,[.slice u 0 U.length none,.slice u 0 U.length none],.bool true)]) (.fn f) Z (m++E):=fun f Z E=>by simp[km]
 refine ko (adM.or' W jC) ?_ ?_ ?_ ?_
 .unfold af3.or
  rw[k _ _ (.bool true) _ (by simp)]
 .unfold af3.or
  rw[k _ _ (.bool true) _ (by simp)]
 .unfold af3.or
  rw[X];simp[af,dR,tL]
 .unfold af3.or
  rw[X];simp[af,dR,tL]
theorem Eg(nm:List UInt8)(B U:List (List UInt8))(I:B.length<=1000)(hU:U.length<=1000)(L1:List (List UInt8))(H:L1.length=B.length)(m:Mem)(b u c r1:Nat)(o1 o2 Q R:Bool)(Y:m[b]? =some (.cells o1 1 (stC B)))(hu:m[u]? =some (.cells o2 1 (stC U)))(hc:m[c]? =some (.cells Q 1 [.slice r1 0 B.length none]))(y:m[r1]? =some (.cells R 1 (stC L1))):
  kO prog 110 [.agg (aZ nm (.slice b 0 B.length none) (.slice u 0 U.length none) (.slice c 0 1 none)),.agg (aZ nm (.slice b 0 B.length none) (.slice u 0 U.length none) (.slice c 0 1 none))] m (.bool true) m:=by
 have O:=gL Y;have K:=gL hu;have J:=gL hc;have X:=gL y;have W:adM prog (km [(166,[.slice b 0 B.length none,.slice b 0 B.length none],.bool true),(26,[.slice u 0 U.length none,.slice u 0 U.length none],.bool true),(167,[.slice c 0 1 none,.slice c 0 1 none],.bool true)] (fun M=>∃ext,M=m++ext)):=nM fun e he M V=>by
  obtain⟨ext,rfl⟩:=V;simp only[lM] at he;rcases he with rfl | rfl | rfl
  .exact oC B I _ b o1 (gU Y _)
  .exact BT U hU _ u o2 (gU hu _)
  .exact Tz B.length I L1 H _ c r1 Q R (gU hc _) (gU y _)
 have k:∀f Z v E,(f,Z,v)∈[(166,[.slice b 0 B.length none,.slice b 0 B.length none],.bool true),(26,[.slice u 0 U.length none,.slice u 0 U.length none],.bool true),(167,[.slice c 0 1 none,.slice c 0 1 none],.bool true)]->km [(166,[.slice b 0 B.length none,.slice b 0 B.length none],.bool true),(26,[.slice u 0 U.length none,.slice u 0 U.length none],.bool true),(167,[.slice c 0 1 none,.slice c 0 1 none],.bool true)] (fun M=>∃ext,M=m++ext) (.fn f) Z (m++E)=some ⟨v,none,[]⟩:=fun f Z v E h=>by simp only[lM,Prod.mk.injEq] at h;rcases h with⟨rfl,rfl,rfl⟩ | ⟨rfl,rfl,rfl⟩ | ⟨rfl,rfl,rfl⟩<;>simp[km,af,dR]
 have S:∀f Z E,km [(166,[.slice b 0 B.length none,.slice b 0 B.length none],.bool true),(26,[.slice u 0 U.length none,.slice u 0 U.length none],.bool true),(167,[.slice c 0 1 none,.slice c 0 1 none],.bool true)] (fun M=>∃ext,M=m++ext) (.fn f) Z (m++E)=af (dR [(166,[.slice b 0 B.length none,.slice b 0 B.length none],.bool true),(26,[.slice u 0 U.length none,.slice u 0 U.length none],.bool true),(167,[.slice c 0 1 none,.slice c 0 1 none],.bool true)]) (.fn f) Z (m++E):=fun f Z E=>by simp[km]
 refine ko (adM.or' W jC) ?_ ?_ ?_ ?_
 .unfold af3.or
  rw[k _ _ (.bool true) _ (by simp)]
 .unfold af3.or
  rw[k _ _ (.bool true) _ (by simp)]
 .unfold af3.or
  rw[k _ _ (.bool true) _ (by simp)]
 .unfold af3.or
  rw[S];simp[af,dR,tL]
theorem Eh(nm:List UInt8)(B U:List (List UInt8))(R:B.length<=1000)(hU:U.length<=1000)(L1:List (List UInt8))(I:L1.length=B.length)(L2:List (List UInt8))(Q:L2.length=B.length)(m:Mem)(b u c r1 r2:Nat)(o1 o2 Y q1 q2:Bool)(hb:m[b]? =some (.cells o1 1 (stC B)))(hu:m[u]? =some (.cells o2 1 (stC U)))(hc:m[c]? =some (.cells Y 1 [.slice r1 0 B.length none,.slice r2 0 B.length none]))(y:m[r1]? =some (.cells q1 1 (stC L1)))(H:m[r2]? =some (.cells q2 1 (stC L2))):
  kO prog 110 [.agg (aZ nm (.slice b 0 B.length none) (.slice u 0 U.length none) (.slice c 0 2 none)),.agg (aZ nm (.slice b 0 B.length none) (.slice u 0 U.length none) (.slice c 0 2 none))] m (.bool true) m:=by
 have K:=gL hb;have J:=gL hu;have G:=gL hc;have X:=gL y;have W:=gL H;have V:adM prog (km [(166,[.slice b 0 B.length none,.slice b 0 B.length none],.bool true),(26,[.slice u 0 U.length none,.slice u 0 U.length none],.bool true),(167,[.slice c 0 2 none,.slice c 0 2 none],.bool true)] (fun M=>∃ext,M=m++ext)):=nM fun e he M S=>by
  obtain⟨ext,rfl⟩:=S;simp only[lM] at he;rcases he with rfl | rfl | rfl
  .exact oC B R _ b o1 (gU hb _)
  .exact BT U hU _ u o2 (gU hu _)
  .exact TA B.length R L1 I L2 Q _ c r1 r2 Y q1 q2 (gU hc _) (gU y _) (gU H _)
 have k:∀f Z v E,(f,Z,v)∈[(166,[.slice b 0 B.length none,.slice b 0 B.length none],.bool true),(26,[.slice u 0 U.length none,.slice u 0 U.length none],.bool true),(167,[.slice c 0 2 none,.slice c 0 2 none],.bool true)]->km [(166,[.slice b 0 B.length none,.slice b 0 B.length none],.bool true),(26,[.slice u 0 U.length none,.slice u 0 U.length none],.bool true),(167,[.slice c 0 2 none,.slice c 0 2 none],.bool true)] (fun M=>∃ext,M=m++ext) (.fn f) Z (m++E)=some ⟨v,none,[]⟩:=fun f Z v E h=>by simp only[lM,Prod.mk.injEq] at h;rcases h with⟨rfl,rfl,rfl⟩ | ⟨rfl,rfl,rfl⟩ | ⟨rfl,rfl,rfl⟩<;>simp[km,af,dR]
 have O:∀f Z E,km [(166,[.slice b 0 B.length none,.slice b 0 B.length none],.bool true),(26,[.slice u 0 U.length none,.slice u 0 U.length none],.bool true),(167,[.slice c 0 2 none,.slice c 0 2 none],.bool true)] (fun M=>∃ext,M=m++ext) (.fn f) Z (m++E)=af (dR [(166,[.slice b 0 B.length none,.slice b 0 B.length none],.bool true),(26,[.slice u 0 U.length none,.slice u 0 U.length none],.bool true),(167,[.slice c 0 2 none,.slice c 0 2 none],.bool true)]) (.fn f) Z (m++E):=fun f Z E=>by simp[km]
 refine ko (adM.or' V jC) ?_ ?_ ?_ ?_
 .unfold af3.or
  rw[k _ _ (.bool true) _ (by simp)]
 .unfold af3.or
  rw[k _ _ (.bool true) _ (by simp)]
 .unfold af3.or
  rw[k _ _ (.bool true) _ (by simp)]
 .unfold af3.or
  rw[O];simp[af,dR,tL]
def bT:AV:=.agg [.func 185 [],.func 186 [],.func 187 [],.func 188 [],.func 189 []]
theorem BN(nm:List UInt8)(n k:Nat):kO prog 77 [.agg (aZ nm (.slice 0 0 n none) (.slice 1 0 k none) (.y9))] [.HS,.HS] bT [.HS,.HS]:=by
 have h:aa (aU prog) ab (aS prog) xf 6 77 [.agg (aZ nm (.slice 0 0 n none) (.slice 1 0 k none) (.y9))] [.HS,.HS]=some ⟨bT,none,[]⟩:=by as_aux_lemma=>kernel_rfl
 have:=(ah ae (al _) jB (ao _) h).1;simpa [afA.mem] using this
theorem uB(nm:List UInt8)(n k:Nat)(M:Mem)(y:5<=M.length\/(4<=M.length/\0=0)):kO prog 77 [.agg (aZ nm (.slice 2 0 n none) (.slice 3 0 k none) (.y9))] M bT M:=by
 have:=kO.frame (M:=M) (new:=[]) [2,3] rfl (by intro k X;simp at X;omega) (by rfl) (fun i t Z=>by
  match i with
  |0=>simp at Z;subst Z;trivial
  |1=>simp at Z;subst Z;trivial
  |i+2=>simp at Z) rfl (BN nm n k)
 simpa [aZ,AV.agd,AV.ren,eg,bT] using this
def oo(s:af8)(u0:List UInt8)(Z:List Int):Mem:=[.cells false 2 (pC s.P),.cells false 3 (tC s.T),.cells false 1 (qC (qH Z)),.cells false 1 [.str u0]]
def jj(s:af8)(u0:List UInt8)(Z:List Int)(ev:List AV):Mem:=[.cells false 2 (pC s.P),.cells false 3 (tC s.T),.cells false 1 (qC (qH Z)),.cells false 1 [.str u0],.cells true 0 [.slice 0 0 s.P.length none,.slice 1 0 s.T.length none],.cells true 0 ev]
theorem ah6:aS prog 185=some f185:=by kernel_rfl
theorem Ah(s:af8)(nm:List UInt8)(u0:List UInt8)(Z:List Int):
  kO prog 185 [.agg (aZ nm (.slice 2 0 Z.length none) (.slice 3 0 1 none) (.y9)),.ptr 6 0] (jj s u0 Z (aZ nm (.slice 2 0 Z.length none) (.slice 3 0 1 none) (.y9))++[.cells true 0 (dH 1 nm)]) (.tuple []) (jj s u0 Z (aZ nm (.slice 2 0 Z.length none) (.slice 3 0 1 none) (.y9))++[.cells true 0 (aZ nm (.slice 2 0 Z.length none) (.slice 3 0 1 none) (.y9))]):=by
 have h:aa (aU prog) (fun _=>[]) (aS prog) bD 1 185 [.agg (aZ nm (.slice 2 0 Z.length none) (.slice 3 0 1 none) (.y9)),.ptr 6 0] (jj s u0 Z (aZ nm (.slice 2 0 Z.length none) (.slice 3 0 1 none) (.y9))++[.cells true 0 (dH 1 nm)])=some ⟨.tuple [],some (jj s u0 Z (aZ nm (.slice 2 0 Z.length none) (.slice 3 0 1 none) (.y9))++[.cells true 0 (aZ nm (.slice 2 0 Z.length none) (.slice 3 0 1 none) (.y9))]),[]⟩:=by simp[aa,ah6,f185,jj,dH,aZ,fB,fQ,iH,kj,ir,fO]
 have:=(ah ae (al _) (aj _) (ao _) h).1;simpa [afA.mem] using this
noncomputable def nu(s:af8)(u0:List UInt8)(Z:List Int)(nm:List UInt8)(ev:List AV):List (FuncId×List AV×Mem×afA):=[
 (59,[shA s],jj s u0 Z ev,⟨.int .i64 0,none,[]⟩),
 (77,[.agg ev],jj s u0 Z ev++[.cells true 0 (dH 1 nm)],⟨bT,none,[]⟩),
 (185,[.agg ev,.ptr 6 0],jj s u0 Z ev++[.cells true 0 (dH 1 nm)],⟨.tuple [],some (jj s u0 Z ev++[.cells true 0 ev]),[]⟩),
 (110,[.agg ev,.agg ev],jj s u0 Z ev++[.cells true 0 ev],⟨.bool true,none,[]⟩),
 (77,[.agg ev],jj s u0 Z ev++[.cells true 0 ev],⟨bT,none,[]⟩),
 (186,[shA s,.agg ev],jj s u0 Z ev++[.cells true 0 ev],⟨.int .i64 0,none,[]⟩)]
theorem ah7:aS prog 61=some f61:=by kernel_rfl
theorem ah8:be [0,1,3,0,15] 4=true:=by decide
theorem ah9:be [0,1,3,0,0,31,63] 6=true:=by decide
theorem yp(s:af8)(nm:List UInt8)(u0:List UInt8)(Z:List Int)(H:nm∈bF)(I:u0∈bF)(Q:∀z∈Z,z.natAbs<1000)(R:Z.length<=1000)(y:Z.length=s.P.length):
  kO prog 61 [shA s,.agg (aZ nm (.slice 2 0 Z.length none) (.slice 3 0 1 none) (.y9))] (oo s u0 Z) (.int .i64 0) (oo s u0 Z):=by
 obtain⟨J,S⟩:∃J,aN f61=J:=⟨_,rfl⟩
 have G:=bP S (ls:=[[0,1,3,0,15],[0,1,3,0,0,31,63]]) (by kernel_rfl);simp only[aN,cj,f61,lA] at S;subst S;simp only[lB] at G;obtain⟨O,K⟩:=G;have X:adM prog (af (dR [(109,[.str nm],.int .i64 0)])):=gQ fun e he M=>by simp only[lM] at he;subst he;exact dZ nm H M
 obtain⟨ev,W⟩:=xE (aZ nm (.slice 2 0 Z.length none) (.slice 3 0 1 none) (.y9));have V:adM prog (iY (nu s u0 Z nm ev)):=kQ fun e he=>by
  simp only[nu,lM] at he;subst W;have hc:=Iu s nm u0 I  Z Q R y (jj s u0 Z (aZ nm (.slice 2 0 Z.length none) (.slice 3 0 1 none) (.y9))++[.cells true 0 (aZ nm (.slice 2 0 Z.length none) (.slice 3 0 1 none) (.y9))]) 2 3 false false false false rfl rfl rfl rfl;have hq:=Ef nm ((qH Z).map aB) [u0] (by simp[qH];omega) (by simp) (jj s u0 Z (aZ nm (.slice 2 0 Z.length none) (.slice 3 0 1 none) (.y9))++[.cells true 0 (aZ nm (.slice 2 0 Z.length none) (.slice 3 0 1 none) (.y9))]) 2 3 false false (by rw[<-z7];rfl) rfl;have D:((qH Z).map aB).length=Z.length:=by simp[qH]
  rw[D] at hq;rcases he with rfl | rfl | rfl | rfl | rfl | rfl
  .exact⟨by simpa [afA.mem,shA] using ft s (jj s u0 Z (aZ nm (.slice 2 0 Z.length none) (.slice 3 0 1 none) (.y9))) 0 1 false false rfl rfl,by simp⟩
  .exact⟨by simpa [afA.mem] using uB nm Z.length 1 (jj s u0 Z (aZ nm (.slice 2 0 Z.length none) (.slice 3 0 1 none) (.y9))++[.cells true 0 (dH 1 nm)]) (by simp[jj]),by simp⟩
  .exact⟨by simpa [afA.mem] using Ah s nm u0 Z,by simp[jj]⟩
  .exact⟨by simpa [afA.mem] using hq,by simp⟩
  .exact⟨by simpa [afA.mem] using uB nm Z.length 1 (jj s u0 Z (aZ nm (.slice 2 0 Z.length none) (.slice 3 0 1 none) (.y9))++[.cells true 0 (aZ nm (.slice 2 0 Z.length none) (.slice 3 0 1 none) (.y9))]) (by simp[jj]),by simp⟩
  .exact⟨by simpa [afA.mem] using hc,by simp⟩
 have F:=adM.or' X V;have h:aa (aU prog) (fun _=>[]) (aS prog) (af3.or (af (dR [(109,[.str nm],.int .i64 0)])) (iY (nu s u0 Z nm ev))) 1 61 [shA s,.agg (aZ nm (.slice 2 0 Z.length none) (.slice 3 0 1 none) (.y9))] (oo s u0 Z)=some ⟨.int .i64 0,some (oo s u0 Z),[]⟩:=by rw[W];clear F X V y;simp[dh,-aJ,ak O,ak K,bt,bj,bp,ah8,ah9,Nat.testBit,-oQ,iz,iA,aa,ah7,f61,af3.or,af,dR,iY,nu,bT,shA,jj,oo,dH,aZ,bZ,aF,fB,fQ,iH,kj,DL,D6,ir,fO,M5]
 have:=(ah ae (al _) F (ao _) h).1;simpa [afA.mem] using this
theorem BO(nm:List UInt8)(n k:Nat):kO prog 77 [.agg (aZ nm (.slice 0 0 n none) (.slice 1 0 k none) (.slice 2 0 1 none))] [.HS,.HS,.HS] bT [.HS,.HS,.HS]:=by
 have h:aa (aU prog) ab (aS prog) xf 6 77 [.agg (aZ nm (.slice 0 0 n none) (.slice 1 0 k none) (.slice 2 0 1 none))] [.HS,.HS,.HS]=some ⟨bT,none,[]⟩:=by as_aux_lemma=>kernel_rfl
 have:=(ah ae (al _) jB (ao _) h).1;simpa [afA.mem] using this
theorem uC(nm:List UInt8)(n k:Nat)(M:Mem)(y:5<=M.length\/(4<=M.length/\1=0)):kO prog 77 [.agg (aZ nm (.slice 2 0 n none) (.slice 3 0 k none) (.slice 4 0 1 none))] M bT M:=by
 have:=kO.frame (M:=M) (new:=[]) [2,3,4] rfl (by intro k X;simp at X;omega) (by rfl) (fun i t Z=>by
  match i with
  |0=>simp at Z;subst Z;trivial
  |1=>simp at Z;subst Z;trivial
  |2=>simp at Z;subst Z;trivial
  |i+3=>simp at Z) rfl (BO nm n k)
 simpa [aZ,AV.agd,AV.ren,eg,bT] using this
def lN(s:af8)(u0 y:List UInt8)(Z H:List Int):Mem:=[.cells false 2 (pC s.P),.cells false 3 (tC s.T),.cells false 1 (qC (qH Z)),.cells false 1 [.str u0,.str y],.cells false 1 [.slice 5 0 Z.length none],.cells false 1 (qC (qH H))]
def jk(s:af8)(u0 y:List UInt8)(Z H:List Int)(ev:List AV):Mem:=[.cells false 2 (pC s.P),.cells false 3 (tC s.T),.cells false 1 (qC (qH Z)),.cells false 1 [.str u0,.str y],.cells false 1 [.slice 5 0 Z.length none],.cells false 1 (qC (qH H)),.cells true 0 [.slice 0 0 s.P.length none,.slice 1 0 s.T.length none],.cells true 0 ev]
theorem Ai(s:af8)(nm:List UInt8)(u0 y:List UInt8)(Z H:List Int):
  kO prog 185 [.agg (aZ nm (.slice 2 0 Z.length none) (.slice 3 0 2 none) (.slice 4 0 1 none)),.ptr 8 0] (jk s u0 y Z H (aZ nm (.slice 2 0 Z.length none) (.slice 3 0 2 none) (.slice 4 0 1 none))++[.cells true 0 (dH 1 nm)]) (.tuple []) (jk s u0 y Z H (aZ nm (.slice 2 0 Z.length none) (.slice 3 0 2 none) (.slice 4 0 1 none))++[.cells true 0 (aZ nm (.slice 2 0 Z.length none) (.slice 3 0 2 none) (.slice 4 0 1 none))]):=by
 have h:aa (aU prog) (fun _=>[]) (aS prog) bD 1 185 [.agg (aZ nm (.slice 2 0 Z.length none) (.slice 3 0 2 none) (.slice 4 0 1 none)),.ptr 8 0] (jk s u0 y Z H (aZ nm (.slice 2 0 Z.length none) (.slice 3 0 2 none) (.slice 4 0 1 none))++[.cells true 0 (dH 1 nm)])=some ⟨.tuple [],some (jk s u0 y Z H (aZ nm (.slice 2 0 Z.length none) (.slice 3 0 2 none) (.slice 4 0 1 none))++[.cells true 0 (aZ nm (.slice 2 0 Z.length none) (.slice 3 0 2 none) (.slice 4 0 1 none))]),[]⟩:=by simp[aa,ah6,f185,jk,dH,aZ,fB,fQ,iH,kj,ir,fO]
 have:=(ah ae (al _) (aj _) (ao _) h).1;simpa [afA.mem] using this
noncomputable def nv(s:af8)(u0 y:List UInt8)(Z H:List Int)(nm:List UInt8)(ev:List AV):List (FuncId×List AV×Mem×afA):=[
 (59,[shA s],jk s u0 y Z H ev,⟨.int .i64 0,none,[]⟩),
 (77,[.agg ev],jk s u0 y Z H ev++[.cells true 0 (dH 1 nm)],⟨bT,none,[]⟩),
 (185,[.agg ev,.ptr 8 0],jk s u0 y Z H ev++[.cells true 0 (dH 1 nm)],⟨.tuple [],some (jk s u0 y Z H ev++[.cells true 0 ev]),[]⟩),
 (110,[.agg ev,.agg ev],jk s u0 y Z H ev++[.cells true 0 ev],⟨.bool true,none,[]⟩),
 (77,[.agg ev],jk s u0 y Z H ev++[.cells true 0 ev],⟨bT,none,[]⟩),
 (186,[shA s,.agg ev],jk s u0 y Z H ev++[.cells true 0 ev],⟨.int .i64 0,none,[]⟩)]
theorem yq(s:af8)(nm:List UInt8)(u0 I:List UInt8)(Z H:List Int)(hm:nm∈bF)(n0:u0∈bF)(n1:I∈bF)(Q:I≠u0)(hZ:∀z∈Z,z.natAbs<1000)(hl:Z.length<=1000)(hn:Z.length=s.P.length)(R:∀z∈H,z.natAbs<1000)(Y:H.length=s.P.length)(aax:∀(i:Nat) z y,Z[i]? =some z->H[i]? =some y->z<=y):
  kO prog 61 [shA s,.agg (aZ nm (.slice 2 0 Z.length none) (.slice 3 0 2 none) (.slice 4 0 1 none))] (lN s u0 I Z H) (.int .i64 0) (lN s u0 I Z H):=by
 obtain⟨J,S⟩:∃J,aN f61=J:=⟨_,rfl⟩
 have G:=bP S (ls:=[[0,1,3,0,15],[0,1,3,0,0,31,63]]) (by kernel_rfl);simp only[aN,cj,f61,lA] at S;subst S;simp only[lB] at G;obtain⟨O,K⟩:=G;have X:adM prog (af (dR [(109,[.str nm],.int .i64 0)])):=gQ fun e he M=>by simp only[lM] at he;subst he;exact dZ nm hm M
 obtain⟨ev,W⟩:=xE (aZ nm (.slice 2 0 Z.length none) (.slice 3 0 2 none) (.slice 4 0 1 none));have V:adM prog (iY (nv s u0 I Z H nm ev)):=kQ fun e he=>by
  simp only[nv,lM] at he;subst W;have hc:=Iv s nm u0 I n0 n1 Q Z hZ hl hn H R Y aax (jk s u0 I Z H (aZ nm (.slice 2 0 Z.length none) (.slice 3 0 2 none) (.slice 4 0 1 none))++[.cells true 0 (aZ nm (.slice 2 0 Z.length none) (.slice 3 0 2 none) (.slice 4 0 1 none))]) 2 3 4 5 false false false false false false rfl rfl rfl rfl rfl rfl;have hq:=Eg nm ((qH Z).map aB) [u0,I] (by simp[qH];omega) (by simp) ((qH H).map aB) (by simp[qH];omega) (jk s u0 I Z H (aZ nm (.slice 2 0 Z.length none) (.slice 3 0 2 none) (.slice 4 0 1 none))++[.cells true 0 (aZ nm (.slice 2 0 Z.length none) (.slice 3 0 2 none) (.slice 4 0 1 none))]) 2 3 4 5 false false false false (by rw[<-z7];rfl) rfl (by rw[show((qH Z).map aB).length=Z.length by simp[qH]];rfl) (by rw[<-z7];rfl);have D:((qH Z).map aB).length=Z.length:=by simp[qH]
  rw[D] at hq;rcases he with rfl | rfl | rfl | rfl | rfl | rfl
  .exact⟨by simpa [afA.mem,shA] using ft s (jk s u0 I Z H (aZ nm (.slice 2 0 Z.length none) (.slice 3 0 2 none) (.slice 4 0 1 none))) 0 1 false false rfl rfl,by simp⟩
  .exact⟨by simpa [afA.mem] using uC nm Z.length 2 (jk s u0 I Z H (aZ nm (.slice 2 0 Z.length none) (.slice 3 0 2 none) (.slice 4 0 1 none))++[.cells true 0 (dH 1 nm)]) (by simp[jk]),by simp⟩
  .exact⟨by simpa [afA.mem] using Ai s nm u0 I Z H,by simp[jk]⟩
  .exact⟨by simpa [afA.mem] using hq,by simp⟩
  .exact⟨by simpa [afA.mem] using uC nm Z.length 2 (jk s u0 I Z H (aZ nm (.slice 2 0 Z.length none) (.slice 3 0 2 none) (.slice 4 0 1 none))++[.cells true 0 (aZ nm (.slice 2 0 Z.length none) (.slice 3 0 2 none) (.slice 4 0 1 none))]) (by simp[jk]),by simp⟩
  .exact⟨by simpa [afA.mem] using hc,by simp⟩
 have F:=adM.or' X V;have h:aa (aU prog) (fun _=>[]) (aS prog) (af3.or (af (dR [(109,[.str nm],.int .i64 0)])) (iY (nv s u0 I Z H nm ev))) 1 61 [shA s,.agg (aZ nm (.slice 2 0 Z.length none) (.slice 3 0 2 none) (.slice 4 0 1 none))] (lN s u0 I Z H)=some ⟨.int .i64 0,some (lN s u0 I Z H),[]⟩:=by rw[W];clear F X V hn;simp[dh,-aJ,ak O,ak K,bt,bj,bp,ah8,ah9,Nat.testBit,-oQ,iz,iA,aa,ah7,f61,af3.or,af,dR,iY,nv,bT,shA,jk,lN,dH,aZ,bZ,aF,fB,fQ,iH,kj,DL,D6,ir,fO,M5]
 have:=(ah ae (al _) F (ao _) h).1;simpa [afA.mem] using this
theorem BP(nm:List UInt8)(n k:Nat):kO prog 77 [.agg (aZ nm (.slice 0 0 n none) (.slice 1 0 k none) (.slice 2 0 2 none))] [.HS,.HS,.HS] bT [.HS,.HS,.HS]:=by
 have h:aa (aU prog) ab (aS prog) xf 6 77 [.agg (aZ nm (.slice 0 0 n none) (.slice 1 0 k none) (.slice 2 0 2 none))] [.HS,.HS,.HS]=some ⟨bT,none,[]⟩:=by as_aux_lemma=>kernel_rfl
 have:=(ah ae (al _) jB (ao _) h).1;simpa [afA.mem] using this
theorem uD(nm:List UInt8)(n k:Nat)(M:Mem)(y:5<=M.length\/(4<=M.length/\2=0)):kO prog 77 [.agg (aZ nm (.slice 2 0 n none) (.slice 3 0 k none) (.slice 4 0 2 none))] M bT M:=by
 have:=kO.frame (M:=M) (new:=[]) [2,3,4] rfl (by intro k X;simp at X;omega) (by rfl) (fun i t Z=>by
  match i with
  |0=>simp at Z;subst Z;trivial
  |1=>simp at Z;subst Z;trivial
  |2=>simp at Z;subst Z;trivial
  |i+3=>simp at Z) rfl (BP nm n k)
 simpa [aZ,AV.agd,AV.ren,eg,bT] using this
def kA(s:af8)(u0 y H:List UInt8)(Z I Q:List Int):Mem:=[.cells false 2 (pC s.P),.cells false 3 (tC s.T),.cells false 1 (qC (qH Z)),.cells false 1 [.str u0,.str y,.str H],.cells false 1 [.slice 5 0 Z.length none,.slice 6 0 Z.length none],.cells false 1 (qC (qH I)),.cells false 1 (qC (qH Q))]
def jl(s:af8)(u0 y H:List UInt8)(Z I Q:List Int)(ev:List AV):Mem:=[.cells false 2 (pC s.P),.cells false 3 (tC s.T),.cells false 1 (qC (qH Z)),.cells false 1 [.str u0,.str y,.str H],.cells false 1 [.slice 5 0 Z.length none,.slice 6 0 Z.length none],.cells false 1 (qC (qH I)),.cells false 1 (qC (qH Q)),.cells true 0 [.slice 0 0 s.P.length none,.slice 1 0 s.T.length none],.cells true 0 ev]
theorem Aj(s:af8)(nm:List UInt8)(u0 y H:List UInt8)(Z I Q:List Int):
  kO prog 185 [.agg (aZ nm (.slice 2 0 Z.length none) (.slice 3 0 3 none) (.slice 4 0 2 none)),.ptr 9 0] (jl s u0 y H Z I Q (aZ nm (.slice 2 0 Z.length none) (.slice 3 0 3 none) (.slice 4 0 2 none))++[.cells true 0 (dH 1 nm)]) (.tuple []) (jl s u0 y H Z I Q (aZ nm (.slice 2 0 Z.length none) (.slice 3 0 3 none) (.slice 4 0 2 none))++[.cells true 0 (aZ nm (.slice 2 0 Z.length none) (.slice 3 0 3 none) (.slice 4 0 2 none))]):=by
 have h:aa (aU prog) (fun _=>[]) (aS prog) bD 1 185 [.agg (aZ nm (.slice 2 0 Z.length none) (.slice 3 0 3 none) (.slice 4 0 2 none)),.ptr 9 0] (jl s u0 y H Z I Q (aZ nm (.slice 2 0 Z.length none) (.slice 3 0 3 none) (.slice 4 0 2 none))++[.cells true 0 (dH 1 nm)])=some ⟨.tuple [],some (jl s u0 y H Z I Q (aZ nm (.slice 2 0 Z.length none) (.slice 3 0 3 none) (.slice 4 0 2 none))++[.cells true 0 (aZ nm (.slice 2 0 Z.length none) (.slice 3 0 3 none) (.slice 4 0 2 none))]),[]⟩:=by simp[aa,ah6,f185,jl,dH,aZ,fB,fQ,iH,kj,ir,fO]
 have:=(ah ae (al _) (aj _) (ao _) h).1;simpa [afA.mem] using this
noncomputable def nA(s:af8)(u0 y H:List UInt8)(Z I Q:List Int)(nm:List UInt8)(ev:List AV):List (FuncId×List AV×Mem×afA):=[
 (59,[shA s],jl s u0 y H Z I Q ev,⟨.int .i64 0,none,[]⟩),
 (77,[.agg ev],jl s u0 y H Z I Q ev++[.cells true 0 (dH 1 nm)],⟨bT,none,[]⟩),
 (185,[.agg ev,.ptr 9 0],jl s u0 y H Z I Q ev++[.cells true 0 (dH 1 nm)],⟨.tuple [],some (jl s u0 y H Z I Q ev++[.cells true 0 ev]),[]⟩),
 (110,[.agg ev,.agg ev],jl s u0 y H Z I Q ev++[.cells true 0 ev],⟨.bool true,none,[]⟩),
 (77,[.agg ev],jl s u0 y H Z I Q ev++[.cells true 0 ev],⟨bT,none,[]⟩),
 (186,[shA s,.agg ev],jl s u0 y H Z I Q ev++[.cells true 0 ev],⟨.int .i64 0,none,[]⟩)]
theorem yr(s:af8)(nm:List UInt8)(u0 I Q:List UInt8)(Z H R:List Int)(hm:nm∈bF)(n0:u0∈bF)(n1:I∈bF)(n2:Q∈bF)(Y:I≠u0)(d02:Q≠u0)(d12:Q≠I)(hZ:∀z∈Z,z.natAbs<1000)(hl:Z.length<=1000)(hn:Z.length=s.P.length)(hY1:∀z∈H,z.natAbs<1000)(hl1:H.length=s.P.length)(aax:∀(i:Nat) z y,Z[i]? =some z->H[i]? =some y->z<=y)(hY2:∀z∈R,z.natAbs<1000)(hl2:R.length=s.P.length)(aav:∀(i:Nat) z y,H[i]? =some z->R[i]? =some y->z<=y):
  kO prog 61 [shA s,.agg (aZ nm (.slice 2 0 Z.length none) (.slice 3 0 3 none) (.slice 4 0 2 none))] (kA s u0 I Q Z H R) (.int .i64 0) (kA s u0 I Q Z H R):=by
 obtain⟨J,S⟩:∃J,aN f61=J:=⟨_,rfl⟩
 have G:=bP S (ls:=[[0,1,3,0,15],[0,1,3,0,0,31,63]]) (by kernel_rfl);simp only[aN,cj,f61,lA] at S;subst S;simp only[lB] at G;obtain⟨O,K⟩:=G;have X:adM prog (af (dR [(109,[.str nm],.int .i64 0)])):=gQ fun e he M=>by simp only[lM] at he;subst he;exact dZ nm hm M
 obtain⟨ev,W⟩:=xE (aZ nm (.slice 2 0 Z.length none) (.slice 3 0 3 none) (.slice 4 0 2 none));have V:adM prog (iY (nA s u0 I Q Z H R nm ev)):=kQ fun e he=>by
  simp only[nA,lM] at he;subst W;have hc:=Iw s nm u0 I Q n0 n1 n2 Y d02 d12 Z hZ hl hn H R hY1 hl1 aax hY2 hl2 aav (jl s u0 I Q Z H R (aZ nm (.slice 2 0 Z.length none) (.slice 3 0 3 none) (.slice 4 0 2 none))++[.cells true 0 (aZ nm (.slice 2 0 Z.length none) (.slice 3 0 3 none) (.slice 4 0 2 none))]) 2 3 4 5 6 false false false false false false false rfl rfl rfl rfl rfl rfl rfl;have hq:=Eh nm ((qH Z).map aB) [u0,I,Q] (by simp[qH];omega) (by simp) ((qH H).map aB) (by simp[qH];omega) ((qH R).map aB) (by simp[qH];omega) (jl s u0 I Q Z H R (aZ nm (.slice 2 0 Z.length none) (.slice 3 0 3 none) (.slice 4 0 2 none))++[.cells true 0 (aZ nm (.slice 2 0 Z.length none) (.slice 3 0 3 none) (.slice 4 0 2 none))]) 2 3 4 5 6 false false false false false (by rw[<-z7];rfl) rfl (by rw[show((qH Z).map aB).length=Z.length by simp[qH]];rfl) (by rw[<-z7];rfl) (by rw[<-z7];rfl);have D:((qH Z).map aB).length=Z.length:=by simp[qH]
  rw[D] at hq;rcases he with rfl | rfl | rfl | rfl | rfl | rfl
  .exact⟨by simpa [afA.mem,shA] using ft s (jl s u0 I Q Z H R (aZ nm (.slice 2 0 Z.length none) (.slice 3 0 3 none) (.slice 4 0 2 none))) 0 1 false false rfl rfl,by simp⟩
  .exact⟨by simpa [afA.mem] using uD nm Z.length 3 (jl s u0 I Q Z H R (aZ nm (.slice 2 0 Z.length none) (.slice 3 0 3 none) (.slice 4 0 2 none))++[.cells true 0 (dH 1 nm)]) (by simp[jl]),by simp⟩
  .exact⟨by simpa [afA.mem] using Aj s nm u0 I Q Z H R,by simp[jl]⟩
  .exact⟨by simpa [afA.mem] using hq,by simp⟩
  .exact⟨by simpa [afA.mem] using uD nm Z.length 3 (jl s u0 I Q Z H R (aZ nm (.slice 2 0 Z.length none) (.slice 3 0 3 none) (.slice 4 0 2 none))++[.cells true 0 (aZ nm (.slice 2 0 Z.length none) (.slice 3 0 3 none) (.slice 4 0 2 none))]) (by simp[jl]),by simp⟩
  .exact⟨by simpa [afA.mem] using hc,by simp⟩
 have F:=adM.or' X V;have h:aa (aU prog) (fun _=>[]) (aS prog) (af3.or (af (dR [(109,[.str nm],.int .i64 0)])) (iY (nA s u0 I Q Z H R nm ev))) 1 61 [shA s,.agg (aZ nm (.slice 2 0 Z.length none) (.slice 3 0 3 none) (.slice 4 0 2 none))] (kA s u0 I Q Z H R)=some ⟨.int .i64 0,some (kA s u0 I Q Z H R),[]⟩:=by rw[W];clear F X V hn;simp[dh,-aJ,ak O,ak K,bt,bj,bp,ah8,ah9,Nat.testBit,-oQ,iz,iA,aa,ah7,f61,af3.or,af,dR,iY,nA,bT,shA,jl,kA,dH,aZ,bZ,aF,fB,fQ,iH,kj,DL,D6,ir,fO,M5]
 have:=(ah ae (al _) F (ao _) h).1;simpa [afA.mem] using this
end Go.Proofs
