/- See D38. -/
import Derived.Test.YthpgbelancmpjaaGreatDoorD28
set_option linter.all false
set_option maxRecDepth 100000
set_option maxHeartbeats 40000000
namespace Go.Proofs
open Go.Eng
open Tryz
def AE(s:List UInt8):Nat->List (List UInt8)->Int
 |_,[]=> -1
 |i,x::l=>if s=x then (i:Int) else AE s (i+1) l
theorem Pa{s:List UInt8}:∀{i:Nat} {l:List (List UInt8)},AE s i l<0↔s∉l
 |i,[]=>by simp[AE]
 |i,x::l=>by
  unfold AE;by_cases h:s=x
  .rw[if_pos h];simp[h]
  .rw[if_neg h,Pa];simp[h]
theorem Tl{s:List UInt8}:∀{i:Nat} {l:List (List UInt8)},-1<=AE s i l
 |i,[]=>by unfold AE;omega
 |i,x::l=>by
  unfold AE;split
  .omega
  .exact Tl
theorem Bi{O:y9}{K:Nat}(L:List (List UInt8))(s:List UInt8)(I:L.length<=1000000000)(J:L.length<K){b:Code}(H:ah f273=[b]):
  ∃F:Env->Bool->Env,∀Z d,(ae Z 0=.slice 0 0 L.length none/\ae Z 1=.str s/\ae Z 7=.int .i64 L.length/\ae Z 8=.int .i64 0)->
   aU (bd prog) (fun _=>[8]) O K 19 1 true (.loop b) ⟨Z,[.cells false 1 (stC L)],d⟩=some (if AE s 0 L<0 then .exit 0 else .ret,⟨F Z d,[.cells false 1 (stC L)],d⟩)/\
    (¬AE s 0 L<0->ae (F Z d) 4=.int .i64 (AE s 0 L)):=by
 refine bl rfl (fun Z=>ae Z 0=.slice 0 0 L.length none/\ae Z 1=.str s/\ae Z 7=.int .i64 L.length/\ae Z 8=.int .i64 0) (fun _ D =>¬AE s 0 L<0->ae D 4=.int .i64 (AE s 0 L)) ?_;rintro Z d ⟨h0,X,h7,h8⟩;simp[ah,aE,f273] at H;have N:aw [8] (ad b) Z ((8,.int .i64 ((0:Nat):Int))::Z)=aw [8] (ad b) Z Z:=by simp[aw,h8]
 rw[<-N];have M:(stC L).length=L.length:=lJ L;refine bG (α:=Nat) (fun n=>⟨aw [8] (ad b) Z ((8,.int .i64 (n:Int))::Z),[.cells false 1 (stC L)],d⟩) (fun n=>L.length-n) (fun n=>n<=L.length/\AE s 0 L=AE s n (L.drop n)) _ _ d _ (by split<;>simp) ?_ K 0 ⟨by omega,by rw[List.drop_zero]⟩ (by omega);rintro n ⟨Z5,he⟩;clear N;subst H;by_cases V:n<L.length
 .obtain⟨x,S⟩:∃x,L[n]? =some x:=⟨L[n],GT V⟩
  have G:∀h,(stC L)[n]'h=.str x:=fun h=>by have:=Mi S;rw[GT h] at this;exact ZQ this
  have C:L.drop n=x::L.drop (n+1):=by rw[Ns] at S;obtain⟨X,B⟩:=S;rw[<-B];exact N0 X
  rw[C,AE] at he;have w1:IntKind.i64.wrap ((n:Int)+1)=((n+1:Nat):Int):=by rw[af];omega
  by_cases U:s=x
  .right
   rw[if_pos U] at he;subst U;have R:¬(n:Int)<0:=by omega
   rw[he,if_neg R];simp[h0,X,h7,V,M,G]
  .left
   rw[if_neg U] at he;have H:(s==x)=false:=by simpa using U
   refine⟨n+1,?_⟩;refine bC (show(n+1<=L.length/\AE s 0 L=AE s (n+1) (L.drop (n+1)))/\L.length-(n+1)<L.length-n from⟨⟨by omega,he⟩,by omega⟩) ?_;simp[h0,X,h7,V,M,G,H,w1]
 .right
  have e:L.drop n=[]:=ZN (by omega);rw[e,AE] at he;rw[he,if_pos (by decide)];simp[h7,V]
theorem Hv(L:List (List UInt8))(s:List UInt8)(H:L.length<=1000000000):
  kO prog 273 [.slice 0 0 L.length none,.str s] [.cells false 1 (stC L)] (.int .i64 (AE s 0 L)) [.cells false 1 (stC L)]:=by
 have R:aX prog 273=some f273:=by kernel_rfl
 obtain⟨b,V⟩:∃b,ah f273=[b]:=⟨_,rfl⟩
 obtain⟨F,Z⟩:=Bi (O:=cP) (K:=L.length+1) L s H (by omega) V;simp[ah,aE,f273] at V;subst V;refine dj (lv:=(fun _=>[8])) (K:=(L.length+1)) (az _) ?_;by_cases U:AE s 0 L<0
 .rw[if_pos U] at Z
  have S:=fun X d h=>(Z X d h).1
  clear Z;have N:AE s 0 L= -1:=by have:=Tl (s:=s) (i:=0) (l:=L);omega
  rw[N];simp[aa,R,f273,S]
 .rw[if_neg U] at Z
  have S:=fun X d h=>(Z X d h).1
  have M:=fun X d h=>(Z X d h).2 U
  clear Z;simp[aa,R,f273,S,M]
theorem Dk(s:List UInt8)(M:Mem):kO prog 273 [.qF,.str s] M (.int .i64 (-1)) M:=by
 have Z:aX prog 273=some f273:=by kernel_rfl
 refine de (az _) (lv:=fun _=>[8]) (K:=1) rfl rfl ?_ M;simp[aa,Z,f273,ba,ga]
variable{L:List (List UInt8)}{M:Mem}{x:AV}
theorem Hu(s:List UInt8)(H:L.length<=1000000000)(I:sts M x=some L):kO prog 273 [x,.str s] M (.int .i64 (AE s 0 L)) M:=by
 rcases V6 I with h | ⟨rfl,rfl⟩
 .exact kO.agZ (rest:=[.str s]) (ea L) rfl rfl (Hv L s H) h
 .exact Dk s M
noncomputable def F7:y9:=fun c Z M=>match c,Z with
 |.fn 273,[x,.str s]=>match sts M x with
  |some L=>if L.length<=1000000000 then some ⟨.int .i64 (AE s 0 L),none,[]⟩ else none
  |none=>none
 |c,Z=>cP c Z M
theorem Qy:qS prog F7:=by
 refine cB fun c Z M r h=>?_
 unfold F7 at h;split at h
 .split at h
  .rename_i L X
   split at h
   .rename_i V
    cases h;refine aC ?_;rw[List.append_nil];exact Hu _ V X
   .cases h
  .cases h
 .exact dZ (az _) h
theorem AR(s:List UInt8)(H:L.length<=1000000000)(I:sts M x=some L):kO prog 234 [x,.str s] M (.bool (decide (s∈L))) M:=by
 have Z:aX prog 234=some f234:=by kernel_rfl
 have X:decide (0<=AE s 0 L)=decide (s∈L):=by
  rw[decide_eq_decide];have:=Pa (s:=s) (i:=0) (l:=L);by_cases h:s∈L
  .simp only[h,iff_true]
   exact Int.not_lt.1 fun e=>this.1 e h
  .simp only[h,iff_false]
   have:=this.2 h;omega
 refine iS Qy ?_;rw[<-X];simp[aa,Z,f234,F7,I,H]
end Go.Proofs
namespace Go.Proofs
open Go.Eng
open Tryz
open Classical in
noncomputable def GI(L:List (FuncId×List AV×AV))(p:Mem->Prop):y9:=fun c a M=>if p M then ag (fD L) c a M else none
theorem GJ{P:Program}{L:List (FuncId×List AV×AV)}{p:Mem->Prop}(h:∀x∈L,∀M,p M->kO P x.1 x.2.1 M x.2.2 M):qS P (GI L p):=by
 have k:∀f a v,fD L f a=some v->∃x∈L,f=x.1/\a=x.2.1/\v=x.2.2:=by
  clear h;intro f a v X;induction L with
  |nil=>simp[fD] at X
  |cons x L ih=>
   rw[fD] at X;split at X
   .rename_i N
    cases X;exact⟨x,by simp,N.1,N.2,rfl⟩
   .obtain⟨y,K,V⟩:=ih X
    exact⟨y,by simp[K],V⟩
 have U:∀c a M r,GI L p c a M=some r->p M/\∃f,c=.fn f/\∃x∈L,f=x.1/\a=x.2.1/\r=⟨x.2.2,none,[]⟩:=by
  intro c a M r Z;unfold GI at Z;split at Z
  .rename_i S
   refine⟨S,?_⟩;unfold ag at Z;split at Z
   .rename_i f
    split at Z
    .rename_i v X
     cases Z;obtain⟨x,R,V,G,h3⟩:=k _ _ _ X;exact⟨f,rfl,x,R,V,G,by rw[h3]⟩
    .cases Z
   .cases Z
  .cases Z
 refine⟨fun f a M r Z=>?_,fun b a M r Z=>?_,fun c a M r q Z F=>?_⟩
 .obtain⟨S,g,O,x,R,V,rfl,rfl⟩:=U _ _ _ _ Z
  cases O;subst V;simpa [afh.mem] using h x R M S
 .obtain⟨_,g,O,_⟩:=U _ _ _ _ Z
  cases O
 .obtain⟨_,g,_,x,_,_,_,rfl⟩:=U _ _ _ _ Z
  cases F
def ly(c:Code):List Nat:=if (ad c).contains 35 then [35] else [10,65]
theorem gi(M:Mem)(u k:Nat)(o:Bool)(U:List (List UInt8))(s:List UInt8)(H:M[u]? =some (.cells o 1 (stC U)))(I:k<=U.length)(J:U.length<=3)(hs:s∉U.take k):
  kO prog 234 [.slice u 0 k none,.str s] M (.bool false) M:=by
 have h:sts M (.slice u 0 k none)=some (U.take k):=by
  have Z:(stC U).take (k*1)=stC (U.take k):=by simp[stC,List.map_take]
  unfold sts;rw[SE H (by rw[lJ];omega) Z];exact Ud _
 have:=AR (M:=M) s (by rw[S2];omega) h
 rwa [decide_eq_false hs] at this
theorem ahf:aX prog 155=some f155:=by kernel_rfl
section
variable (s:afq)(nm:List UInt8)
include s nm
theorem Hl(H:List UInt8)(Y:H∈k8)(Z:List Int)(hZ:∀z∈Z,z.natAbs<1000)(hl:Z.length<=1000)(hn:Z.length=s.P.length)(m:Mem)(b u:Nat)(o1 o2 o3 o4:Bool)(J:m[0]? =some (.cells o1 2 (pC s.P)))(hq:m[1]? =some (.cells o2 3 (tC s.T)))(I:m[b]? =some (.cells o3 1 (qC (qH Z))))(W:m[u]? =some (.cells o4 1 (stC [H]))):
  kO prog 155 [shA s,.agg (GL nm (.slice b 0 Z.length none) (.slice u 0 1 none) (.qF))] m (.int .i64 0) m:=by
 have O:=gL J;have L:=gL hq;have G:=gL I;have F:=gL W;have D:=fun ext:Mem=>(GE (l₂:=ext) O).trans J
 have C:=fun ext:Mem=>(GE (l₂:=ext) L).trans hq
 have B:=fun ext:Mem=>(GE (l₂:=ext) G).trans I
 have S:=fun ext:Mem=>(GE (l₂:=ext) F).trans W
 have X:qS prog (ag (fD [(71,[.str H],.int .i64 0)])):=ic fun e V M=>by simp only[lM] at V;rcases V with rfl;exact ig _ Y M
 have U:qS prog (GI [(118,[shA s,.slice b 0 Z.length none],.int .i64 0),(234,[.slice u 0 0 none,.str H],.bool false)] (fun M=>∃ext,M=m++ext)):=GJ fun e V M o=>by
  obtain⟨ext,rfl⟩:=o;simp only[lM] at V;rcases V with rfl | rfl
  .exact qD s Z hZ hl hn _ b o1 o2 o3 (D ext) (C ext) (B ext)
  .exact gi _ u 0 o4 [H] H (S ext) (by simp) (by simp) (by simp)
 have R:=qS.or' X U;clear X U;refine dj (lv:=ly) (K:=5) R ?_;clear R;obtain⟨N,j⟩:=xE Z.length;simp only[<-j] at I |-;simp[aa,ahf,f155,y9.or,ag,fD,GI,shA,GL,ba,ga,ly,stC,S,w0,w1]
theorem Hm(H I:List UInt8)(n0:H∈k8)(n1:I∈k8)(W:I≠H)(Z:List Int)(hZ:∀z∈Z,z.natAbs<1000)(hl:Z.length<=1000)(hn:Z.length=s.P.length)(J:List Int)(Y:∀z∈J,z.natAbs<1000)(Z2:J.length=s.P.length)(aaU:∀(i:Nat) z y,Z[i]? =some z->J[i]? =some y->z<=y)(m:Mem)(b u c r1:Nat)(o1 o2 o3 o4 o5 q1:Bool)(hp:m[0]? =some (.cells o1 2 (pC s.P)))(hq:m[1]? =some (.cells o2 3 (tC s.T)))(hb:m[b]? =some (.cells o3 1 (qC (qH Z))))(hu:m[u]? =some (.cells o4 1 (stC [H,I])))(hc:m[c]? =some (.cells o5 1 [.slice r1 0 Z.length none]))(ZZ:m[r1]? =some (.cells q1 1 (qC (qH J)))):
  kO prog 155 [shA s,.agg (GL nm (.slice b 0 Z.length none) (.slice u 0 2 none) (.slice c 0 1 none))] m (.int .i64 0) m:=by
 have B:=gL hp;have o:=gL hq;have j:=gL hb;have lu:=gL hu;have lc:=gL hc;have S:=gL ZZ;have L:=fun ext:Mem=>(GE (l₂:=ext) B).trans hp
 have G:=fun ext:Mem=>(GE (l₂:=ext) o).trans hq
 have F:=fun ext:Mem=>(GE (l₂:=ext) j).trans hb
 have R:=fun ext:Mem=>(GE (l₂:=ext) lu).trans hu
 have D:=fun ext:Mem=>(GE (l₂:=ext) lc).trans hc
 have O:=fun ext:Mem=>(GE (l₂:=ext) S).trans ZZ
 have X:qS prog (ag (fD [(71,[.str H],.int .i64 0),(71,[.str I],.int .i64 0)])):=ic fun e V M=>by
  simp only[lM] at V;rcases V with rfl | rfl
  .exact ig _ n0 M
  .exact ig _ n1 M
 have U:qS prog (GI [(118,[shA s,.slice b 0 Z.length none],.int .i64 0),(234,[.slice u 0 0 none,.str H],.bool false),(234,[.slice u 0 1 none,.str I],.bool false),(235,[shA s,.slice b 0 Z.length none,.slice r1 0 Z.length none],.tuple [.bool true,.int .i64 0])] (fun M=>∃ext,M=m++ext)):=GJ fun e V M hM=>by
  obtain⟨ext,rfl⟩:=hM;simp only[lM] at V;rcases V with rfl | rfl | rfl | rfl
  .exact qD s Z hZ hl hn _ b o1 o2 o3 (L ext) (G ext) (F ext)
  .exact gi _ u 0 o4 [H,I] H (R ext) (by simp) (by simp) (by simp)
  .exact gi _ u 1 o4 [H,I] I (R ext) (by simp) (by simp) (by simp[W])
  .have:=qB s Z J hZ Y (by omega) hn Z2 aaU (m++ext) b r1 o1 o2 o3 q1 (L ext) (G ext) (F ext) (O ext)
   rw[show J.length=Z.length by omega] at this;exact this
 have C:=qS.or' X U;clear X U;refine dj (lv:=ly) (K:=5) C ?_;clear C;obtain⟨N,hN⟩:=xE Z.length;simp only[<-hN] at D |-;simp[aa,ahf,f155,y9.or,ag,fD,GI,shA,GL,ba,ga,ly,stC,R,D,w1,w2]
theorem Hn(H I J:List UInt8)(n0:H∈k8)(n1:I∈k8)(n2:J∈k8)(d01:I≠H)(d02:J≠H)(d12:J≠I)(Z:List Int)(hZ:∀z∈Z,z.natAbs<1000)(hl:Z.length<=1000)(hn:Z.length=s.P.length)(W Y:List Int)(hY1:∀z∈W,z.natAbs<1000)(Z2:W.length=s.P.length)(aaU:∀(i:Nat) z y,Z[i]? =some z->W[i]? =some y->z<=y)(hY2:∀z∈Y,z.natAbs<1000)(Zc:Y.length=s.P.length)(ZU:∀(i:Nat) z y,W[i]? =some z->Y[i]? =some y->z<=y)(m:Mem)(b u c r1 r2:Nat)(o1 o2 o3 o4 o5 q1 q2:Bool)(hp:m[0]? =some (.cells o1 2 (pC s.P)))(hq:m[1]? =some (.cells o2 3 (tC s.T)))(hb:m[b]? =some (.cells o3 1 (qC (qH Z))))(hu:m[u]? =some (.cells o4 1 (stC [H,I,J])))(hc:m[c]? =some (.cells o5 1 [.slice r1 0 Z.length none,.slice r2 0 Z.length none]))(ZZ:m[r1]? =some (.cells q1 1 (qC (qH W))))(Zz:m[r2]? =some (.cells q2 1 (qC (qH Y)))):
  kO prog 155 [shA s,.agg (GL nm (.slice b 0 Z.length none) (.slice u 0 3 none) (.slice c 0 2 none))] m (.int .i64 0) m:=by
 have j:=gL hp;have lq:=gL hq;have lb:=gL hb;have lu:=gL hu;have lc:=gL hc;have O:=gL ZZ;have L:=gL Zz;have G:=fun ext:Mem=>(GE (l₂:=ext) j).trans hp
 have F:=fun ext:Mem=>(GE (l₂:=ext) lq).trans hq
 have C:=fun ext:Mem=>(GE (l₂:=ext) lb).trans hb
 have R:=fun ext:Mem=>(GE (l₂:=ext) lu).trans hu
 have B:=fun ext:Mem=>(GE (l₂:=ext) lc).trans hc
 have X:=fun ext:Mem=>(GE (l₂:=ext) O).trans ZZ
 have D:=fun ext:Mem=>(GE (l₂:=ext) L).trans Zz
 have V:qS prog (ag (fD [(71,[.str H],.int .i64 0),(71,[.str I],.int .i64 0),(71,[.str J],.int .i64 0)])):=ic fun e U M=>by
  simp only[lM] at U;rcases U with rfl | rfl | rfl
  .exact ig _ n0 M
  .exact ig _ n1 M
  .exact ig _ n2 M
 have S:qS prog (GI [(118,[shA s,.slice b 0 Z.length none],.int .i64 0),(234,[.slice u 0 0 none,.str H],.bool false),(234,[.slice u 0 1 none,.str I],.bool false),(234,[.slice u 0 2 none,.str J],.bool false),(235,[shA s,.slice b 0 Z.length none,.slice r1 0 Z.length none],.tuple [.bool true,.int .i64 0]),(235,[shA s,.slice r1 0 Z.length none,.slice r2 0 Z.length none],.tuple [.bool true,.int .i64 0])] (fun M=>∃ext,M=m++ext)):=GJ fun e U M hM=>by
  obtain⟨ext,rfl⟩:=hM;simp only[lM] at U;rcases U with rfl | rfl | rfl | rfl | rfl | rfl
  .exact qD s Z hZ hl hn _ b o1 o2 o3 (G ext) (F ext) (C ext)
  .exact gi _ u 0 o4 [H,I,J] H (R ext) (by simp) (by simp) (by simp)
  .exact gi _ u 1 o4 [H,I,J] I (R ext) (by simp) (by simp) (by simp[d01])
  .exact gi _ u 2 o4 [H,I,J] J (R ext) (by simp) (by simp) (by simp[d02,d12])
  .have:=qB s Z W hZ hY1 (by omega) hn Z2 aaU (m++ext) b r1 o1 o2 o3 q1 (G ext) (F ext) (C ext) (X ext)
   rw[show W.length=Z.length by omega] at this;exact this
  .have:=qB s W Y hY1 hY2 (by omega) Z2 Zc ZU (m++ext) r1 r2 o1 o2 q1 q2 (G ext) (F ext) (X ext) (D ext)
   rw[show Y.length=Z.length by omega,show W.length=Z.length by omega] at this;exact this
 have o:=qS.or' V S;clear V S;refine dj (lv:=ly) (K:=5) o ?_;clear o;obtain⟨N,hN⟩:=xE Z.length;simp only[<-hN] at B |-;simp[aa,ahf,f155,y9.or,ag,fD,GI,shA,GL,ba,ga,ly,stC,R,B,w1,w2,w3]
end
variable{i:Nat}
theorem Mi{L:List (List UInt8)}{s:List UInt8}(h:L[i]? =some s):(stC L)[i]? =some (.str s):=by simp[stC,h]
theorem Wu(Q:List Rat):qC Q=stC (Q.map ao):=by simp[qC,stC]
def aft(N:Mem)(v:AV)(es n:Nat)(C:List AV):Prop:=(v=.qF/\n=0/\C=[])\/∃b o,v=.slice b 0 n none/\0<n/\N[b]? =some (.cells o es C)
variable{N:Mem}{n:Nat}{v:AV}
theorem aft.more{es:Nat}{C:List AV}(h:aft N v es n C)(Z:Mem):aft (N++Z) v es n C:=by
 rcases h with h | ⟨b,o,X,V,h3⟩
 .exact .inl h
 .exact .inr ⟨b,o,X,V,gU h3 _⟩
theorem jI:∀l:List (List UInt8×List UInt8),AV.afm (kC l)=true
 | []=>rfl
 |k::l=>by simp[kC,AV.afm,AV.closed,jI l]
theorem ahg:fv [0,0,3,7,0,0,48,112,255] 8=true:=by decide
variable{b:Code}
theorem Kv{K:Nat}(L:List (List UInt8))(I:L.length<=1000)(J:L.length<K)(H:ah f122=[b]):
  ∃F:Env->Bool->Env,∀Z d,(ae Z 0=.slice 0 0 L.length none/\ae Z 1=.slice 1 0 L.length none/\ae Z 12=.int .i64 L.length/\ae Z 13=.int .i64 0)->
   aU (bd prog) (fun _=>[13]) cP K 26 2 true (.loop b) ⟨Z,[.cells false 1 (stC L),.cells false 1 (stC L)],d⟩=some (.exit 0,⟨F Z d,[.cells false 1 (stC L),.cells false 1 (stC L)],d⟩)/\True:=by
 refine bl (L:=[13]) rfl (fun Z=>ae Z 0=.slice 0 0 L.length none/\ae Z 1=.slice 1 0 L.length none/\ae Z 12=.int .i64 L.length/\ae Z 13=.int .i64 0) (fun _ _=>True) ?_;rintro Z d ⟨h0,h1,h12,h13⟩;obtain⟨U,X⟩:∃U,aI f122=U:=⟨_,rfl⟩
 have S:=cG X (ls:=[[0,0,3,7,0,0,48,112,255]]) (by kernel_rfl);simp only[aI,ca,f122,List.nil_append,List.append_nil] at X;subst X;simp only[lB] at S;have e:=fun d=>lz d
 simp[ah,aE,f122] at H;have R:aw [13] (ad b) Z ((13,.int .i64 ((0:Nat):Int))::Z)=aw [13] (ad b) Z Z:=by simp[aw,h13]
 rw[<-R];refine bG (α:=Nat) (fun n=>⟨aw [13] (ad b) Z ((13,.int .i64 (n:Int))::Z),[.cells false 1 (stC L),.cells false 1 (stC L)],d⟩) (fun n=>L.length-n) (fun n=>n<=L.length) (.exit 0) _ d _ (by simp) ?_ K 0 (by omega) (by omega);rintro n C;clear R;subst H;by_cases V:n<L.length
 .obtain⟨z,O⟩:∃z,L[n]? =some z:=⟨L[n],GT V⟩
  have M:=Mi O;have G:=lJ L;have w1:IntKind.i64.wrap ((n:Int)+1)=((n+1:Nat):Int):=by rw[af];omega
  have B:n*1+1<=(stC L).length:=by omega
  clear G;left;obtain⟨v,D⟩:=xE (n+1);rw[<-D] at w1;refine⟨v,?_⟩;simp[-aG,an S,bD,bt,bB,ahg,h0,h1,h12,V,M,w1];omega
 .right
  simp[h12,V]
theorem UE(L:List (List UInt8))(H:L.length<=1000):
  kO prog 122 [.slice 0 0 L.length none,.slice 1 0 L.length none] [.cells false 1 (stC L),.cells false 1 (stC L)] (.bool true) [.cells false 1 (stC L),.cells false 1 (stC L)]:=by
 have V:aX prog 122=some f122:=by kernel_rfl
 obtain⟨b,Z⟩:∃b,ah f122=[b]:=⟨_,rfl⟩
 obtain⟨F,X⟩:=Kv (K:=L.length+1) L H (by omega) Z;have U:=fun S d R O h3 M=>(X S d ⟨R,O,h3,M⟩).1
 clear X;simp[ah,aE,f122] at Z;subst Z;refine dj (lv:=(fun _=>[13])) (K:=(L.length+1)) (az _) ?_;simp[aa,V,f122,U]
theorem UF(M:Mem):kO prog 122 [.qF,.qF] M (.bool true) M:=by
 have Z:aX prog 122=some f122:=by kernel_rfl
 refine de (az _) (lv:=fun _=>[13]) (K:=3) rfl rfl ?_ M;simp[aa,Z,f122,ba,ga]
theorem WB{M:Mem}{x y:AV}{L:List (List UInt8)}(I:L.length<=1000)(J:aft M x 1 L.length (stC L))(H:aft M y 1 L.length (stC L)):kO prog 122 [x,y] M (.bool true) M:=by
 rcases J with⟨rfl,V,_⟩ | ⟨b,o,rfl,O,U⟩
 .rcases H with⟨rfl,_,_⟩ | ⟨Z,X,_,S,_⟩
  .exact UF M
  .omega
 .rcases H with⟨_,V,_⟩ | ⟨Z,X,rfl,_,R⟩
  .omega
  .exact kO.agN (rest:=[]) (ea L) (ea L) rfl rfl (UE L I) ⟨b,o,_,rfl,U,P1⟩ ⟨Z,X,_,rfl,R,P1⟩
theorem Kw{K:Nat}(L:List (List UInt8×List UInt8))(I:L.length<=1000)(J:L.length<K)(H:ah f75=[b]):
  ∃F:Env->Bool->Env,∀Z d,(ae Z 0=.slice 0 0 L.length none/\ae Z 1=.slice 1 0 L.length none/\ae Z 12=.int .i64 L.length/\ae Z 13=.int .i64 0)->
   aU (bd prog) (fun _=>[13]) cP K 26 2 true (.loop b) ⟨Z,[.cells false 2 (kC L),.cells false 2 (kC L)],d⟩=some (.exit 0,⟨F Z d,[.cells false 2 (kC L),.cells false 2 (kC L)],d⟩)/\True:=by
 refine bl (L:=[13]) rfl (fun Z=>ae Z 0=.slice 0 0 L.length none/\ae Z 1=.slice 1 0 L.length none/\ae Z 12=.int .i64 L.length/\ae Z 13=.int .i64 0) (fun _ _=>True) ?_;rintro Z d ⟨h0,h1,h12,h13⟩;obtain⟨U,X⟩:∃U,aI f75=U:=⟨_,rfl⟩
 have S:=cG X (ls:=[[0,0,3,7,0,0,48,112,255]]) (by kernel_rfl);simp only[aI,ca,f75,List.nil_append,List.append_nil] at X;subst X;simp only[lB] at S;have e:=fun d=>Nf d
 simp[ah,aE,f75] at H;have R:aw [13] (ad b) Z ((13,.int .i64 ((0:Nat):Int))::Z)=aw [13] (ad b) Z Z:=by simp[aw,h13]
 rw[<-R];refine bG (α:=Nat) (fun n=>⟨aw [13] (ad b) Z ((13,.int .i64 (n:Int))::Z),[.cells false 2 (kC L),.cells false 2 (kC L)],d⟩) (fun n=>L.length-n) (fun n=>n<=L.length) (.exit 0) _ d _ (by simp) ?_ K 0 (by omega) (by omega);rintro n B;clear R;subst H;by_cases V:n<L.length
 .obtain⟨z,O⟩:∃z,L[n]? =some z:=⟨L[n],GT V⟩
  have M:=(VF O).1;have G:=n9 L;have w1:IntKind.i64.wrap ((n:Int)+1)=((n+1:Nat):Int):=by rw[af];omega
  have D:n*2+2<=(kC L).length:=by omega
  clear G;left;obtain⟨v,C⟩:=xE (n+1);rw[<-C] at w1;refine⟨v,?_⟩;simp[-aG,an S,bD,bt,bB,ahg,h0,h1,h12,V,M,D,w1,e];omega
 .right
  simp[h12,V]
theorem UH(L:List (List UInt8×List UInt8))(H:L.length<=1000):
  kO prog 75 [.slice 0 0 L.length none,.slice 1 0 L.length none] [.cells false 2 (kC L),.cells false 2 (kC L)] (.bool true) [.cells false 2 (kC L),.cells false 2 (kC L)]:=by
 have V:aX prog 75=some f75:=by kernel_rfl
 obtain⟨b,Z⟩:∃b,ah f75=[b]:=⟨_,rfl⟩
 obtain⟨F,X⟩:=Kw (K:=L.length+1) L H (by omega) Z;have U:=fun S d R O h3 M=>(X S d ⟨R,O,h3,M⟩).1
 clear X;simp[ah,aE,f75] at Z;subst Z;refine dj (lv:=(fun _=>[13])) (K:=(L.length+1)) (az _) ?_;simp[aa,V,f75,U]
theorem UI(M:Mem):kO prog 75 [.qF,.qF] M (.bool true) M:=by
 have Z:aX prog 75=some f75:=by kernel_rfl
 refine de (az _) (lv:=fun _=>[13]) (K:=3) rfl rfl ?_ M;simp[aa,Z,f75,ba,ga]
theorem WC{M:Mem}{x y:AV}{L:List (List UInt8×List UInt8)}(I:L.length<=1000)(J:aft M x 2 L.length (kC L))(H:aft M y 2 L.length (kC L)):kO prog 75 [x,y] M (.bool true) M:=by
 rcases J with⟨rfl,V,_⟩ | ⟨b,o,rfl,O,U⟩
 .rcases H with⟨rfl,_,_⟩ | ⟨Z,X,_,S,_⟩
  .exact UI M
  .omega
 .rcases H with⟨_,V,_⟩ | ⟨Z,X,rfl,_,R⟩
  .omega
  .exact kO.agN (rest:=[]) (jI L) (jI L) rfl rfl (UH L I) ⟨b,o,_,rfl,U,P1⟩ ⟨Z,X,_,rfl,R,P1⟩
theorem Kx{K:Nat}(L:List (List UInt8))(I:L.length<=1000)(J:L.length<K)(H:ah f73=[b]):
  ∃F:Env->Bool->Env,∀Z d,(ae Z 0=.slice 0 0 L.length none/\ae Z 1=.slice 1 0 L.length none/\ae Z 12=.int .i64 L.length/\ae Z 13=.int .i64 0)->
   aU (bd prog) (fun _=>[13]) cP K 26 2 true (.loop b) ⟨Z,[.cells false 1 (stC L),.cells false 1 (stC L)],d⟩=some (.exit 0,⟨F Z d,[.cells false 1 (stC L),.cells false 1 (stC L)],d⟩)/\True:=by
 refine bl (L:=[13]) rfl (fun Z=>ae Z 0=.slice 0 0 L.length none/\ae Z 1=.slice 1 0 L.length none/\ae Z 12=.int .i64 L.length/\ae Z 13=.int .i64 0) (fun _ _=>True) ?_;rintro Z d ⟨h0,h1,h12,h13⟩;obtain⟨U,X⟩:∃U,aI f73=U:=⟨_,rfl⟩
 have S:=cG X (ls:=[[0,0,3,7,0,0,48,112,255]]) (by kernel_rfl);simp only[aI,ca,f73,List.nil_append,List.append_nil] at X;subst X;simp only[lB] at S;have e:=fun d x y=>Bg d x y
 simp[ah,aE,f73] at H;have R:aw [13] (ad b) Z ((13,.int .i64 ((0:Nat):Int))::Z)=aw [13] (ad b) Z Z:=by simp[aw,h13]
 rw[<-R];refine bG (α:=Nat) (fun n=>⟨aw [13] (ad b) Z ((13,.int .i64 (n:Int))::Z),[.cells false 1 (stC L),.cells false 1 (stC L)],d⟩) (fun n=>L.length-n) (fun n=>n<=L.length) (.exit 0) _ d _ (by simp) ?_ K 0 (by omega) (by omega);rintro n C;clear R;subst H;by_cases V:n<L.length
 .obtain⟨z,O⟩:∃z,L[n]? =some z:=⟨L[n],GT V⟩
  have M:=Mi O;have G:=lJ L;have w1:IntKind.i64.wrap ((n:Int)+1)=((n+1:Nat):Int):=by rw[af];omega
  have B:n*1+1<=(stC L).length:=by omega
  clear G;left;obtain⟨v,D⟩:=xE (n+1);rw[<-D] at w1;refine⟨v,?_⟩;simp[-aG,an S,bD,bt,bB,ahg,h0,h1,h12,V,M,w1];omega
 .right
  simp[h12,V]
theorem UJ(L:List (List UInt8))(H:L.length<=1000):
  kO prog 73 [.slice 0 0 L.length none,.slice 1 0 L.length none] [.cells false 1 (stC L),.cells false 1 (stC L)] (.bool true) [.cells false 1 (stC L),.cells false 1 (stC L)]:=by
 have V:aX prog 73=some f73:=by kernel_rfl
 obtain⟨b,Z⟩:∃b,ah f73=[b]:=⟨_,rfl⟩
 obtain⟨F,X⟩:=Kx (K:=L.length+1) L H (by omega) Z;have U:=fun S d R O h3 M=>(X S d ⟨R,O,h3,M⟩).1
 clear X;simp[ah,aE,f73] at Z;subst Z;refine dj (lv:=(fun _=>[13])) (K:=(L.length+1)) (az _) ?_;simp[aa,V,f73,U]
theorem UK(M:Mem):kO prog 73 [.qF,.qF] M (.bool true) M:=by
 have Z:aX prog 73=some f73:=by kernel_rfl
 refine de (az _) (lv:=fun _=>[13]) (K:=3) rfl rfl ?_ M;simp[aa,Z,f73,ba,ga]
theorem WD{M:Mem}{x y:AV}{L:List (List UInt8)}(I:L.length<=1000)(J:aft M x 1 L.length (stC L))(H:aft M y 1 L.length (stC L)):kO prog 73 [x,y] M (.bool true) M:=by
 rcases J with⟨rfl,V,_⟩ | ⟨b,o,rfl,O,U⟩
 .rcases H with⟨rfl,_,_⟩ | ⟨Z,X,_,S,_⟩
  .exact UK M
  .omega
 .rcases H with⟨_,V,_⟩ | ⟨Z,X,rfl,_,R⟩
  .omega
  .exact kO.agN (rest:=[]) (ea L) (ea L) rfl rfl (UJ L I) ⟨b,o,_,rfl,U,P1⟩ ⟨Z,X,_,rfl,R,P1⟩
theorem Bu{M:Mem}{x y:AV}{L:List (List UInt8)}(H:L.length<=1000)(I:aft M x 1 L.length (stC L))(J:aft M y 1 L.length (stC L)):kO prog 72 [x,y] M (.bool true) M:=by
 have X:aX prog 72=some f72:=by kernel_rfl
 have Z:qS prog (fR 122 [x,y] (.bool true) (fun N=>N=M)):=gC fun N V=>by subst V;exact WB H I J
 refine iS Z ?_;clear Z;simp[aa,X,f72,fR]
def agF(N:Mem)(v:AV)(S:List (List (List UInt8))):Prop:=∃Z,Z.length=S.length/\aft N v 1 S.length Z/\∀(i:Nat) x L,Z[i]? =some x->S[i]? =some L->aft N x 1 L.length (stC L)
theorem agF.more{S:List (List (List UInt8))}(h:agF N v S)(Z:Mem):agF (N++Z) v S:=by obtain⟨X,V,U,h3⟩:=h;exact⟨X,V,U.more Z,fun i x L a b=>(h3 i x L a b).more Z⟩
noncomputable def Gh(vs H:List AV)(m:Mem):y9:=qt fun c a N r=>∃(i:Nat) (x y:AV),vs[i]? =some x/\H[i]? =some y/\c=.fn 72/\a=[x,y]/\N=m/\r=⟨.bool true,none,[]⟩
variable{m:Mem}{vs ws:List AV}
theorem NP{x y:AV}(h1:vs[i]? =some x)(h2:ws[i]? =some y):Gh vs ws m (.fn 72) [x,y] m=some ⟨.bool true,none,[]⟩:=
 fj ⟨i,x,y,h1,h2,rfl,rfl,rfl,rfl⟩ fun r' ⟨_,_,_,_,_,_,_,_,h⟩=>h
variable{w:AV}
theorem KA(lv:vs.length=n)(W:ws.length=n)(I:aft m v 1 n vs)(J:aft m w 1 n ws)(Y:n<=1000){K m0:Nat}(hK:n<K)(H:ah f123=[b]):
  ∃F:Env->Bool->Env,∀Z d,(ae Z 15=v/\ae Z 1=w/\ae Z 2=.func 72 []/\ae Z 16=.int .i64 n/\ae Z 17=.int .i64 0)->
   aU (bd prog) (fun _=>[17,17,17]) (Gh vs ws m) K 32 m0 true (.loop b) ⟨Z,m,d⟩=some (.exit 0,⟨F Z d,m,d⟩)/\True:=by
 refine bl rfl (fun Z=>ae Z 15=v/\ae Z 1=w/\ae Z 2=.func 72 []/\ae Z 16=.int .i64 n/\ae Z 17=.int .i64 0) (fun _ _=>True) ?_;rintro Z d ⟨h15,h1,h2,h16,h17⟩;simp[ah,aE,f123] at H;have U:aw [17,17,17] (ad b) Z ((17,.int .i64 ((0:Nat):Int))::Z)=aw [17,17,17] (ad b) Z Z:=by simp[aw,h17]
 rw[<-U];refine bG (α:=Nat) (fun i=>⟨aw [17,17,17] (ad b) Z ((17,.int .i64 (i:Int))::Z),m,d⟩) (fun i=>n-i) (fun i=>i<=n) (.exit 0) _ d _ (by simp) ?_ K 0 (by omega) (by omega);rintro i B;clear U;by_cases S:i<n
 .obtain⟨x,X⟩:∃x,vs[i]? =some x:=⟨_,GT (by omega)⟩
  obtain⟨y,V⟩:∃y,ws[i]? =some y:=⟨_,GT (by omega)⟩
  have w1:IntKind.i64.wrap ((i:Int)+1)=((i+1:Nat):Int):=by rw[af];omega
  have R:=NP (m:=m) X V;have O:=gL X;have M:=gL V;have L :∀h,vs[i]'h=x:=fun h=>by rw[GT h] at X;exact ZQ X
  have G :∀h,ws[i]'h=y:=fun h=>by rw[GT h] at V;exact ZQ V
  rcases I with⟨_,h,_⟩ | ⟨u,o,rfl,_,D⟩
  .omega
  rcases J with⟨_,h,_⟩ | ⟨j,o2,rfl,_,C⟩
  .omega
  left;refine⟨i+1,?_⟩;refine bC (show i+1<=n/\n-(i+1)<n-i from⟨by omega,by omega⟩) ?_;subst H;simp[h15,h1,h2,h16,S,D,C,L,G,O,M,R,w1]
 .right
  subst H;simp[h16,S]
section
variable{S:List (List (List UInt8))}(hv:agF m v S)(hw:agF m w S)(hl:S.length<=1000)(hS:∀L∈S,L.length<=1000)
include S hv hw hl hS
theorem UG:
  kO prog 123 [v,w,.func 72 []] m (.bool true) m:=by
 have G:aX prog 123=some f123:=by kernel_rfl
 obtain⟨vs,D,r1,C⟩:=hv;obtain⟨ws,B,r2,u⟩:=hw;have R:qS prog (Gh vs ws m):=tn fun c a N r j=>by
  obtain⟨i,x,y,O,Y,rfl,rfl,rfl,rfl⟩:=j;have H:=gL O;obtain⟨L,X⟩:∃L,S[i]? =some L:=⟨_,GT (by omega)⟩
  exact bH (Bu (hS L (J1 X)) (C i x L O X) (u i y L Y X))
 obtain⟨b,V⟩:∃b,ah f123=[b]:=⟨_,rfl⟩
 obtain⟨F,M⟩:=KA (m0:=m.length) (K:=S.length+1) D B r1 r2 hl (by omega) V;have W:=fun J d h=>(M J d h).1
 clear M;simp[ah,aE,f123] at V;subst V;have I:∀Z,WI (bd prog) 49 Z v=some (.int .i64 S.length):=fun Z =>by
  rcases r1 with⟨rfl,h,_⟩ | ⟨b,o,rfl,_⟩
  .rw[h];simp
  .simp
 have U:∀Z,WI (bd prog) 49 Z w=some (.int .i64 S.length):=fun Z =>by
  rcases r2 with⟨rfl,h,_⟩ | ⟨b,o,rfl,_⟩
  .rw[h];simp
  .simp
 refine dj (lv:=(fun _=>[17,17,17])) (K:=(S.length+1)) R ?_;clear R;simp[-WI,I,U,aa,G,f123,W]
theorem QQ:kO prog 74 [v,w] m (.bool true) m:=by
 have X:aX prog 74=some f74:=by kernel_rfl
 have Z:qS prog (fR 123 [v,w,.func 72 []] (.bool true) (fun N=>N=m)):=gC fun N V=>by subst V;exact UG hv hw hl hS
 refine iS Z ?_;clear Z;simp[aa,X,f74,fR]
end
structure Evc.Ok (c:Evc):Prop where
 B:c.B.length<=1000
 U:c.U.length<=1000
 S:c.S.length<=2
 SL:∀L∈c.S,L.length<=1000
 K:c.K.length<=1000
def af8(N:Mem)(H:List AV)(c:Evc):Prop:=∃b u s Z,H=c.cells b u s Z/\aft N b 1 c.B.length (stC c.B)/\aft N u 1 c.U.length (stC c.U)/\agF N s c.S/\aft N Z 2 c.K.length (kC c.K)
variable{c:Evc}
theorem af8.more{H:List AV}(h:af8 N H c)(Z:Mem):af8 (N++Z) H c:=by obtain⟨b,u,s,X,V,U,h3,S,R⟩:=h;exact⟨b,u,s,X,V,U.more Z,h3.more Z,S.more Z,R.more Z⟩
def vM(b I u J s s' W H :AV)(m:Mem)(c:Go.Eng.Callee)(a:List AV)(N:Mem)(r:afh):Prop:=(∃Z,N=m++Z)/\((c=.fn 72/\a=[b,I])\/(c=.fn 73/\a=[u,J])\/(c=.fn 74/\a=[s,s'])\/(c=.fn 75/\a=[W,H]))/\r=⟨.bool true,none,[]⟩
theorem PO{e H :List AV}(hc:c.Ok)(h:af8 m e c)(h' :af8 m H c):kO prog 26 [.agg e,.agg H] m (.bool true) m:=by
 obtain⟨b,u,s,V,rfl,F,D,h3,C⟩:=h;obtain⟨R,O,M,X,rfl,o,j,Y,W⟩:=h';have J:qS prog (qt (vM b R u O s M V X m)):=tn fun f a N r L=>by
  obtain⟨⟨Z,rfl⟩,L,rfl⟩:=L;rcases L with⟨rfl,rfl⟩ | ⟨rfl,rfl⟩ | ⟨rfl,rfl⟩ | ⟨rfl,rfl⟩
  .exact bH (Bu hc.B (F.more Z) (o.more Z))
  .exact bH (WD hc.U (D.more Z) (j.more Z))
  .exact bH (QQ (h3.more Z) (Y.more Z) (by have:=hc.S;omega) hc.SL)
  .exact bH (WC hc.K (C.more Z) (W.more Z))
 exact PQ J (fj (S:=vM b R u O s M V X m) ⟨⟨_,rfl⟩,.inl ⟨rfl,rfl⟩,rfl⟩ fun G h=>h.2.2) (fj (S:=vM b R u O s M V X m) ⟨⟨_,rfl⟩,.inr (.inl ⟨rfl,rfl⟩),rfl⟩ fun G h=>h.2.2)
  (fj (S:=vM b R u O s M V X m) ⟨⟨_,rfl⟩,.inr (.inr (.inl ⟨rfl,rfl⟩)),rfl⟩ fun G h=>h.2.2) (fj (S:=vM b R u O s M V X m) ⟨⟨_,rfl⟩,.inr (.inr (.inr ⟨rfl,rfl⟩)),rfl⟩ fun G h=>h.2.2)
theorem Aw(H:c.B=[])(I:c.U=[])(hS:c.S=[])(J:c.K.length<=1000):c.Ok:=⟨by simp[H],by simp[I],by simp[hS],by simp[hS],J⟩
def hT(Z:List Int):List (List UInt8):=(qH Z).map ao
end Go.Proofs
