/- See G38. -/
import Derived.Test.YthpgbelancmpjaaGreatDoorG26
set_option linter.all false
set_option maxRecDepth 100000
set_option maxHeartbeats 40000000
namespace Go.Proofs
open Go.Eng
open Tryz
def AR(s:List UInt8):Nat->List (List UInt8)->Int
 |_,[]=> -1
 |i,x::l=>if s=x then (i:Int) else AR s (i+1) l
theorem Pn{s:List UInt8}:∀{i:Nat} {l:List (List UInt8)},AR s i l<0↔s∉l
 |i,[]=>by simp[AR]
 |i,x::l=>by
  unfold AR;by_cases h:s=x
  .rw[if_pos h];simp[h]
  .rw[if_neg h,Pn];simp[h]
theorem Tz{s:List UInt8}:∀{i:Nat} {l:List (List UInt8)},-1<=AR s i l
 |i,[]=>by unfold AR;omega
 |i,x::l=>by
  unfold AR;split
  .omega
  .exact Tz
theorem Bt{O:y9}{K:Nat}(L:List (List UInt8))(s:List UInt8)(I:L.length<=1000000000)(J:L.length<K){b:Code}(H:ag f273=[b]):
  ∃F:Env->Bool->Env,∀Z d,(ad Z 0=.slice 0 0 L.length none/\ad Z 1=.str s/\ad Z 7=.int .i64 L.length/\ad Z 8=.int .i64 0)->
   aL (aX prog) (fun _=>[8]) O K 19 1 true (.loop b) ⟨Z,[.cells false 1 (stC L)],d⟩=some (if AR s 0 L<0 then .exit 0 else .ret,⟨F Z d,[.cells false 1 (stC L)],d⟩)/\
    (¬AR s 0 L<0->ad (F Z d) 4=.int .i64 (AR s 0 L)):=by
 refine bj rfl (fun Z=>ad Z 0=.slice 0 0 L.length none/\ad Z 1=.str s/\ad Z 7=.int .i64 L.length/\ad Z 8=.int .i64 0) (fun _ C =>¬AR s 0 L<0->ad C 4=.int .i64 (AR s 0 L)) ?_;rintro Z d ⟨h0,X,h7,h8⟩;simp[ag,aE,f273] at H;have N:an [8] (aa b) Z ((8,.int .i64 ((0:Nat):Int))::Z)=an [8] (aa b) Z Z:=by simp[an,h8]
 rw[<-N];have M:(stC L).length=L.length:=oz L;refine bI (α:=Nat) (fun n=>⟨an [8] (aa b) Z ((8,.int .i64 (n:Int))::Z),[.cells false 1 (stC L)],d⟩) (fun n=>L.length-n) (fun n=>n<=L.length/\AR s 0 L=AR s n (L.drop n)) _ _ d _ (by split<;>simp) ?_ K 0 ⟨by omega,by rw[List.drop_zero]⟩ (by omega);rintro n ⟨hn1,he⟩;clear N;subst H;by_cases V:n<L.length
 .obtain⟨x,S⟩:∃x,L[n]? =some x:=⟨L[n],G2 V⟩
  have G:∀h,(stC L)[n]'h=.str x:=fun h=>by have:=PH S;rw[G2 h] at this;exact QQX this
  have B:L.drop n=x::L.drop (n+1):=by rw[O2] at S;obtain⟨X,u⟩:=S;rw[<-u];exact N0 X
  rw[B,AR] at he;have w1:IntKind.i64.wrap ((n:Int)+1)=((n+1:Nat):Int):=by rw[af];omega
  by_cases U:s=x
  .right
   rw[if_pos U] at he;subst U;have R:¬(n:Int)<0:=by omega
   rw[he,if_neg R];simp[h0,X,h7,V,M,G]
  .left
   rw[if_neg U] at he;have H:(s==x)=false:=by simpa using U
   refine⟨n+1,?_⟩;refine bt (show(n+1<=L.length/\AR s 0 L=AR s (n+1) (L.drop (n+1)))/\L.length-(n+1)<L.length-n from⟨⟨by omega,he⟩,by omega⟩) ?_;simp[h0,X,h7,V,M,G,H,w1]
 .right
  have e:L.drop n=[]:=ZN (by omega);rw[e,AR] at he;rw[he,if_pos (by decide)];simp[h7,V]
theorem HG(L:List (List UInt8))(s:List UInt8)(H:L.length<=1000000000):
  kO prog 273 [.slice 0 0 L.length none,.str s] [.cells false 1 (stC L)] (.int .i64 (AR s 0 L)) [.cells false 1 (stC L)]:=by
 have R:aZ prog 273=some f273:=by kernel_rfl
 obtain⟨b,V⟩:∃b,ag f273=[b]:=⟨_,rfl⟩
 obtain⟨F,Z⟩:=Bt (O:=cO) (K:=L.length+1) L s H (by omega) V;simp[ag,aE,f273] at V;subst V;refine dv (lv:=(fun _=>[8])) (K:=(L.length+1)) (az _) ?_;by_cases U:AR s 0 L<0
 .rw[if_pos U] at Z
  have S:=fun X d h=>(Z X d h).1
  clear Z;have N:AR s 0 L= -1:=by have:=Tz (s:=s) (i:=0) (l:=L);omega
  rw[N];simp[ae,R,f273,S]
 .rw[if_neg U] at Z
  have S:=fun X d h=>(Z X d h).1
  have M:=fun X d h=>(Z X d h).2 U
  clear Z;simp[ae,R,f273,S,M]
theorem Dy(s:List UInt8)(M:Mem):kO prog 273 [.qF,.str s] M (.int .i64 (-1)) M:=by
 have Z:aZ prog 273=some f273:=by kernel_rfl
 refine dc (az _) (lv:=fun _=>[8]) (K:=1) rfl rfl ?_ M;simp[ae,Z,f273,aM,fj]
variable{L:List (List UInt8)}{M:Mem}{x:AV}
theorem HF(s:List UInt8)(H:L.length<=1000000000)(I:sts M x=some L):kO prog 273 [x,.str s] M (.int .i64 (AR s 0 L)) M:=by
 rcases Wf I with h | ⟨rfl,rfl⟩
 .exact kO.ag3 (rest:=[.str s]) (eF L) rfl rfl (HG L s H) h
 .exact Dy s M
noncomputable def Gj:y9:=fun c Z M=>match c,Z with
 |.fn 273,[x,.str s]=>match sts M x with
  |some L=>if L.length<=1000000000 then some ⟨.int .i64 (AR s 0 L),none,[]⟩ else none
  |none=>none
 |c,Z=>cO c Z M
theorem QM:qS prog Gj:=by
 refine cw fun c Z M r h=>?_
 unfold Gj at h;split at h
 .split at h
  .rename_i L X
   split at h
   .rename_i V
    cases h;refine au ?_;rw[List.append_nil];exact HF _ V X
   .cases h
  .cases h
 .exact ee (az _) h
theorem A9(s:List UInt8)(H:L.length<=1000000000)(I:sts M x=some L):kO prog 234 [x,.str s] M (.bool (decide (s∈L))) M:=by
 have Z:aZ prog 234=some f234:=by kernel_rfl
 have X:decide (0<=AR s 0 L)=decide (s∈L):=by
  rw[decide_eq_decide];have:=Pn (s:=s) (i:=0) (l:=L);by_cases h:s∈L
  .simp only[h,iff_true]
   exact Int.not_lt.1 fun e=>this.1 e h
  .simp only[h,iff_false]
   have:=this.2 h;omega
 refine nG QM ?_;rw[<-X];simp[ae,Z,f234,Gj,I,H]
end Go.Proofs
namespace Go.Proofs
open Go.Eng
open Tryz
open Classical in
noncomputable def GW(L:List (FuncId×List AV×AV))(p:Mem->Prop):y9:=fun c a M=>if p M then ah (eR L) c a M else none
theorem GX{P:Program}{L:List (FuncId×List AV×AV)}{p:Mem->Prop}(h:∀x∈L,∀M,p M->kO P x.1 x.2.1 M x.2.2 M):qS P (GW L p):=by
 have k:∀f a v,eR L f a=some v->∃x∈L,f=x.1/\a=x.2.1/\v=x.2.2:=by
  clear h;intro f a v X;induction L with
  |nil=>simp[eR] at X
  |cons x L ih=>
   rw[eR] at X;split at X
   .rename_i N
    cases X;exact⟨x,by simp,N.1,N.2,rfl⟩
   .obtain⟨y,K,V⟩:=ih X
    exact⟨y,by simp[K],V⟩
 have U:∀c a M r,GW L p c a M=some r->p M/\∃f,c=.fn f/\∃x∈L,f=x.1/\a=x.2.1/\r=⟨x.2.2,none,[]⟩:=by
  intro c a M r Z;unfold GW at Z;split at Z
  .rename_i S
   refine⟨S,?_⟩;unfold ah at Z;split at Z
   .rename_i f
    split at Z
    .rename_i v X
     cases Z;obtain⟨x,R,V,G,h3⟩:=k _ _ _ X;exact⟨f,rfl,x,R,V,G,by rw[h3]⟩
    .cases Z
   .cases Z
  .cases Z
 refine⟨fun f a M r Z=>?_,fun b a M r Z=>?_,fun c a M r q Z F=>?_⟩
 .obtain⟨S,g,O,x,R,V,rfl,rfl⟩:=U _ _ _ _ Z
  cases O;subst V;simpa [afl.mem] using h x R M S
 .obtain⟨_,g,O,_⟩:=U _ _ _ _ Z
  cases O
 .obtain⟨_,g,_,x,_,_,_,rfl⟩:=U _ _ _ _ Z
  cases F
def lx(c:Code):List Nat:=if (aa c).contains 35 then [35] else [10,65]
theorem gj(M:Mem)(u k:Nat)(o:Bool)(U:List (List UInt8))(s:List UInt8)(H:M[u]? =some (.cells o 1 (stC U)))(I:k<=U.length)(J:U.length<=3)(hs:s∉U.take k):
  kO prog 234 [.slice u 0 k none,.str s] M (.bool false) M:=by
 have h:sts M (.slice u 0 k none)=some (U.take k):=by
  have Z:(stC U).take (k*1)=stC (U.take k):=by simp[stC,List.map_take]
  unfold sts;rw[SS H (by rw[oz];omega) Z];exact Up _
 have:=A9 (M:=M) s (by rw[SP];omega) h
 rwa [decide_eq_false hs] at this
theorem ahj:aZ prog 155=some f155:=by kernel_rfl
section
variable (s:afv)(nm:List UInt8)
include s nm
theorem Hy(H:List UInt8)(n0:H∈lf)(Z:List Int)(hZ:∀z∈Z,z.natAbs<1000)(hl:Z.length<=1000)(hn:Z.length=s.P.length)(m:Mem)(b u:Nat)(o1 o2 o3 o4:Bool)(J:m[0]? =some (.cells o1 2 (pC s.P)))(hq:m[1]? =some (.cells o2 3 (tC s.T)))(I:m[b]? =some (.cells o3 1 (qC (qH Z))))(Y:m[u]? =some (.cells o4 1 (stC [H]))):
  kO prog 155 [shA s,.agg (G0 nm (.slice b 0 Z.length none) (.slice u 0 1 none) (.qF))] m (.int .i64 0) m:=by
 have O:=gL J;have L:=gL hq;have G:=gL I;have F:=gL Y;have C:=fun ext:Mem=>(GT (l₂:=ext) O).trans J
 have B:=fun ext:Mem=>(GT (l₂:=ext) L).trans hq
 have o:=fun ext:Mem=>(GT (l₂:=ext) G).trans I
 have S:=fun ext:Mem=>(GT (l₂:=ext) F).trans Y
 have X:qS prog (ah (eR [(71,[.str H],.int .i64 0)])):=gi fun e V M=>by simp only[lM] at V;rcases V with rfl;exact ib _ n0 M
 have U:qS prog (GW [(118,[shA s,.slice b 0 Z.length none],.int .i64 0),(234,[.slice u 0 0 none,.str H],.bool false)] (fun M=>∃ext,M=m++ext)):=GX fun e V M j=>by
  obtain⟨ext,rfl⟩:=j;simp only[lM] at V;rcases V with rfl | rfl
  .exact qG s Z hZ hl hn _ b o1 o2 o3 (C ext) (B ext) (o ext)
  .exact gj _ u 0 o4 [H] H (S ext) (by simp) (by simp) (by simp)
 have R:=qS.or' X U;clear X U;refine dv (lv:=lx) (K:=5) R ?_;clear R;obtain⟨N,hN⟩:=xE Z.length;simp only[<-hN] at I |-;simp[ae,ahj,f155,y9.or,ah,eR,GW,shA,G0,aM,fj,lx,stC,S,w0,w1]
theorem Hz(H I:List UInt8)(n0:H∈lf)(n1:I∈lf)(d01:I≠H)(Z:List Int)(hZ:∀z∈Z,z.natAbs<1000)(hl:Z.length<=1000)(hn:Z.length=s.P.length)(J:List Int)(hY1:∀z∈J,z.natAbs<1000)(hl1:J.length=s.P.length)(abW:∀(i:Nat) z y,Z[i]? =some z->J[i]? =some y->z<=y)(m:Mem)(b u c r1:Nat)(o1 o2 o3 o4 o5 q1:Bool)(hp:m[0]? =some (.cells o1 2 (pC s.P)))(hq:m[1]? =some (.cells o2 3 (tC s.T)))(hb:m[b]? =some (.cells o3 1 (qC (qH Z))))(hu:m[u]? =some (.cells o4 1 (stC [H,I])))(hc:m[c]? =some (.cells o5 1 [.slice r1 0 Z.length none]))(Y:m[r1]? =some (.cells q1 1 (qC (qH J)))):
  kO prog 155 [shA s,.agg (G0 nm (.slice b 0 Z.length none) (.slice u 0 2 none) (.slice c 0 1 none))] m (.int .i64 0) m:=by
 have o:=gL hp;have j:=gL hq;have lb:=gL hb;have lu:=gL hu;have lc:=gL hc;have S:=gL Y;have L:=fun ext:Mem=>(GT (l₂:=ext) o).trans hp
 have G:=fun ext:Mem=>(GT (l₂:=ext) j).trans hq
 have F:=fun ext:Mem=>(GT (l₂:=ext) lb).trans hb
 have R:=fun ext:Mem=>(GT (l₂:=ext) lu).trans hu
 have C:=fun ext:Mem=>(GT (l₂:=ext) lc).trans hc
 have O:=fun ext:Mem=>(GT (l₂:=ext) S).trans Y
 have X:qS prog (ah (eR [(71,[.str H],.int .i64 0),(71,[.str I],.int .i64 0)])):=gi fun e V M=>by
  simp only[lM] at V;rcases V with rfl | rfl
  .exact ib _ n0 M
  .exact ib _ n1 M
 have U:qS prog (GW [(118,[shA s,.slice b 0 Z.length none],.int .i64 0),(234,[.slice u 0 0 none,.str H],.bool false),(234,[.slice u 0 1 none,.str I],.bool false),(235,[shA s,.slice b 0 Z.length none,.slice r1 0 Z.length none],.tuple [.bool true,.int .i64 0])] (fun M=>∃ext,M=m++ext)):=GX fun e V M hM=>by
  obtain⟨ext,rfl⟩:=hM;simp only[lM] at V;rcases V with rfl | rfl | rfl | rfl
  .exact qG s Z hZ hl hn _ b o1 o2 o3 (L ext) (G ext) (F ext)
  .exact gj _ u 0 o4 [H,I] H (R ext) (by simp) (by simp) (by simp)
  .exact gj _ u 1 o4 [H,I] I (R ext) (by simp) (by simp) (by simp[d01])
  .have:=qE s Z J hZ hY1 (by omega) hn hl1 abW (m++ext) b r1 o1 o2 o3 q1 (L ext) (G ext) (F ext) (O ext)
   rw[show J.length=Z.length by omega] at this;exact this
 have B:=qS.or' X U;clear X U;refine dv (lv:=lx) (K:=5) B ?_;clear B;obtain⟨N,hN⟩:=xE Z.length;simp only[<-hN] at C |-;simp[ae,ahj,f155,y9.or,ah,eR,GW,shA,G0,aM,fj,lx,stC,R,C,w1,w2]
theorem HA(H I J:List UInt8)(n0:H∈lf)(n1:I∈lf)(n2:J∈lf)(d01:I≠H)(d02:J≠H)(d12:J≠I)(Z:List Int)(hZ:∀z∈Z,z.natAbs<1000)(hl:Z.length<=1000)(hn:Z.length=s.P.length)(Y Y2:List Int)(hY1:∀z∈Y,z.natAbs<1000)(hl1:Y.length=s.P.length)(abW:∀(i:Nat) z y,Z[i]? =some z->Y[i]? =some y->z<=y)(hY2:∀z∈Y2,z.natAbs<1000)(ZB:Y2.length=s.P.length)(aah:∀(i:Nat) z y,Y[i]? =some z->Y2[i]? =some y->z<=y)(m:Mem)(b u c r1 r2:Nat)(o1 o2 o3 o4 o5 q1 q2:Bool)(hp:m[0]? =some (.cells o1 2 (pC s.P)))(hq:m[1]? =some (.cells o2 3 (tC s.T)))(hb:m[b]? =some (.cells o3 1 (qC (qH Z))))(hu:m[u]? =some (.cells o4 1 (stC [H,I,J])))(hc:m[c]? =some (.cells o5 1 [.slice r1 0 Z.length none,.slice r2 0 Z.length none]))(hr1:m[r1]? =some (.cells q1 1 (qC (qH Y))))(ZX:m[r2]? =some (.cells q2 1 (qC (qH Y2)))):
  kO prog 155 [shA s,.agg (G0 nm (.slice b 0 Z.length none) (.slice u 0 3 none) (.slice c 0 2 none))] m (.int .i64 0) m:=by
 have lp:=gL hp;have lq:=gL hq;have lb:=gL hb;have lu:=gL hu;have lc:=gL hc;have O:=gL hr1;have L:=gL ZX;have G:=fun ext:Mem=>(GT (l₂:=ext) lp).trans hp
 have F:=fun ext:Mem=>(GT (l₂:=ext) lq).trans hq
 have B:=fun ext:Mem=>(GT (l₂:=ext) lb).trans hb
 have R:=fun ext:Mem=>(GT (l₂:=ext) lu).trans hu
 have o:=fun ext:Mem=>(GT (l₂:=ext) lc).trans hc
 have X:=fun ext:Mem=>(GT (l₂:=ext) O).trans hr1
 have C:=fun ext:Mem=>(GT (l₂:=ext) L).trans ZX
 have V:qS prog (ah (eR [(71,[.str H],.int .i64 0),(71,[.str I],.int .i64 0),(71,[.str J],.int .i64 0)])):=gi fun e U M=>by
  simp only[lM] at U;rcases U with rfl | rfl | rfl
  .exact ib _ n0 M
  .exact ib _ n1 M
  .exact ib _ n2 M
 have S:qS prog (GW [(118,[shA s,.slice b 0 Z.length none],.int .i64 0),(234,[.slice u 0 0 none,.str H],.bool false),(234,[.slice u 0 1 none,.str I],.bool false),(234,[.slice u 0 2 none,.str J],.bool false),(235,[shA s,.slice b 0 Z.length none,.slice r1 0 Z.length none],.tuple [.bool true,.int .i64 0]),(235,[shA s,.slice r1 0 Z.length none,.slice r2 0 Z.length none],.tuple [.bool true,.int .i64 0])] (fun M=>∃ext,M=m++ext)):=GX fun e U M hM=>by
  obtain⟨ext,rfl⟩:=hM;simp only[lM] at U;rcases U with rfl | rfl | rfl | rfl | rfl | rfl
  .exact qG s Z hZ hl hn _ b o1 o2 o3 (G ext) (F ext) (B ext)
  .exact gj _ u 0 o4 [H,I,J] H (R ext) (by simp) (by simp) (by simp)
  .exact gj _ u 1 o4 [H,I,J] I (R ext) (by simp) (by simp) (by simp[d01])
  .exact gj _ u 2 o4 [H,I,J] J (R ext) (by simp) (by simp) (by simp[d02,d12])
  .have:=qE s Z Y hZ hY1 (by omega) hn hl1 abW (m++ext) b r1 o1 o2 o3 q1 (G ext) (F ext) (B ext) (X ext)
   rw[show Y.length=Z.length by omega] at this;exact this
  .have:=qE s Y Y2 hY1 hY2 (by omega) hl1 ZB aah (m++ext) r1 r2 o1 o2 q1 q2 (G ext) (F ext) (X ext) (C ext)
   rw[show Y2.length=Z.length by omega,show Y.length=Z.length by omega] at this;exact this
 have j:=qS.or' V S;clear V S;refine dv (lv:=lx) (K:=5) j ?_;clear j;obtain⟨N,hN⟩:=xE Z.length;simp only[<-hN] at o |-;simp[ae,ahj,f155,y9.or,ah,eR,GW,shA,G0,aM,fj,lx,stC,R,o,w1,w2,w3]
end
variable{i:Nat}
theorem PH{L:List (List UInt8)}{s:List UInt8}(h:L[i]? =some s):(stC L)[i]? =some (.str s):=by simp[stC,h]
theorem WC(Q:List Rat):qC Q=stC (Q.map aq):=by simp[qC,stC]
def afw(N:Mem)(v:AV)(es n:Nat)(C:List AV):Prop:=(v=.qF/\n=0/\C=[])\/∃b o,v=.slice b 0 n none/\0<n/\N[b]? =some (.cells o es C)
variable{N:Mem}{n:Nat}{v:AV}
theorem afw.more{es:Nat}{C:List AV}(h:afw N v es n C)(Z:Mem):afw (N++Z) v es n C:=by
 rcases h with h | ⟨b,o,X,V,h3⟩
 .exact .inl h
 .exact .inr ⟨b,o,X,V,gU h3 _⟩
theorem kR:∀l:List (List UInt8×List UInt8),AV.afr (kC l)=true
 | []=>rfl
 |k::l=>by simp[kC,AV.afr,AV.closed,kR l]
theorem ahk:fu [0,0,3,7,0,0,48,112,255] 8=true:=by decide
variable{b:Code}
theorem KJ{K:Nat}(L:List (List UInt8))(I:L.length<=1000)(J:L.length<K)(H:ag f122=[b]):
  ∃F:Env->Bool->Env,∀Z d,(ad Z 0=.slice 0 0 L.length none/\ad Z 1=.slice 1 0 L.length none/\ad Z 12=.int .i64 L.length/\ad Z 13=.int .i64 0)->
   aL (aX prog) (fun _=>[13]) cO K 26 2 true (.loop b) ⟨Z,[.cells false 1 (stC L),.cells false 1 (stC L)],d⟩=some (.exit 0,⟨F Z d,[.cells false 1 (stC L),.cells false 1 (stC L)],d⟩)/\True:=by
 refine bj (L:=[13]) rfl (fun Z=>ad Z 0=.slice 0 0 L.length none/\ad Z 1=.slice 1 0 L.length none/\ad Z 12=.int .i64 L.length/\ad Z 13=.int .i64 0) (fun _ _=>True) ?_;rintro Z d ⟨h0,h1,h12,h13⟩;obtain⟨U,X⟩:∃U,aJ f122=U:=⟨_,rfl⟩
 have S:=cG X (ls:=[[0,0,3,7,0,0,48,112,255]]) (by kernel_rfl);simp only[aJ,cB,f122,List.nil_append,List.append_nil] at X;subst X;simp only[lB] at S;have e:=fun d=>ly d
 simp[ag,aE,f122] at H;have R:an [13] (aa b) Z ((13,.int .i64 ((0:Nat):Int))::Z)=an [13] (aa b) Z Z:=by simp[an,h13]
 rw[<-R];refine bI (α:=Nat) (fun n=>⟨an [13] (aa b) Z ((13,.int .i64 (n:Int))::Z),[.cells false 1 (stC L),.cells false 1 (stC L)],d⟩) (fun n=>L.length-n) (fun n=>n<=L.length) (.exit 0) _ d _ (by simp) ?_ K 0 (by omega) (by omega);rintro n O;clear R;subst H;by_cases V:n<L.length
 .obtain⟨z,M⟩:∃z,L[n]? =some z:=⟨L[n],G2 V⟩
  have G:=PH M;have C:=oz L;have w1:IntKind.i64.wrap ((n:Int)+1)=((n+1:Nat):Int):=by rw[af];omega
  have u:n*1+1<=(stC L).length:=by omega
  clear C;left;obtain⟨v,B⟩:=xE (n+1);rw[<-B] at w1;refine⟨v,?_⟩;simp[-aR,aC S,bV,bK,bQ,ahk,h0,h1,h12,V,G,w1];omega
 .right
  simp[h12,V]
theorem UR(L:List (List UInt8))(H:L.length<=1000):
  kO prog 122 [.slice 0 0 L.length none,.slice 1 0 L.length none] [.cells false 1 (stC L),.cells false 1 (stC L)] (.bool true) [.cells false 1 (stC L),.cells false 1 (stC L)]:=by
 have V:aZ prog 122=some f122:=by kernel_rfl
 obtain⟨b,Z⟩:∃b,ag f122=[b]:=⟨_,rfl⟩
 obtain⟨F,X⟩:=KJ (K:=L.length+1) L H (by omega) Z;have U:=fun S d R O h3 M=>(X S d ⟨R,O,h3,M⟩).1
 clear X;simp[ag,aE,f122] at Z;subst Z;refine dv (lv:=(fun _=>[13])) (K:=(L.length+1)) (az _) ?_;simp[ae,V,f122,U]
theorem US(M:Mem):kO prog 122 [.qF,.qF] M (.bool true) M:=by
 have Z:aZ prog 122=some f122:=by kernel_rfl
 refine dc (az _) (lv:=fun _=>[13]) (K:=3) rfl rfl ?_ M;simp[ae,Z,f122,aM,fj]
theorem WL{M:Mem}{x y:AV}{L:List (List UInt8)}(I:L.length<=1000)(J:afw M x 1 L.length (stC L))(H:afw M y 1 L.length (stC L)):kO prog 122 [x,y] M (.bool true) M:=by
 rcases J with⟨rfl,V,_⟩ | ⟨b,o,rfl,O,U⟩
 .rcases H with⟨rfl,_,_⟩ | ⟨Z,X,_,S,_⟩
  .exact US M
  .omega
 .rcases H with⟨_,V,_⟩ | ⟨Z,X,rfl,_,R⟩
  .omega
  .exact kO.agQ (rest:=[]) (eF L) (eF L) rfl rfl (UR L I) ⟨b,o,_,rfl,U,P1⟩ ⟨Z,X,_,rfl,R,P1⟩
theorem KK{K:Nat}(L:List (List UInt8×List UInt8))(I:L.length<=1000)(J:L.length<K)(H:ag f75=[b]):
  ∃F:Env->Bool->Env,∀Z d,(ad Z 0=.slice 0 0 L.length none/\ad Z 1=.slice 1 0 L.length none/\ad Z 12=.int .i64 L.length/\ad Z 13=.int .i64 0)->
   aL (aX prog) (fun _=>[13]) cO K 26 2 true (.loop b) ⟨Z,[.cells false 2 (kC L),.cells false 2 (kC L)],d⟩=some (.exit 0,⟨F Z d,[.cells false 2 (kC L),.cells false 2 (kC L)],d⟩)/\True:=by
 refine bj (L:=[13]) rfl (fun Z=>ad Z 0=.slice 0 0 L.length none/\ad Z 1=.slice 1 0 L.length none/\ad Z 12=.int .i64 L.length/\ad Z 13=.int .i64 0) (fun _ _=>True) ?_;rintro Z d ⟨h0,h1,h12,h13⟩;obtain⟨U,X⟩:∃U,aJ f75=U:=⟨_,rfl⟩
 have S:=cG X (ls:=[[0,0,3,7,0,0,48,112,255]]) (by kernel_rfl);simp only[aJ,cB,f75,List.nil_append,List.append_nil] at X;subst X;simp only[lB] at S;have e:=fun d=>Nn d
 simp[ag,aE,f75] at H;have R:an [13] (aa b) Z ((13,.int .i64 ((0:Nat):Int))::Z)=an [13] (aa b) Z Z:=by simp[an,h13]
 rw[<-R];refine bI (α:=Nat) (fun n=>⟨an [13] (aa b) Z ((13,.int .i64 (n:Int))::Z),[.cells false 2 (kC L),.cells false 2 (kC L)],d⟩) (fun n=>L.length-n) (fun n=>n<=L.length) (.exit 0) _ d _ (by simp) ?_ K 0 (by omega) (by omega);rintro n O;clear R;subst H;by_cases V:n<L.length
 .obtain⟨z,M⟩:∃z,L[n]? =some z:=⟨L[n],G2 V⟩
  have G:=(W9 M).1;have C:=Cu L;have w1:IntKind.i64.wrap ((n:Int)+1)=((n+1:Nat):Int):=by rw[af];omega
  have B:n*2+2<=(kC L).length:=by omega
  clear C;left;obtain⟨v,u⟩:=xE (n+1);rw[<-u] at w1;refine⟨v,?_⟩;simp[-aR,aC S,bV,bK,bQ,ahk,h0,h1,h12,V,G,B,w1,e];omega
 .right
  simp[h12,V]
theorem UU(L:List (List UInt8×List UInt8))(H:L.length<=1000):
  kO prog 75 [.slice 0 0 L.length none,.slice 1 0 L.length none] [.cells false 2 (kC L),.cells false 2 (kC L)] (.bool true) [.cells false 2 (kC L),.cells false 2 (kC L)]:=by
 have V:aZ prog 75=some f75:=by kernel_rfl
 obtain⟨b,Z⟩:∃b,ag f75=[b]:=⟨_,rfl⟩
 obtain⟨F,X⟩:=KK (K:=L.length+1) L H (by omega) Z;have U:=fun S d R O h3 M=>(X S d ⟨R,O,h3,M⟩).1
 clear X;simp[ag,aE,f75] at Z;subst Z;refine dv (lv:=(fun _=>[13])) (K:=(L.length+1)) (az _) ?_;simp[ae,V,f75,U]
theorem UW(M:Mem):kO prog 75 [.qF,.qF] M (.bool true) M:=by
 have Z:aZ prog 75=some f75:=by kernel_rfl
 refine dc (az _) (lv:=fun _=>[13]) (K:=3) rfl rfl ?_ M;simp[ae,Z,f75,aM,fj]
theorem WM{M:Mem}{x y:AV}{L:List (List UInt8×List UInt8)}(I:L.length<=1000)(J:afw M x 2 L.length (kC L))(H:afw M y 2 L.length (kC L)):kO prog 75 [x,y] M (.bool true) M:=by
 rcases J with⟨rfl,V,_⟩ | ⟨b,o,rfl,O,U⟩
 .rcases H with⟨rfl,_,_⟩ | ⟨Z,X,_,S,_⟩
  .exact UW M
  .omega
 .rcases H with⟨_,V,_⟩ | ⟨Z,X,rfl,_,R⟩
  .omega
  .exact kO.agQ (rest:=[]) (kR L) (kR L) rfl rfl (UU L I) ⟨b,o,_,rfl,U,P1⟩ ⟨Z,X,_,rfl,R,P1⟩
theorem KL{K:Nat}(L:List (List UInt8))(I:L.length<=1000)(J:L.length<K)(H:ag f73=[b]):
  ∃F:Env->Bool->Env,∀Z d,(ad Z 0=.slice 0 0 L.length none/\ad Z 1=.slice 1 0 L.length none/\ad Z 12=.int .i64 L.length/\ad Z 13=.int .i64 0)->
   aL (aX prog) (fun _=>[13]) cO K 26 2 true (.loop b) ⟨Z,[.cells false 1 (stC L),.cells false 1 (stC L)],d⟩=some (.exit 0,⟨F Z d,[.cells false 1 (stC L),.cells false 1 (stC L)],d⟩)/\True:=by
 refine bj (L:=[13]) rfl (fun Z=>ad Z 0=.slice 0 0 L.length none/\ad Z 1=.slice 1 0 L.length none/\ad Z 12=.int .i64 L.length/\ad Z 13=.int .i64 0) (fun _ _=>True) ?_;rintro Z d ⟨h0,h1,h12,h13⟩;obtain⟨U,X⟩:∃U,aJ f73=U:=⟨_,rfl⟩
 have S:=cG X (ls:=[[0,0,3,7,0,0,48,112,255]]) (by kernel_rfl);simp only[aJ,cB,f73,List.nil_append,List.append_nil] at X;subst X;simp only[lB] at S;have e:=fun d x y=>Br d x y
 simp[ag,aE,f73] at H;have R:an [13] (aa b) Z ((13,.int .i64 ((0:Nat):Int))::Z)=an [13] (aa b) Z Z:=by simp[an,h13]
 rw[<-R];refine bI (α:=Nat) (fun n=>⟨an [13] (aa b) Z ((13,.int .i64 (n:Int))::Z),[.cells false 1 (stC L),.cells false 1 (stC L)],d⟩) (fun n=>L.length-n) (fun n=>n<=L.length) (.exit 0) _ d _ (by simp) ?_ K 0 (by omega) (by omega);rintro n O;clear R;subst H;by_cases V:n<L.length
 .obtain⟨z,M⟩:∃z,L[n]? =some z:=⟨L[n],G2 V⟩
  have G:=PH M;have C:=oz L;have w1:IntKind.i64.wrap ((n:Int)+1)=((n+1:Nat):Int):=by rw[af];omega
  have u:n*1+1<=(stC L).length:=by omega
  clear C;left;obtain⟨v,B⟩:=xE (n+1);rw[<-B] at w1;refine⟨v,?_⟩;simp[-aR,aC S,bV,bK,bQ,ahk,h0,h1,h12,V,G,w1];omega
 .right
  simp[h12,V]
theorem UX(L:List (List UInt8))(H:L.length<=1000):
  kO prog 73 [.slice 0 0 L.length none,.slice 1 0 L.length none] [.cells false 1 (stC L),.cells false 1 (stC L)] (.bool true) [.cells false 1 (stC L),.cells false 1 (stC L)]:=by
 have V:aZ prog 73=some f73:=by kernel_rfl
 obtain⟨b,Z⟩:∃b,ag f73=[b]:=⟨_,rfl⟩
 obtain⟨F,X⟩:=KL (K:=L.length+1) L H (by omega) Z;have U:=fun S d R O h3 M=>(X S d ⟨R,O,h3,M⟩).1
 clear X;simp[ag,aE,f73] at Z;subst Z;refine dv (lv:=(fun _=>[13])) (K:=(L.length+1)) (az _) ?_;simp[ae,V,f73,U]
theorem UY(M:Mem):kO prog 73 [.qF,.qF] M (.bool true) M:=by
 have Z:aZ prog 73=some f73:=by kernel_rfl
 refine dc (az _) (lv:=fun _=>[13]) (K:=3) rfl rfl ?_ M;simp[ae,Z,f73,aM,fj]
theorem WN{M:Mem}{x y:AV}{L:List (List UInt8)}(I:L.length<=1000)(J:afw M x 1 L.length (stC L))(H:afw M y 1 L.length (stC L)):kO prog 73 [x,y] M (.bool true) M:=by
 rcases J with⟨rfl,V,_⟩ | ⟨b,o,rfl,O,U⟩
 .rcases H with⟨rfl,_,_⟩ | ⟨Z,X,_,S,_⟩
  .exact UY M
  .omega
 .rcases H with⟨_,V,_⟩ | ⟨Z,X,rfl,_,R⟩
  .omega
  .exact kO.agQ (rest:=[]) (eF L) (eF L) rfl rfl (UX L I) ⟨b,o,_,rfl,U,P1⟩ ⟨Z,X,_,rfl,R,P1⟩
theorem BF{M:Mem}{x y:AV}{L:List (List UInt8)}(H:L.length<=1000)(I:afw M x 1 L.length (stC L))(J:afw M y 1 L.length (stC L)):kO prog 72 [x,y] M (.bool true) M:=by
 have X:aZ prog 72=some f72:=by kernel_rfl
 have Z:qS prog (jF 122 [x,y] (.bool true) (fun N=>N=M)):=kx fun N V=>by subst V;exact WL H I J
 refine nG Z ?_;clear Z;simp[ae,X,f72,jF]
def agI(N:Mem)(v:AV)(S:List (List (List UInt8))):Prop:=∃Z,Z.length=S.length/\afw N v 1 S.length Z/\∀(i:Nat) x L,Z[i]? =some x->S[i]? =some L->afw N x 1 L.length (stC L)
theorem agI.more{S:List (List (List UInt8))}(h:agI N v S)(Z:Mem):agI (N++Z) v S:=by obtain⟨X,V,U,h3⟩:=h;exact⟨X,V,U.more Z,fun i x L a b=>(h3 i x L a b).more Z⟩
noncomputable def Gx(vs H:List AV)(m:Mem):y9:=jV fun c a N r=>∃(i:Nat) (x y:AV),vs[i]? =some x/\H[i]? =some y/\c=.fn 72/\a=[x,y]/\N=m/\r=⟨.bool true,none,[]⟩
variable{m:Mem}{vs ws:List AV}
theorem NW{x y:AV}(h1:vs[i]? =some x)(h2:ws[i]? =some y):Gx vs ws m (.fn 72) [x,y] m=some ⟨.bool true,none,[]⟩:=
 dL ⟨i,x,y,h1,h2,rfl,rfl,rfl,rfl⟩ fun r' ⟨_,_,_,_,_,_,_,_,h⟩=>h
variable{w:AV}
theorem KO(lv:vs.length=n)(Y:ws.length=n)(I:afw m v 1 n vs)(J:afw m w 1 n ws)(hl:n<=1000){K m0:Nat}(hK:n<K)(H:ag f123=[b]):
  ∃F:Env->Bool->Env,∀Z d,(ad Z 15=v/\ad Z 1=w/\ad Z 2=.func 72 []/\ad Z 16=.int .i64 n/\ad Z 17=.int .i64 0)->
   aL (aX prog) (fun _=>[17,17,17]) (Gx vs ws m) K 32 m0 true (.loop b) ⟨Z,m,d⟩=some (.exit 0,⟨F Z d,m,d⟩)/\True:=by
 refine bj rfl (fun Z=>ad Z 15=v/\ad Z 1=w/\ad Z 2=.func 72 []/\ad Z 16=.int .i64 n/\ad Z 17=.int .i64 0) (fun _ _=>True) ?_;rintro Z d ⟨h15,h1,h2,h16,h17⟩;simp[ag,aE,f123] at H;have S:an [17,17,17] (aa b) Z ((17,.int .i64 ((0:Nat):Int))::Z)=an [17,17,17] (aa b) Z Z:=by simp[an,h17]
 rw[<-S];refine bI (α:=Nat) (fun i=>⟨an [17,17,17] (aa b) Z ((17,.int .i64 (i:Int))::Z),m,d⟩) (fun i=>n-i) (fun i=>i<=n) (.exit 0) _ d _ (by simp) ?_ K 0 (by omega) (by omega);rintro i u;clear S;by_cases R:i<n
 .obtain⟨x,X⟩:∃x,vs[i]? =some x:=⟨_,G2 (by omega)⟩
  obtain⟨y,V⟩:∃y,ws[i]? =some y:=⟨_,G2 (by omega)⟩
  have w1:IntKind.i64.wrap ((i:Int)+1)=((i+1:Nat):Int):=by rw[af];omega
  have O:=NW (m:=m) X V;have M:=gL X;have L:=gL V;have G :∀h,vs[i]'h=x:=fun h=>by rw[G2 h] at X;exact QQX X
  have U :∀h,ws[i]'h=y:=fun h=>by rw[G2 h] at V;exact QQX V
  rcases I with⟨_,h,_⟩ | ⟨o,j,rfl,_,C⟩
  .omega
  rcases J with⟨_,h,_⟩ | ⟨b2,o2,rfl,_,B⟩
  .omega
  left;refine⟨i+1,?_⟩;refine bt (show i+1<=n/\n-(i+1)<n-i from⟨by omega,by omega⟩) ?_;subst H;simp[h15,h1,h2,h16,R,C,B,G,U,M,L,O,w1]
 .right
  subst H;simp[h16,R]
section
variable{S:List (List (List UInt8))}(hv:agI m v S)(hw:agI m w S)(hl:S.length<=1000)(hS:∀L∈S,L.length<=1000)
include S hv hw hl hS
theorem UT:
  kO prog 123 [v,w,.func 72 []] m (.bool true) m:=by
 have G:aZ prog 123=some f123:=by kernel_rfl
 obtain⟨vs,C,r1,B⟩:=hv;obtain⟨ws,u,r2,j⟩:=hw;have R:qS prog (Gx vs ws m):=mX fun c a N r Y=>by
  obtain⟨i,x,y,O,J,rfl,rfl,rfl,rfl⟩:=Y;have FS:=gL O;obtain⟨L,X⟩:∃L,S[i]? =some L:=⟨_,G2 (by omega)⟩
  exact bz (BF (hS L (J1 X)) (B i x L O X) (j i y L J X))
 obtain⟨b,V⟩:∃b,ag f123=[b]:=⟨_,rfl⟩
 obtain⟨F,M⟩:=KO (m0:=m.length) (K:=S.length+1) C u r1 r2 hl (by omega) V;have I:=fun H d h=>(M H d h).1
 clear M;simp[ag,aE,f123] at V;subst V;have Zz:∀Z,WS (aX prog) 49 Z v=some (.int .i64 S.length):=fun Z =>by
  rcases r1 with⟨rfl,h,_⟩ | ⟨b,o,rfl,_⟩
  .rw[h];simp
  .simp
 have U:∀Z,WS (aX prog) 49 Z w=some (.int .i64 S.length):=fun Z =>by
  rcases r2 with⟨rfl,h,_⟩ | ⟨b,o,rfl,_⟩
  .rw[h];simp
  .simp
 refine dv (lv:=(fun _=>[17,17,17])) (K:=(S.length+1)) R ?_;clear R;simp[-WS,Zz,U,ae,G,f123,I]
theorem QY:kO prog 74 [v,w] m (.bool true) m:=by
 have X:aZ prog 74=some f74:=by kernel_rfl
 have Z:qS prog (jF 123 [v,w,.func 72 []] (.bool true) (fun N=>N=m)):=kx fun N V=>by subst V;exact UT hv hw hl hS
 refine nG Z ?_;clear Z;simp[ae,X,f74,jF]
end
structure Evc.Ok (c:Evc):Prop where
 B:c.B.length<=1000
 U:c.U.length<=1000
 S:c.S.length<=2
 SL:∀L∈c.S,L.length<=1000
 K:c.K.length<=1000
def agc(N:Mem)(ev:List AV)(c:Evc):Prop:=∃b u s Z,ev=c.cells b u s Z/\afw N b 1 c.B.length (stC c.B)/\afw N u 1 c.U.length (stC c.U)/\agI N s c.S/\afw N Z 2 c.K.length (kC c.K)
variable{c:Evc}
theorem agc.more{ev:List AV}(h:agc N ev c)(Z:Mem):agc (N++Z) ev c:=by obtain⟨b,u,s,X,V,U,h3,S,R⟩:=h;exact⟨b,u,s,X,V,U.more Z,h3.more Z,S.more Z,R.more Z⟩
def vU(b I u J s s' Y H :AV)(m:Mem)(c:Go.Eng.Callee)(a:List AV)(N:Mem)(r:afl):Prop:=(∃Z,N=m++Z)/\((c=.fn 72/\a=[b,I])\/(c=.fn 73/\a=[u,J])\/(c=.fn 74/\a=[s,s'])\/(c=.fn 75/\a=[Y,H]))/\r=⟨.bool true,none,[]⟩
theorem P0{e H :List AV}(hc:c.Ok)(h:agc m e c)(h' :agc m H c):kO prog 26 [.agg e,.agg H] m (.bool true) m:=by
 obtain⟨b,u,s,V,rfl,F,C,h3,o⟩:=h;obtain⟨R,O,M,X,rfl,j,Y,J,I⟩:=h';have hO:qS prog (jV (vU b R u O s M V X m)):=mX fun f a N r L=>by
  obtain⟨⟨Z,rfl⟩,L,rfl⟩:=L;rcases L with⟨rfl,rfl⟩ | ⟨rfl,rfl⟩ | ⟨rfl,rfl⟩ | ⟨rfl,rfl⟩
  .exact bz (BF hc.B (F.more Z) (j.more Z))
  .exact bz (WN hc.U (C.more Z) (Y.more Z))
  .exact bz (QY (h3.more Z) (J.more Z) (by have:=hc.S;omega) hc.SL)
  .exact bz (WM hc.K (o.more Z) (I.more Z))
 exact P4 hO (dL (S:=vU b R u O s M V X m) ⟨⟨_,rfl⟩,.inl ⟨rfl,rfl⟩,rfl⟩ fun G h=>h.2.2) (dL (S:=vU b R u O s M V X m) ⟨⟨_,rfl⟩,.inr (.inl ⟨rfl,rfl⟩),rfl⟩ fun G h=>h.2.2)
  (dL (S:=vU b R u O s M V X m) ⟨⟨_,rfl⟩,.inr (.inr (.inl ⟨rfl,rfl⟩)),rfl⟩ fun G h=>h.2.2) (dL (S:=vU b R u O s M V X m) ⟨⟨_,rfl⟩,.inr (.inr (.inr ⟨rfl,rfl⟩)),rfl⟩ fun G h=>h.2.2)
theorem AJ(H:c.B=[])(I:c.U=[])(hS:c.S=[])(J:c.K.length<=1000):c.Ok:=⟨by simp[H],by simp[I],by simp[hS],by simp[hS],J⟩
def hT(Z:List Int):List (List UInt8):=(qH Z).map aq
end Go.Proofs
