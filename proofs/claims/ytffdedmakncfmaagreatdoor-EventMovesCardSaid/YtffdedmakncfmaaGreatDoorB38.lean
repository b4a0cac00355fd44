/- See B54. -/
import Derived.Test.YtffdedmakncfmaaGreatDoorB37
set_option linter.all false
set_option maxRecDepth 100000
set_option maxHeartbeats 40000000
namespace Go.Proofs
open Go.Eng
open Tryz
def AE(s:List UInt8):Nat→List (List UInt8)→Int
 |_,[]=> -1
 |i,x::l=>if s=x then (i:Int) else AE s (i+1) l
theorem OS{s:List UInt8}:∀{i:Nat} {l:List (List UInt8)},AE s i l<0↔s∉l
 |i,[]=>by simp[AE]
 |i,x::l=>by
  unfold AE;by_cases h:s=x
  ·rw[if_pos h];simp[h]
  ·rw[if_neg h,OS];simp[h]
theorem SM{s:List UInt8}:∀{i:Nat} {l:List (List UInt8)},-1≤AE s i l
 |i,[]=>by unfold AE;omega
 |i,x::l=>by
  unfold AE;split
  ·omega
  ·exact SM
theorem Bh{O:ae3}{K:Nat}(L:List (List UInt8))(s:List UInt8)(H:L.length≤1000000000)(I:L.length<K){b:Code}(y:ah f254=[b]):
  ∃F:Env→Bool→Env,∀Z d,(ab Z 0=.slice 0 0 L.length none∧ab Z 1=.str s∧ab Z 7=.int .i64 L.length∧ab Z 8=.int .i64 0)→
   bh (ba prog) (fun _=>[8]) O K 19 1 true (.loop b) ⟨Z,[.cells false 1 (stC L)],d⟩=some (if AE s 0 L<0 then .exit 0 else .ret,⟨F Z d,[.cells false 1 (stC L)],d⟩)∧
    (¬AE s 0 L<0→ab (F Z d) 4=.int .i64 (AE s 0 L)):=by
 refine bj rfl (fun Z=>ab Z 0=.slice 0 0 L.length none∧ab Z 1=.str s∧ab Z 7=.int .i64 L.length∧ab Z 8=.int .i64 0) (fun _ G =>¬AE s 0 L<0→ab G 4=.int .i64 (AE s 0 L)) ?_;rintro Z d ⟨h0,X,h7,h8⟩;simp[ah,aE,f254] at y;have Q:ay [8] (ad b) Z ((8,.int .i64 ((0:Nat):Int))::Z)=ay [8] (ad b) Z Z:=by simp[ay,h8]
 rw[←Q];have N:(stC L).length=L.length:=nS L;refine bx (α:=Nat) (fun n=>⟨ay [8] (ad b) Z ((8,.int .i64 (n:Int))::Z),[.cells false 1 (stC L)],d⟩) (fun n=>L.length-n) (fun n=>n≤L.length∧AE s 0 L=AE s n (L.drop n)) _ _ d _ (by split<;>simp) ?_ K 0 ⟨by omega,by rw[List.drop_zero]⟩ (by omega);rintro n ⟨Zg,he⟩;clear Q;subst y;by_cases V:n<L.length
 ·obtain⟨x,S⟩:∃x,L[n]? =some x:=⟨L[n],List.getElem?_eq_getElem V⟩
  have M:∀h,(stC L)[n]'h=.str x:=fun h=>by have:=Pa S;rw[List.getElem?_eq_getElem h] at this;exact Option.some.inj this
  have D:L.drop n=x::L.drop (n+1):=by rw[List.getElem?_eq_some_iff] at S;obtain⟨X,C⟩:=S;rw[←C];exact List.drop_eq_getElem_cons X
  rw[D,AE] at he;have w1:IntKind.i64.wrap ((n:Int)+1)=((n+1:Nat):Int):=by rw[ae];omega
  by_cases U:s=x
  ·right
   rw[if_pos U] at he;subst U;have R:¬(n:Int)<0:=by omega
   rw[he,if_neg R];simp[h0,X,h7,V,N,M]
  ·left
   rw[if_neg U] at he;have y:(s==x)=false:=by simpa using U
   refine⟨n+1,?_⟩;refine bt (show(n+1≤L.length∧AE s 0 L=AE s (n+1) (L.drop (n+1)))∧L.length-(n+1)<L.length-n from⟨⟨by omega,he⟩,by omega⟩) ?_;simp[h0,X,h7,V,N,M,y,w1]
 ·right
  have e:L.drop n=[]:=List.drop_of_length_le (by omega);rw[e,AE] at he;rw[he,if_pos (by decide)];simp[h7,V]
theorem Hp(L:List (List UInt8))(s:List UInt8)(y:L.length≤1000000000):
  kO prog 254 [.slice 0 0 L.length none,.str s] [.cells false 1 (stC L)] (.int .i64 (AE s 0 L)) [.cells false 1 (stC L)]:=by
 have R:aT prog 254=some f254:=by kernel_rfl
 obtain⟨b,V⟩:∃b,ah f254=[b]:=⟨_,rfl⟩
 obtain⟨F,Z⟩:=Bh (O:=cN) (K:=L.length+1) L s y (by omega) V;simp[ah,aE,f254] at V;subst V;refine cv (lv:=(fun _=>[8])) (K:=(L.length+1)) (ax _) ?_;by_cases U:AE s 0 L<0
 ·rw[if_pos U] at Z
  have S:=fun X d h=>(Z X d h).1
  clear Z;have Q:AE s 0 L= -1:=by have:=SM (s:=s) (i:=0) (l:=L);omega
  rw[Q];simp[aa,R,f254,S]
 ·rw[if_neg U] at Z
  have S:=fun X d h=>(Z X d h).1
  have N:=fun X d h=>(Z X d h).2 U
  clear Z;simp[aa,R,f254,S,N]
theorem Dp(s:List UInt8)(M:Mem):kO prog 254 [.qF,.str s] M (.int .i64 (-1)) M:=by
 have Z:aT prog 254=some f254:=by kernel_rfl
 refine cH (ax _) (lv:=fun _=>[8]) (K:=1) rfl rfl ?_ M;simp[aa,Z,f254,bp,gi]
variable{L:List (List UInt8)}{M:Mem}{x:AV}
theorem Ho(s:List UInt8)(y:L.length≤1000000000)(H:sts M x=some L):kO prog 254 [x,.str s] M (.int .i64 (AE s 0 L)) M:=by
 rcases Vv H with h | ⟨rfl,rfl⟩
 ·exact kO.agz (rest:=[.str s]) (dR L) rfl rfl (Hp L s y) h
 ·exact Dp s M
noncomputable def F1:ae3:=fun c Z M=>match c,Z with
 |.fn 254,[x,.str s]=>match sts M x with
  |some L=>if L.length≤1000000000 then some ⟨.int .i64 (AE s 0 L),none,[]⟩ else none
  |none=>none
 |c,Z=>cN c Z M
theorem Qb:qS prog F1:=by
 refine bZ fun c Z M r h=>?_
 unfold F1 at h;split at h
 ·split at h
  ·rename_i L X
   split at h
   ·rename_i V
    cases h;refine aw ?_;rw[List.append_nil];exact Ho _ V X
   ·cases h
  ·cases h
 ·exact dr (ax _) h
theorem AT(s:List UInt8)(y:L.length≤1000000000)(H:sts M x=some L):kO prog 222 [x,.str s] M (.bool (decide (s∈L))) M:=by
 have Z:aT prog 222=some f222:=by kernel_rfl
 have X:decide (0≤AE s 0 L)=decide (s∈L):=by
  rw[decide_eq_decide];have:=OS (s:=s) (i:=0) (l:=L);by_cases h:s∈L
  ·simp only[h,iff_true]
   exact Int.not_lt.1 fun e=>this.1 e h
  ·simp only[h,iff_false]
   have:=this.2 h;omega
 refine fP Qb ?_;rw[←X];simp[aa,Z,f222,F1,H,y]
end Go.Proofs
namespace Go.Proofs
open Go.Eng
open Tryz
open Classical in
noncomputable def GA(L:List (FuncId×List AV×AV))(p:Mem→Prop):ae3:=fun c a M=>if p M then af (cU L) c a M else none
theorem GB{P:Program}{L:List (FuncId×List AV×AV)}{p:Mem→Prop}(h:∀x∈L,∀M,p M→kO P x.1 x.2.1 M x.2.2 M):qS P (GA L p):=by
 have k:∀f a v,cU L f a=some v→∃x∈L,f=x.1∧a=x.2.1∧v=x.2.2:=by
  clear h;intro f a v X;induction L with
  |nil=>simp[cU] at X
  |cons x L ih=>
   rw[cU] at X;split at X
   ·rename_i O
    cases X;exact⟨x,by simp,O.1,O.2,rfl⟩
   ·obtain⟨y,N,V⟩:=ih X
    exact⟨y,by simp[N],V⟩
 have U:∀c a M r,GA L p c a M=some r→p M∧∃f,c=.fn f∧∃x∈L,f=x.1∧a=x.2.1∧r=⟨x.2.2,none,[]⟩:=by
  intro c a M r Z;unfold GA at Z;split at Z
  ·rename_i S
   refine⟨S,?_⟩;unfold af at Z;split at Z
   ·rename_i f
    split at Z
    ·rename_i v X
     cases Z;obtain⟨x,R,V,K,h3⟩:=k _ _ _ X;exact⟨f,rfl,x,R,V,K,by rw[h3]⟩
    ·cases Z
   ·cases Z
  ·cases Z
 refine⟨fun f a M r Z=>?_,fun b a M r Z=>?_,fun c a M r q Z G=>?_⟩
 ·obtain⟨S,g,Q,x,R,V,rfl,rfl⟩:=U _ _ _ _ Z
  cases Q;subst V;simpa [y9.mem] using h x R M S
 ·obtain⟨_,g,Q,_⟩:=U _ _ _ _ Z
  cases Q
 ·obtain⟨_,g,_,x,_,_,_,rfl⟩:=U _ _ _ _ Z
  cases G
def kA(c:Code):List Nat:=if (ad c).contains 35 then [35] else [10,65]
theorem fm(M:Mem)(u k:Nat)(o:Bool)(U:List (List UInt8))(s:List UInt8)(y:M[u]? =some (.cells o 1 (stC U)))(hk:k≤U.length)(H:U.length≤3)(hs:s∉U.take k):
  kO prog 222 [.slice u 0 k none,.str s] M (.bool false) M:=by
 have h:sts M (.slice u 0 k none)=some (U.take k):=by
  have Z:(stC U).take (k*1)=stC (U.take k):=by simp[stC,List.map_take]
  unfold sts;rw[Se y (by rw[nS];omega) Z];exact TL _
 have:=AT (M:=M) s (by rw[List.length_take];omega) h
 rwa [decide_eq_false hs] at this
theorem ag3:aT prog 159=some f159:=by kernel_rfl
section
variable (s:afh)(nm:List UInt8)
include s nm
theorem Hg(y:List UInt8)(n0:y∈ku)(Z:List Int)(hZ:∀z∈Z,z.natAbs<1000)(hl:Z.length≤1000)(hn:Z.length=s.P.length)(m:Mem)(b u:Nat)(I J W Y:Bool)(hp:m[0]? =some (.cells I 2 (pC s.P)))(hq:m[1]? =some (.cells J 3 (tC s.T)))(H:m[b]? =some (.cells W 1 (qC (qH Z))))(hu:m[u]? =some (.cells Y 1 (stC [y]))):
  kO prog 159 [shA s,.agg (GD nm (.slice b 0 Z.length none) (.slice u 0 1 none) (.qF))] m (.int .i64 0) m:=by
 have Q:=gL hp;have O:=gL hq;have L:=gL H;have G:=gL hu;have F:=fun ext:Mem=>(List.getElem?_append_left (l₂:=ext) Q).trans hp
 have D:=fun ext:Mem=>(List.getElem?_append_left (l₂:=ext) O).trans hq
 have C:=fun ext:Mem=>(List.getElem?_append_left (l₂:=ext) L).trans H
 have U:=fun ext:Mem=>(List.getElem?_append_left (l₂:=ext) G).trans hu
 have X:qS prog (af (cU [(132,[.str y],.int .i64 0)])):=dK fun e V M=>by simp only[lM] at V;rcases V with rfl;exact gj _ n0 M
 have S:qS prog (GA [(221,[shA s,.slice b 0 Z.length none],.int .i64 0),(222,[.slice u 0 0 none,.str y],.bool false)] (fun M=>∃ext,M=m++ext)):=GB fun e V M B=>by
  obtain⟨ext,rfl⟩:=B;simp only[lM] at V;rcases V with rfl | rfl
  ·exact qo s Z hZ hl hn _ b I J W (F ext) (D ext) (C ext)
  ·exact fm _ u 0 Y [y] y (U ext) (by simp) (by simp) (by simp)
 have R:=qS.or' X S;clear X S;refine cv (lv:=kA) (K:=5) R ?_;clear R;obtain⟨N,o⟩:=xE Z.length;simp only[←o] at H ⊢;simp[aa,ag3,f159,ae3.or,af,cU,GA,shA,GD,bp,gi,kA,stC,U,w0,w1]
theorem Hh(H I:List UInt8)(n0:H∈ku)(n1:I∈ku)(W:I≠H)(Z:List Int)(hZ:∀z∈Z,z.natAbs<1000)(hl:Z.length≤1000)(hn:Z.length=s.P.length)(J:List Int)(Y:∀z∈J,z.natAbs<1000)(Y4:J.length=s.P.length)(ZZ:∀(i:Nat) z y,Z[i]? =some z→J[i]? =some y→z≤y)(m:Mem)(b u c r1:Nat)(o1 o2 o3 o4 o5 q1:Bool)(hp:m[0]? =some (.cells o1 2 (pC s.P)))(hq:m[1]? =some (.cells o2 3 (tC s.T)))(hb:m[b]? =some (.cells o3 1 (qC (qH Z))))(hu:m[u]? =some (.cells o4 1 (stC [H,I])))(hc:m[c]? =some (.cells o5 1 [.slice r1 0 Z.length none]))(Y0:m[r1]? =some (.cells q1 1 (qC (qH J)))):
  kO prog 159 [shA s,.agg (GD nm (.slice b 0 Z.length none) (.slice u 0 2 none) (.slice c 0 1 none))] m (.int .i64 0) m:=by
 have C:=gL hp;have B:=gL hq;have o:=gL hb;have j:=gL hu;have lc:=gL hc;have U:=gL Y0;have Q:=fun ext:Mem=>(List.getElem?_append_left (l₂:=ext) C).trans hp
 have O:=fun ext:Mem=>(List.getElem?_append_left (l₂:=ext) B).trans hq
 have L:=fun ext:Mem=>(List.getElem?_append_left (l₂:=ext) o).trans hb
 have S:=fun ext:Mem=>(List.getElem?_append_left (l₂:=ext) j).trans hu
 have G:=fun ext:Mem=>(List.getElem?_append_left (l₂:=ext) lc).trans hc
 have R:=fun ext:Mem=>(List.getElem?_append_left (l₂:=ext) U).trans Y0
 have X:qS prog (af (cU [(132,[.str H],.int .i64 0),(132,[.str I],.int .i64 0)])):=dK fun e V M=>by
  simp only[lM] at V;rcases V with rfl | rfl
  ·exact gj _ n0 M
  ·exact gj _ n1 M
 have F:qS prog (GA [(221,[shA s,.slice b 0 Z.length none],.int .i64 0),(222,[.slice u 0 0 none,.str H],.bool false),(222,[.slice u 0 1 none,.str I],.bool false),(223,[shA s,.slice b 0 Z.length none,.slice r1 0 Z.length none],.tuple [.bool true,.int .i64 0])] (fun M=>∃ext,M=m++ext)):=GB fun e V M hM=>by
  obtain⟨ext,rfl⟩:=hM;simp only[lM] at V;rcases V with rfl | rfl | rfl | rfl
  ·exact qo s Z hZ hl hn _ b o1 o2 o3 (Q ext) (O ext) (L ext)
  ·exact fm _ u 0 o4 [H,I] H (S ext) (by simp) (by simp) (by simp)
  ·exact fm _ u 1 o4 [H,I] I (S ext) (by simp) (by simp) (by simp[W])
  ·have:=qm s Z J hZ Y (by omega) hn Y4 ZZ (m++ext) b r1 o1 o2 o3 q1 (Q ext) (O ext) (L ext) (R ext)
   rw[show J.length=Z.length by omega] at this;exact this
 have D:=qS.or' X F;clear X F;refine cv (lv:=kA) (K:=5) D ?_;clear D;obtain⟨N,hN⟩:=xE Z.length;simp only[←hN] at G ⊢;simp[aa,ag3,f159,ae3.or,af,cU,GA,shA,GD,bp,gi,kA,stC,S,G,w1,w2]
theorem Hj(H I J:List UInt8)(n0:H∈ku)(n1:I∈ku)(n2:J∈ku)(d01:I≠H)(d02:J≠H)(d12:J≠I)(Z:List Int)(hZ:∀z∈Z,z.natAbs<1000)(hl:Z.length≤1000)(hn:Z.length=s.P.length)(W Y:List Int)(hY1:∀z∈W,z.natAbs<1000)(Y4:W.length=s.P.length)(ZZ:∀(i:Nat) z y,Z[i]? =some z→W[i]? =some y→z≤y)(hY2:∀z∈Y,z.natAbs<1000)(Yb:Y.length=s.P.length)(YV:∀(i:Nat) z y,W[i]? =some z→Y[i]? =some y→z≤y)(m:Mem)(b u c r1 r2:Nat)(o1 o2 o3 o4 o5 q1 q2:Bool)(hp:m[0]? =some (.cells o1 2 (pC s.P)))(hq:m[1]? =some (.cells o2 3 (tC s.T)))(hb:m[b]? =some (.cells o3 1 (qC (qH Z))))(hu:m[u]? =some (.cells o4 1 (stC [H,I,J])))(hc:m[c]? =some (.cells o5 1 [.slice r1 0 Z.length none,.slice r2 0 Z.length none]))(Y0:m[r1]? =some (.cells q1 1 (qC (qH W))))(YB:m[r2]? =some (.cells q2 1 (qC (qH Y)))):
  kO prog 159 [shA s,.agg (GD nm (.slice b 0 Z.length none) (.slice u 0 3 none) (.slice c 0 2 none))] m (.int .i64 0) m:=by
 have o:=gL hp;have j:=gL hq;have lb:=gL hb;have lu:=gL hu;have lc:=gL hc;have R:=gL Y0;have Q:=gL YB;have O:=fun ext:Mem=>(List.getElem?_append_left (l₂:=ext) o).trans hp
 have L:=fun ext:Mem=>(List.getElem?_append_left (l₂:=ext) j).trans hq
 have F:=fun ext:Mem=>(List.getElem?_append_left (l₂:=ext) lb).trans hb
 have S:=fun ext:Mem=>(List.getElem?_append_left (l₂:=ext) lu).trans hu
 have D:=fun ext:Mem=>(List.getElem?_append_left (l₂:=ext) lc).trans hc
 have X:=fun ext:Mem=>(List.getElem?_append_left (l₂:=ext) R).trans Y0
 have G:=fun ext:Mem=>(List.getElem?_append_left (l₂:=ext) Q).trans YB
 have V:qS prog (af (cU [(132,[.str H],.int .i64 0),(132,[.str I],.int .i64 0),(132,[.str J],.int .i64 0)])):=dK fun e U M=>by
  simp only[lM] at U;rcases U with rfl | rfl | rfl
  ·exact gj _ n0 M
  ·exact gj _ n1 M
  ·exact gj _ n2 M
 have C:qS prog (GA [(221,[shA s,.slice b 0 Z.length none],.int .i64 0),(222,[.slice u 0 0 none,.str H],.bool false),(222,[.slice u 0 1 none,.str I],.bool false),(222,[.slice u 0 2 none,.str J],.bool false),(223,[shA s,.slice b 0 Z.length none,.slice r1 0 Z.length none],.tuple [.bool true,.int .i64 0]),(223,[shA s,.slice r1 0 Z.length none,.slice r2 0 Z.length none],.tuple [.bool true,.int .i64 0])] (fun M=>∃ext,M=m++ext)):=GB fun e U M hM=>by
  obtain⟨ext,rfl⟩:=hM;simp only[lM] at U;rcases U with rfl | rfl | rfl | rfl | rfl | rfl
  ·exact qo s Z hZ hl hn _ b o1 o2 o3 (O ext) (L ext) (F ext)
  ·exact fm _ u 0 o4 [H,I,J] H (S ext) (by simp) (by simp) (by simp)
  ·exact fm _ u 1 o4 [H,I,J] I (S ext) (by simp) (by simp) (by simp[d01])
  ·exact fm _ u 2 o4 [H,I,J] J (S ext) (by simp) (by simp) (by simp[d02,d12])
  ·have:=qm s Z W hZ hY1 (by omega) hn Y4 ZZ (m++ext) b r1 o1 o2 o3 q1 (O ext) (L ext) (F ext) (X ext)
   rw[show W.length=Z.length by omega] at this;exact this
  ·have:=qm s W Y hY1 hY2 (by omega) Y4 Yb YV (m++ext) r1 r2 o1 o2 q1 q2 (O ext) (L ext) (X ext) (G ext)
   rw[show Y.length=Z.length by omega,show W.length=Z.length by omega] at this;exact this
 have B:=qS.or' V C;clear V C;refine cv (lv:=kA) (K:=5) B ?_;clear B;obtain⟨N,hN⟩:=xE Z.length;simp only[←hN] at D ⊢;simp[aa,ag3,f159,ae3.or,af,cU,GA,shA,GD,bp,gi,kA,stC,S,D,w1,w2,w3]
end
variable{i:Nat}
theorem Pa{L:List (List UInt8)}{s:List UInt8}(h:L[i]? =some s):(stC L)[i]? =some (.str s):=by simp[stC,h]
theorem VO(Q:List Rat):qC Q=stC (Q.map aB):=by simp[qC,stC]
def afi(N:Mem)(v:AV)(es n:Nat)(C:List AV):Prop:=(v=.qF∧n=0∧C=[])∨∃b o,v=.slice b 0 n none∧0<n∧N[b]? =some (.cells o es C)
variable{N:Mem}{n:Nat}{v:AV}
theorem afi.more{es:Nat}{C:List AV}(h:afi N v es n C)(Z:Mem):afi (N++Z) v es n C:=by
 rcases h with h | ⟨b,o,X,V,h3⟩
 ·exact .inl h
 ·exact .inr ⟨b,o,X,V,gU h3 _⟩
theorem jZ:∀l:List (List UInt8×List UInt8),AV.ae8 (kC l)=true
 | []=>rfl
 |k::l=>by simp[kC,AV.ae8,AV.closed,jZ l]
theorem ag4:dS [0,0,3,7,0,0,48,112,255] 8=true:=by decide
variable{b:Code}
theorem J9{K:Nat}(L:List (List UInt8))(H:L.length≤1000)(I:L.length<K)(y:ah f240=[b]):
  ∃F:Env→Bool→Env,∀Z d,(ab Z 0=.slice 0 0 L.length none∧ab Z 1=.slice 1 0 L.length none∧ab Z 12=.int .i64 L.length∧ab Z 13=.int .i64 0)→
   bh (ba prog) (fun _=>[13]) cN K 26 2 true (.loop b) ⟨Z,[.cells false 1 (stC L),.cells false 1 (stC L)],d⟩=some (.exit 0,⟨F Z d,[.cells false 1 (stC L),.cells false 1 (stC L)],d⟩)∧True:=by
 refine bj (L:=[13]) rfl (fun Z=>ab Z 0=.slice 0 0 L.length none∧ab Z 1=.slice 1 0 L.length none∧ab Z 12=.int .i64 L.length∧ab Z 13=.int .i64 0) (fun _ _=>True) ?_;rintro Z d ⟨h0,h1,h12,h13⟩;obtain⟨U,X⟩:∃U,aJ f240=U:=⟨_,rfl⟩
 have S:=cw X (ls:=[[0,0,3,7,0,0,48,112,255]]) (by kernel_rfl);simp only[aJ,bU,f240,List.nil_append,List.append_nil] at X;subst X;simp only[lB] at S;have e:=fun d=>kB d
 simp[ah,aE,f240] at y;have R:ay [13] (ad b) Z ((13,.int .i64 ((0:Nat):Int))::Z)=ay [13] (ad b) Z Z:=by simp[ay,h13]
 rw[←R];refine bx (α:=Nat) (fun n=>⟨ay [13] (ad b) Z ((13,.int .i64 (n:Int))::Z),[.cells false 1 (stC L),.cells false 1 (stC L)],d⟩) (fun n=>L.length-n) (fun n=>n≤L.length) (.exit 0) _ d _ (by simp) ?_ K 0 (by omega) (by omega);rintro n D;clear R;subst y;by_cases V:n<L.length
 ·obtain⟨z,Q⟩:∃z,L[n]? =some z:=⟨L[n],List.getElem?_eq_getElem V⟩
  have O:=Pa Q;have M:=nS L;have w1:IntKind.i64.wrap ((n:Int)+1)=((n+1:Nat):Int):=by rw[ae];omega
  have C:n*1+1≤(stC L).length:=by omega
  clear M;left;obtain⟨v,G⟩:=xE (n+1);rw[←G] at w1;refine⟨v,?_⟩;simp[-aK,aq S,bm,aZ,bl,ag4,h0,h1,h12,V,O,w1];omega
 ·right
  simp[h12,V]
theorem T8(L:List (List UInt8))(y:L.length≤1000):
  kO prog 240 [.slice 0 0 L.length none,.slice 1 0 L.length none] [.cells false 1 (stC L),.cells false 1 (stC L)] (.bool true) [.cells false 1 (stC L),.cells false 1 (stC L)]:=by
 have V:aT prog 240=some f240:=by kernel_rfl
 obtain⟨b,Z⟩:∃b,ah f240=[b]:=⟨_,rfl⟩
 obtain⟨F,X⟩:=J9 (K:=L.length+1) L y (by omega) Z;have U:=fun S d R Q h3 O=>(X S d ⟨R,Q,h3,O⟩).1
 clear X;simp[ah,aE,f240] at Z;subst Z;refine cv (lv:=(fun _=>[13])) (K:=(L.length+1)) (ax _) ?_;simp[aa,V,f240,U]
theorem T9(M:Mem):kO prog 240 [.qF,.qF] M (.bool true) M:=by
 have Z:aT prog 240=some f240:=by kernel_rfl
 refine cH (ax _) (lv:=fun _=>[13]) (K:=3) rfl rfl ?_ M;simp[aa,Z,f240,bp,gi]
theorem VV{M:Mem}{x y:AV}{L:List (List UInt8)}(I:L.length≤1000)(J:afi M x 1 L.length (stC L))(H:afi M y 1 L.length (stC L)):kO prog 240 [x,y] M (.bool true) M:=by
 rcases J with⟨rfl,V,_⟩ | ⟨b,o,rfl,Q,U⟩
 ·rcases H with⟨rfl,_,_⟩ | ⟨Z,X,_,S,_⟩
  ·exact T9 M
  ·omega
 ·rcases H with⟨_,V,_⟩ | ⟨Z,X,rfl,_,R⟩
  ·omega
  ·exact kO.agA (rest:=[]) (dR L) (dR L) rfl rfl (T8 L I) ⟨b,o,_,rfl,U,List.take_length⟩ ⟨Z,X,_,rfl,R,List.take_length⟩
theorem Ka{K:Nat}(L:List (List UInt8×List UInt8))(H:L.length≤1000)(I:L.length<K)(y:ah f200=[b]):
  ∃F:Env→Bool→Env,∀Z d,(ab Z 0=.slice 0 0 L.length none∧ab Z 1=.slice 1 0 L.length none∧ab Z 12=.int .i64 L.length∧ab Z 13=.int .i64 0)→
   bh (ba prog) (fun _=>[13]) cN K 26 2 true (.loop b) ⟨Z,[.cells false 2 (kC L),.cells false 2 (kC L)],d⟩=some (.exit 0,⟨F Z d,[.cells false 2 (kC L),.cells false 2 (kC L)],d⟩)∧True:=by
 refine bj (L:=[13]) rfl (fun Z=>ab Z 0=.slice 0 0 L.length none∧ab Z 1=.slice 1 0 L.length none∧ab Z 12=.int .i64 L.length∧ab Z 13=.int .i64 0) (fun _ _=>True) ?_;rintro Z d ⟨h0,h1,h12,h13⟩;obtain⟨U,X⟩:∃U,aJ f200=U:=⟨_,rfl⟩
 have S:=cw X (ls:=[[0,0,3,7,0,0,48,112,255]]) (by kernel_rfl);simp only[aJ,bU,f200,List.nil_append,List.append_nil] at X;subst X;simp only[lB] at S;have e:=fun d=>MU d
 simp[ah,aE,f200] at y;have R:ay [13] (ad b) Z ((13,.int .i64 ((0:Nat):Int))::Z)=ay [13] (ad b) Z Z:=by simp[ay,h13]
 rw[←R];refine bx (α:=Nat) (fun n=>⟨ay [13] (ad b) Z ((13,.int .i64 (n:Int))::Z),[.cells false 2 (kC L),.cells false 2 (kC L)],d⟩) (fun n=>L.length-n) (fun n=>n≤L.length) (.exit 0) _ d _ (by simp) ?_ K 0 (by omega) (by omega);rintro n C;clear R;subst y;by_cases V:n<L.length
 ·obtain⟨z,Q⟩:∃z,L[n]? =some z:=⟨L[n],List.getElem?_eq_getElem V⟩
  have O:=(Cf Q).1;have M:=fR L;have w1:IntKind.i64.wrap ((n:Int)+1)=((n+1:Nat):Int):=by rw[ae];omega
  have G:n*2+2≤(kC L).length:=by omega
  clear M;left;obtain⟨v,D⟩:=xE (n+1);rw[←D] at w1;refine⟨v,?_⟩;simp[-aK,aq S,bm,aZ,bl,ag4,h0,h1,h12,V,O,G,w1,e];omega
 ·right
  simp[h12,V]
theorem Ub(L:List (List UInt8×List UInt8))(y:L.length≤1000):
  kO prog 200 [.slice 0 0 L.length none,.slice 1 0 L.length none] [.cells false 2 (kC L),.cells false 2 (kC L)] (.bool true) [.cells false 2 (kC L),.cells false 2 (kC L)]:=by
 have V:aT prog 200=some f200:=by kernel_rfl
 obtain⟨b,Z⟩:∃b,ah f200=[b]:=⟨_,rfl⟩
 obtain⟨F,X⟩:=Ka (K:=L.length+1) L y (by omega) Z;have U:=fun S d R Q h3 O=>(X S d ⟨R,Q,h3,O⟩).1
 clear X;simp[ah,aE,f200] at Z;subst Z;refine cv (lv:=(fun _=>[13])) (K:=(L.length+1)) (ax _) ?_;simp[aa,V,f200,U]
theorem Uc(M:Mem):kO prog 200 [.qF,.qF] M (.bool true) M:=by
 have Z:aT prog 200=some f200:=by kernel_rfl
 refine cH (ax _) (lv:=fun _=>[13]) (K:=3) rfl rfl ?_ M;simp[aa,Z,f200,bp,gi]
theorem VW{M:Mem}{x y:AV}{L:List (List UInt8×List UInt8)}(I:L.length≤1000)(J:afi M x 2 L.length (kC L))(H:afi M y 2 L.length (kC L)):kO prog 200 [x,y] M (.bool true) M:=by
 rcases J with⟨rfl,V,_⟩ | ⟨b,o,rfl,Q,U⟩
 ·rcases H with⟨rfl,_,_⟩ | ⟨Z,X,_,S,_⟩
  ·exact Uc M
  ·omega
 ·rcases H with⟨_,V,_⟩ | ⟨Z,X,rfl,_,R⟩
  ·omega
  ·exact kO.agA (rest:=[]) (jZ L) (jZ L) rfl rfl (Ub L I) ⟨b,o,_,rfl,U,List.take_length⟩ ⟨Z,X,_,rfl,R,List.take_length⟩
theorem Kb{K:Nat}(L:List (List UInt8))(I:L.length≤1000)(J:L.length<K)(H:ah f198=[b]):
  ∃F:Env→Bool→Env,∀Z d,(ab Z 0=.slice 0 0 L.length none∧ab Z 1=.slice 1 0 L.length none∧ab Z 12=.int .i64 L.length∧ab Z 13=.int .i64 0)→
   bh (ba prog) (fun _=>[13]) cN K 26 2 true (.loop b) ⟨Z,[.cells false 1 (stC L),.cells false 1 (stC L)],d⟩=some (.exit 0,⟨F Z d,[.cells false 1 (stC L),.cells false 1 (stC L)],d⟩)∧True:=by
 refine bj (L:=[13]) rfl (fun Z=>ab Z 0=.slice 0 0 L.length none∧ab Z 1=.slice 1 0 L.length none∧ab Z 12=.int .i64 L.length∧ab Z 13=.int .i64 0) (fun _ _=>True) ?_;rintro Z d ⟨h0,h1,h12,h13⟩;obtain⟨U,X⟩:∃U,aJ f198=U:=⟨_,rfl⟩
 have S:=cw X (ls:=[[0,0,3,7,0,0,48,112,255]]) (by kernel_rfl);simp only[aJ,bU,f198,List.nil_append,List.append_nil] at X;subst X;simp only[lB] at S;have e:=fun d x y=>Be d x y
 simp[ah,aE,f198] at H;have R:ay [13] (ad b) Z ((13,.int .i64 ((0:Nat):Int))::Z)=ay [13] (ad b) Z Z:=by simp[ay,h13]
 rw[←R];refine bx (α:=Nat) (fun n=>⟨ay [13] (ad b) Z ((13,.int .i64 (n:Int))::Z),[.cells false 1 (stC L),.cells false 1 (stC L)],d⟩) (fun n=>L.length-n) (fun n=>n≤L.length) (.exit 0) _ d _ (by simp) ?_ K 0 (by omega) (by omega);rintro n D;clear R;subst H;by_cases V:n<L.length
 ·obtain⟨z,Q⟩:∃z,L[n]? =some z:=⟨L[n],List.getElem?_eq_getElem V⟩
  have O:=Pa Q;have M:=nS L;have w1:IntKind.i64.wrap ((n:Int)+1)=((n+1:Nat):Int):=by rw[ae];omega
  have C:n*1+1≤(stC L).length:=by omega
  clear M;left;obtain⟨v,G⟩:=xE (n+1);rw[←G] at w1;refine⟨v,?_⟩;simp[-aK,aq S,bm,aZ,bl,ag4,h0,h1,h12,V,O,w1];omega
 ·right
  simp[h12,V]
theorem Ud(L:List (List UInt8))(y:L.length≤1000):
  kO prog 198 [.slice 0 0 L.length none,.slice 1 0 L.length none] [.cells false 1 (stC L),.cells false 1 (stC L)] (.bool true) [.cells false 1 (stC L),.cells false 1 (stC L)]:=by
 have V:aT prog 198=some f198:=by kernel_rfl
 obtain⟨b,Z⟩:∃b,ah f198=[b]:=⟨_,rfl⟩
 obtain⟨F,X⟩:=Kb (K:=L.length+1) L y (by omega) Z;have U:=fun S d R Q h3 O=>(X S d ⟨R,Q,h3,O⟩).1
 clear X;simp[ah,aE,f198] at Z;subst Z;refine cv (lv:=(fun _=>[13])) (K:=(L.length+1)) (ax _) ?_;simp[aa,V,f198,U]
theorem Ue(M:Mem):kO prog 198 [.qF,.qF] M (.bool true) M:=by
 have Z:aT prog 198=some f198:=by kernel_rfl
 refine cH (ax _) (lv:=fun _=>[13]) (K:=3) rfl rfl ?_ M;simp[aa,Z,f198,bp,gi]
theorem VX{M:Mem}{x y:AV}{L:List (List UInt8)}(I:L.length≤1000)(J:afi M x 1 L.length (stC L))(H:afi M y 1 L.length (stC L)):kO prog 198 [x,y] M (.bool true) M:=by
 rcases J with⟨rfl,V,_⟩ | ⟨b,o,rfl,Q,U⟩
 ·rcases H with⟨rfl,_,_⟩ | ⟨Z,X,_,S,_⟩
  ·exact Ue M
  ·omega
 ·rcases H with⟨_,V,_⟩ | ⟨Z,X,rfl,_,R⟩
  ·omega
  ·exact kO.agA (rest:=[]) (dR L) (dR L) rfl rfl (Ud L I) ⟨b,o,_,rfl,U,List.take_length⟩ ⟨Z,X,_,rfl,R,List.take_length⟩
theorem Bs{M:Mem}{x y:AV}{L:List (List UInt8)}(H:L.length≤1000)(I:afi M x 1 L.length (stC L))(J:afi M y 1 L.length (stC L)):kO prog 197 [x,y] M (.bool true) M:=by
 have X:aT prog 197=some f197:=by kernel_rfl
 have Z:qS prog (er 240 [x,y] (.bool true) (fun N=>N=M)):=fI fun N V=>by subst V;exact VV H I J
 refine fP Z ?_;clear Z;simp[aa,X,f197,er]
def agr(N:Mem)(v:AV)(S:List (List (List UInt8))):Prop:=∃Z,Z.length=S.length∧afi N v 1 S.length Z∧∀(i:Nat) x L,Z[i]? =some x→S[i]? =some L→afi N x 1 L.length (stC L)
theorem agr.more{S:List (List (List UInt8))}(h:agr N v S)(Z:Mem):agr (N++Z) v S:=by obtain⟨X,V,U,h3⟩:=h;exact⟨X,V,U.more Z,fun i x L a b=>(h3 i x L a b).more Z⟩
noncomputable def Gb(vs H:List AV)(m:Mem):ae3:=yo fun c a N r=>∃(i:Nat) (x y:AV),vs[i]? =some x∧H[i]? =some y∧c=.fn 197∧a=[x,y]∧N=m∧r=⟨.bool true,none,[]⟩
variable{m:Mem}{vs ws:List AV}
theorem Ny{x y:AV}(h1:vs[i]? =some x)(h2:ws[i]? =some y):Gb vs ws m (.fn 197) [x,y] m=some ⟨.bool true,none,[]⟩:=
 lK ⟨i,x,y,h1,h2,rfl,rfl,rfl,rfl⟩ fun r' ⟨_,_,_,_,_,_,_,_,h⟩=>h
variable{w:AV}
theorem Kf(lv:vs.length=n)(W:ws.length=n)(I:afi m v 1 n vs)(J:afi m w 1 n ws)(Y:n≤1000){K m0:Nat}(hK:n<K)(H:ah f241=[b]):
  ∃F:Env→Bool→Env,∀Z d,(ab Z 15=v∧ab Z 1=w∧ab Z 2=.func 197 []∧ab Z 16=.int .i64 n∧ab Z 17=.int .i64 0)→
   bh (ba prog) (fun _=>[17,17,17]) (Gb vs ws m) K 32 m0 true (.loop b) ⟨Z,m,d⟩=some (.exit 0,⟨F Z d,m,d⟩)∧True:=by
 refine bj rfl (fun Z=>ab Z 15=v∧ab Z 1=w∧ab Z 2=.func 197 []∧ab Z 16=.int .i64 n∧ab Z 17=.int .i64 0) (fun _ _=>True) ?_;rintro Z d ⟨h15,h1,h2,h16,h17⟩;simp[ah,aE,f241] at H;have U:ay [17,17,17] (ad b) Z ((17,.int .i64 ((0:Nat):Int))::Z)=ay [17,17,17] (ad b) Z Z:=by simp[ay,h17]
 rw[←U];refine bx (α:=Nat) (fun i=>⟨ay [17,17,17] (ad b) Z ((17,.int .i64 (i:Int))::Z),m,d⟩) (fun i=>n-i) (fun i=>i≤n) (.exit 0) _ d _ (by simp) ?_ K 0 (by omega) (by omega);rintro i C;clear U;by_cases S:i<n
 ·obtain⟨x,X⟩:∃x,vs[i]? =some x:=⟨_,List.getElem?_eq_getElem (by omega)⟩
  obtain⟨y,V⟩:∃y,ws[i]? =some y:=⟨_,List.getElem?_eq_getElem (by omega)⟩
  have w1:IntKind.i64.wrap ((i:Int)+1)=((i+1:Nat):Int):=by rw[ae];omega
  have R:=Ny (m:=m) X V;have Q:=gL X;have O:=gL V;have M :∀h,vs[i]'h=x:=fun h=>by rw[List.getElem?_eq_getElem h] at X;exact Option.some.inj X
  have L :∀h,ws[i]'h=y:=fun h=>by rw[List.getElem?_eq_getElem h] at V;exact Option.some.inj V
  rcases I with⟨_,h,_⟩ | ⟨B,u,rfl,_,G⟩
  ·omega
  rcases J with⟨_,h,_⟩ | ⟨o,j,rfl,_,D⟩
  ·omega
  left;refine⟨i+1,?_⟩;refine bt (show i+1≤n∧n-(i+1)<n-i from⟨by omega,by omega⟩) ?_;subst H;simp[h15,h1,h2,h16,S,G,D,M,L,Q,O,R,w1]
 ·right
  subst H;simp[h16,S]
section
variable{S:List (List (List UInt8))}(hv:agr m v S)(hw:agr m w S)(hl:S.length≤1000)(hS:∀L∈S,L.length≤1000)
include S hv hw hl hS
theorem Ua:
  kO prog 241 [v,w,.func 197 []] m (.bool true) m:=by
 have M:aT prog 241=some f241:=by kernel_rfl
 obtain⟨vs,G,r1,D⟩:=hv;obtain⟨ws,C,r2,B⟩:=hw;have R:qS prog (Gb vs ws m):=AL fun c a N r u=>by
  obtain⟨i,x,y,Q,j,rfl,rfl,rfl,rfl⟩:=u;have I:=gL Q;obtain⟨L,X⟩:∃L,S[i]? =some L:=⟨_,List.getElem?_eq_getElem (by omega)⟩
  exact aF (Bs (hS L (List.mem_of_getElem? X)) (D i x L Q X) (B i y L j X))
 obtain⟨b,V⟩:∃b,ah f241=[b]:=⟨_,rfl⟩
 obtain⟨F,O⟩:=Kf (m0:=m.length) (K:=S.length+1) G C r1 r2 hl (by omega) V;have Y:=fun W d h=>(O W d h).1
 clear O;simp[ah,aE,f241] at V;subst V;have J:∀Z,V2 (ba prog) 49 Z v=some (.int .i64 S.length):=fun Z =>by
  rcases r1 with⟨rfl,h,_⟩ | ⟨b,o,rfl,_⟩
  ·rw[h];simp
  ·simp
 have U:∀Z,V2 (ba prog) 49 Z w=some (.int .i64 S.length):=fun Z =>by
  rcases r2 with⟨rfl,h,_⟩ | ⟨b,o,rfl,_⟩
  ·rw[h];simp
  ·simp
 refine cv (lv:=(fun _=>[17,17,17])) (K:=(S.length+1)) R ?_;clear R;simp[-V2,J,U,aa,M,f241,Y]
theorem Qp:kO prog 199 [v,w] m (.bool true) m:=by
 have X:aT prog 199=some f199:=by kernel_rfl
 have Z:qS prog (er 241 [v,w,.func 197 []] (.bool true) (fun N=>N=m)):=fI fun N V=>by subst V;exact Ua hv hw hl hS
 refine fP Z ?_;clear Z;simp[aa,X,f199,er]
end
structure Evc.Ok (c:Evc):Prop where
 B:c.B.length≤1000
 U:c.U.length≤1000
 S:c.S.length≤2
 SL:∀L∈c.S,L.length≤1000
 K:c.K.length≤1000
def af7(N:Mem)(y:List AV)(c:Evc):Prop:=∃b u s Z,y=c.cells b u s Z∧afi N b 1 c.B.length (stC c.B)∧afi N u 1 c.U.length (stC c.U)∧agr N s c.S∧afi N Z 2 c.K.length (kC c.K)
variable{c:Evc}
theorem af7.more{y:List AV}(h:af7 N y c)(Z:Mem):af7 (N++Z) y c:=by obtain⟨b,u,s,X,V,U,h3,S,R⟩:=h;exact⟨b,u,s,X,V,U.more Z,h3.more Z,S.more Z,R.more Z⟩
def vv(b y u H s s' I J :AV)(m:Mem)(c:Go.Eng.Callee)(a:List AV)(N:Mem)(r:y9):Prop:=(∃Z,N=m++Z)∧((c=.fn 197∧a=[b,y])∨(c=.fn 198∧a=[u,H])∨(c=.fn 199∧a=[s,s'])∨(c=.fn 200∧a=[I,J]))∧r=⟨.bool true,none,[]⟩
theorem Pz{e y :List AV}(hc:c.Ok)(h:af7 m e c)(h' :af7 m y c):kO prog 133 [.agg e,.agg y] m (.bool true) m:=by
 obtain⟨b,u,s,X,rfl,G,F,h3,D⟩:=h;obtain⟨V,R,Q,O,rfl,C,o,j,Y⟩:=h';have W:qS prog (yo (vv b V u R s Q X O m)):=AL fun f a N r M=>by
  obtain⟨⟨Z,rfl⟩,M,rfl⟩:=M;rcases M with⟨rfl,rfl⟩ | ⟨rfl,rfl⟩ | ⟨rfl,rfl⟩ | ⟨rfl,rfl⟩
  ·exact aF (Bs hc.B (G.more Z) (C.more Z))
  ·exact aF (VX hc.U (F.more Z) (o.more Z))
  ·exact aF (Qp (h3.more Z) (j.more Z) (by have:=hc.S;omega) hc.SL)
  ·exact aF (VW hc.K (D.more Z) (Y.more Z))
 exact PA W (lK (S:=vv b V u R s Q X O m) ⟨⟨_,rfl⟩,.inl ⟨rfl,rfl⟩,rfl⟩ fun L h=>h.2.2) (lK (S:=vv b V u R s Q X O m) ⟨⟨_,rfl⟩,.inr (.inl ⟨rfl,rfl⟩),rfl⟩ fun L h=>h.2.2)
  (lK (S:=vv b V u R s Q X O m) ⟨⟨_,rfl⟩,.inr (.inr (.inl ⟨rfl,rfl⟩)),rfl⟩ fun L h=>h.2.2) (lK (S:=vv b V u R s Q X O m) ⟨⟨_,rfl⟩,.inr (.inr (.inr ⟨rfl,rfl⟩)),rfl⟩ fun L h=>h.2.2)
theorem Aw(y:c.B=[])(H:c.U=[])(hS:c.S=[])(I:c.K.length≤1000):c.Ok:=⟨by simp[y],by simp[H],by simp[hS],by simp[hS],I⟩
def hT(Z:List Int):List (List UInt8):=(qH Z).map aB
end Go.Proofs
