/- See C54. -/
import Derived.Test.YtffdedmakncfmaaGreatDoorC35
set_option linter.all false
set_option maxRecDepth 100000
set_option maxHeartbeats 40000000
namespace Go.Proofs
open Go.Eng
open Tryz
def Bo(s:List UInt8):Nat→List (List UInt8)→Int
 |_,[]=> -1
 |i,x::l=>if s=x then (i:Int) else Bo s (i+1) l
theorem Qa{s:List UInt8}:∀{i:Nat} {l:List (List UInt8)},Bo s i l<0↔s∉l
 |i,[]=>by simp[Bo]
 |i,x::l=>by
  unfold Bo;by_cases h:s=x
  ·rw[if_pos h];simp[h]
  ·rw[if_neg h,Qa];simp[h]
theorem Uq{s:List UInt8}:∀{i:Nat} {l:List (List UInt8)},-1≤Bo s i l
 |i,[]=>by unfold Bo;omega
 |i,x::l=>by
  unfold Bo;split
  ·omega
  ·exact Uq
theorem B0{O:afF}{K:Nat}(L:List (List UInt8))(s:List UInt8)(H:L.length≤1000000000)(I:L.length<K){b:Code}(y:ah f254=[b]):
  ∃F:Env→Bool→Env,∀Z d,(ad Z 0=.slice 0 0 L.length none∧ad Z 1=.str s∧ad Z 7=.int .i64 L.length∧ad Z 8=.int .i64 0)→
   aW (bh prog) (fun _=>[8]) O K 19 1 true (.loop b) ⟨Z,[.cells false 1 (stC L)],d⟩=some (if Bo s 0 L<0 then .exit 0 else .ret,⟨F Z d,[.cells false 1 (stC L)],d⟩)∧
    (¬Bo s 0 L<0→ad (F Z d) 4=.int .i64 (Bo s 0 L)):=by
 refine bj rfl (fun Z=>ad Z 0=.slice 0 0 L.length none∧ad Z 1=.str s∧ad Z 7=.int .i64 L.length∧ad Z 8=.int .i64 0) (fun _ G =>¬Bo s 0 L<0→ad G 4=.int .i64 (Bo s 0 L)) ?_;rintro Z d ⟨h0,X,h7,h8⟩;simp[ah,aE,f254] at y;have Q:aA [8] (ae b) Z ((8,.int .i64 ((0:Nat):Int))::Z)=aA [8] (ae b) Z Z:=by simp[aA,h8]
 rw[←Q];have N:(stC L).length=L.length:=pc L;refine bz (α:=Nat) (fun n=>⟨aA [8] (ae b) Z ((8,.int .i64 (n:Int))::Z),[.cells false 1 (stC L)],d⟩) (fun n=>L.length-n) (fun n=>n≤L.length∧Bo s 0 L=Bo s n (L.drop n)) _ _ d _ (by split<;>simp) ?_ K 0 ⟨by omega,by rw[List.drop_zero]⟩ (by omega);rintro n ⟨hn1,he⟩;clear Q;subst y;by_cases V:n<L.length
 ·obtain⟨x,S⟩:∃x,L[n]? =some x:=⟨L[n],List.getElem?_eq_getElem V⟩
  have M:∀h,(stC L)[n]'h=.str x:=fun h=>by have:=Qy S;rw[List.getElem?_eq_getElem h] at this;exact Option.some.inj this
  have D:L.drop n=x::L.drop (n+1):=by rw[List.getElem?_eq_some_iff] at S;obtain⟨X,C⟩:=S;rw[←C];exact List.drop_eq_getElem_cons X
  rw[D,Bo] at he;have w1:IntKind.i64.wrap ((n:Int)+1)=((n+1:Nat):Int):=by rw[af];omega
  by_cases U:s=x
  ·right
   rw[if_pos U] at he;subst U;have R:¬(n:Int)<0:=by omega
   rw[he,if_neg R];simp[h0,X,h7,V,N,M]
  ·left
   rw[if_neg U] at he;have y:(s==x)=false:=by simpa using U
   refine⟨n+1,?_⟩;refine br (show(n+1≤L.length∧Bo s 0 L=Bo s (n+1) (L.drop (n+1)))∧L.length-(n+1)<L.length-n from⟨⟨by omega,he⟩,by omega⟩) ?_;simp[h0,X,h7,V,N,M,y,w1]
 ·right
  have e:L.drop n=[]:=List.drop_of_length_le (by omega);rw[e,Bo] at he;rw[he,if_pos (by decide)];simp[h7,V]
theorem Ig(L:List (List UInt8))(s:List UInt8)(y:L.length≤1000000000):
  kO prog 254 [.slice 0 0 L.length none,.str s] [.cells false 1 (stC L)] (.int .i64 (Bo s 0 L)) [.cells false 1 (stC L)]:=by
 have Q:aS prog 254=some f254:=by kernel_rfl
 obtain⟨b,U⟩:∃b,ah f254=[b]:=⟨_,rfl⟩
 obtain⟨F,Z⟩:=B0 (O:=cF) (K:=L.length+1) L s y (by omega) U;simp[ah,aE,f254] at U;subst U;refine cE (lv:=(fun _=>[8])) (K:=(L.length+1)) (aw _) ?_;by_cases S:Bo s 0 L<0
 ·rw[if_pos S] at Z
  have X:=fun V d h=>(Z V d h).1
  clear Z;have N:Bo s 0 L= -1:=by have:=Uq (s:=s) (i:=0) (l:=L);omega
  rw[N];simp[aa,Q,f254,X]
 ·rw[if_neg S] at Z
  have X:=fun V d h=>(Z V d h).1
  have R:=fun V d h=>(Z V d h).2 S
  clear Z;simp[aa,Q,f254,X,R]
theorem Ed(s:List UInt8)(M:Mem):kO prog 254 [.qF,.str s] M (.int .i64 (-1)) M:=by
 have Z:aS prog 254=some f254:=by kernel_rfl
 refine cK (aw _) (lv:=fun _=>[8]) (K:=1) rfl rfl ?_ M;simp[aa,Z,f254,aT,ga]
variable{L:List (List UInt8)}{M:Mem}{x:AV}
theorem If(s:List UInt8)(y:L.length≤1000000000)(H:sts M x=some L):kO prog 254 [x,.str s] M (.int .i64 (Bo s 0 L)) M:=by
 rcases W9 H with h | ⟨rfl,rfl⟩
 ·exact kO.ag6 (rest:=[.str s]) (dX L) rfl rfl (Ig L s y) h
 ·exact Ed s M
noncomputable def GS:afF:=fun c Z M=>match c,Z with
 |.fn 254,[x,.str s]=>match sts M x with
  |some L=>if L.length≤1000000000 then some ⟨.int .i64 (Bo s 0 L),none,[]⟩ else none
  |none=>none
 |c,Z=>cF c Z M
theorem RB:qS prog GS:=by
 refine cf fun c Z M r h=>?_
 unfold GS at h;split at h
 ·split at h
  ·rename_i L X
   split at h
   ·rename_i V
    cases h;refine aC ?_;rw[List.append_nil];exact If _ V X
   ·cases h
  ·cases h
 ·exact dN (aw _) h
theorem BE(s:List UInt8)(y:L.length≤1000000000)(H:sts M x=some L):kO prog 222 [x,.str s] M (.bool (decide (s∈L))) M:=by
 have Z:aS prog 222=some f222:=by kernel_rfl
 have X:decide (0≤Bo s 0 L)=decide (s∈L):=by
  rw[decide_eq_decide];have:=Qa (s:=s) (i:=0) (l:=L);by_cases h:s∈L
  ·simp only[h,iff_true]
   exact Int.not_lt.1 fun e=>this.1 e h
  ·simp only[h,iff_false]
   have:=this.2 h;omega
 refine er RB ?_;rw[←X];simp[aa,Z,f222,GS,H,y]
end Go.Proofs
namespace Go.Proofs
open Go.Eng
open Tryz
open Classical in
noncomputable def Hr(L:List (FuncId×List AV×AV))(p:Mem→Prop):afF:=fun c a M=>if p M then ag (cc L) c a M else none
theorem Hs{P:Program}{L:List (FuncId×List AV×AV)}{p:Mem→Prop}(h:∀x∈L,∀M,p M→kO P x.1 x.2.1 M x.2.2 M):qS P (Hr L p):=by
 have k:∀f a v,cc L f a=some v→∃x∈L,f=x.1∧a=x.2.1∧v=x.2.2:=by
  clear h;intro f a v X;induction L with
  |nil=>simp[cc] at X
  |cons x L ih=>
   rw[cc] at X;split at X
   ·rename_i O
    cases X;exact⟨x,by simp,O.1,O.2,rfl⟩
   ·obtain⟨y,N,V⟩:=ih X
    exact⟨y,by simp[N],V⟩
 have U:∀c a M r,Hr L p c a M=some r→p M∧∃f,c=.fn f∧∃x∈L,f=x.1∧a=x.2.1∧r=⟨x.2.2,none,[]⟩:=by
  intro c a M r Z;unfold Hr at Z;split at Z
  ·rename_i S
   refine⟨S,?_⟩;unfold ag at Z;split at Z
   ·rename_i f
    split at Z
    ·rename_i v X
     cases Z;obtain⟨x,R,V,K,h3⟩:=k _ _ _ X;exact⟨f,rfl,x,R,V,K,by rw[h3]⟩
    ·cases Z
   ·cases Z
  ·cases Z
 refine⟨fun f a M r Z=>?_,fun b a M r Z=>?_,fun c a M r q Z G=>?_⟩
 ·obtain⟨S,g,Q,x,R,V,rfl,rfl⟩:=U _ _ _ _ Z
  cases Q;subst V;simpa [y9.mem] using h x R M S
 ·obtain⟨_,g,Q,_⟩:=U _ _ _ _ Z
  cases Q
 ·obtain⟨_,g,_,x,_,_,_,rfl⟩:=U _ _ _ _ Z
  cases G
def kZ(c:Code):List Nat:=if (ae c).contains 35 then [35] else [10,65]
theorem fM(M:Mem)(u k:Nat)(o:Bool)(U:List (List UInt8))(s:List UInt8)(y:M[u]? =some (.cells o 1 (stC U)))(hk:k≤U.length)(H:U.length≤3)(hs:s∉U.take k):
  kO prog 222 [.slice u 0 k none,.str s] M (.bool false) M:=by
 have h:sts M (.slice u 0 k none)=some (U.take k):=by
  have Z:(stC U).take (k*1)=stC (U.take k):=by simp[stC,List.map_take]
  unfold sts;rw[TU y (by rw[pc];omega) Z];exact Vd _
 have:=BE (M:=M) s (by rw[List.length_take];omega) h
 rwa [decide_eq_false hs] at this
theorem ahK:aS prog 159=some f159:=by kernel_rfl
section
variable (s:af1)(nm:List UInt8)
include s nm
theorem H7(y:List UInt8)(Y:y∈kW)(Z:List Int)(hZ:∀z∈Z,z.natAbs<1000)(hl:Z.length≤1000)(hn:Z.length=s.P.length)(m:Mem)(b u:Nat)(o1 o2 I o4:Bool)(J:m[0]? =some (.cells o1 2 (pC s.P)))(hq:m[1]? =some (.cells o2 3 (tC s.T)))(H:m[b]? =some (.cells I 1 (qC (qH Z))))(W:m[u]? =some (.cells o4 1 (stC [y]))):
  kO prog 159 [shA s,.agg (Hu nm (.slice b 0 Z.length none) (.slice u 0 1 none) (.qF))] m (.int .i64 0) m:=by
 have Q:=gL J;have O:=gL hq;have L:=gL H;have G:=gL W;have F:=fun ext:Mem=>(List.getElem?_append_left (l₂:=ext) Q).trans J
 have D:=fun ext:Mem=>(List.getElem?_append_left (l₂:=ext) O).trans hq
 have C:=fun ext:Mem=>(List.getElem?_append_left (l₂:=ext) L).trans H
 have S:=fun ext:Mem=>(List.getElem?_append_left (l₂:=ext) G).trans W
 have X:qS prog (ag (cc [(132,[.str y],.int .i64 0)])):=cD fun e V M=>by simp only[lM] at V;rcases V with rfl;exact gN _ Y M
 have U:qS prog (Hr [(221,[shA s,.slice b 0 Z.length none],.int .i64 0),(222,[.slice u 0 0 none,.str y],.bool false)] (fun M=>∃ext,M=m++ext)):=Hs fun e V M B=>by
  obtain⟨ext,rfl⟩:=B;simp only[lM] at V;rcases V with rfl | rfl
  ·exact rn s Z hZ hl hn _ b o1 o2 I (F ext) (D ext) (C ext)
  ·exact fM _ u 0 o4 [y] y (S ext) (by simp) (by simp) (by simp)
 have R:=qS.or' X U;clear X U;refine cE (lv:=kZ) (K:=5) R ?_;clear R;obtain⟨N,o⟩:=xE Z.length;simp only[←o] at H ⊢;simp[aa,ahK,f159,afF.or,ag,cc,Hr,shA,Hu,aT,ga,kZ,stC,S,w0,w1]
theorem H8(H I:List UInt8)(n0:H∈kW)(n1:I∈kW)(Y:I≠H)(Z:List Int)(hZ:∀z∈Z,z.natAbs<1000)(hl:Z.length≤1000)(hn:Z.length=s.P.length)(J:List Int)(hY1:∀z∈J,z.natAbs<1000)(hl1:J.length=s.P.length)(acd:∀(i:Nat) z y,Z[i]? =some z→J[i]? =some y→z≤y)(m:Mem)(b u c r1:Nat)(o1 o2 o3 o4 o5 q1:Bool)(hp:m[0]? =some (.cells o1 2 (pC s.P)))(hq:m[1]? =some (.cells o2 3 (tC s.T)))(hb:m[b]? =some (.cells o3 1 (qC (qH Z))))(hu:m[u]? =some (.cells o4 1 (stC [H,I])))(hc:m[c]? =some (.cells o5 1 [.slice r1 0 Z.length none]))(W:m[r1]? =some (.cells q1 1 (qC (qH J)))):
  kO prog 159 [shA s,.agg (Hu nm (.slice b 0 Z.length none) (.slice u 0 2 none) (.slice c 0 1 none))] m (.int .i64 0) m:=by
 have C:=gL hp;have B:=gL hq;have o:=gL hb;have j:=gL hu;have lc:=gL hc;have S:=gL W;have O:=fun ext:Mem=>(List.getElem?_append_left (l₂:=ext) C).trans hp
 have L:=fun ext:Mem=>(List.getElem?_append_left (l₂:=ext) B).trans hq
 have G:=fun ext:Mem=>(List.getElem?_append_left (l₂:=ext) o).trans hb
 have R:=fun ext:Mem=>(List.getElem?_append_left (l₂:=ext) j).trans hu
 have F:=fun ext:Mem=>(List.getElem?_append_left (l₂:=ext) lc).trans hc
 have Q:=fun ext:Mem=>(List.getElem?_append_left (l₂:=ext) S).trans W
 have X:qS prog (ag (cc [(132,[.str H],.int .i64 0),(132,[.str I],.int .i64 0)])):=cD fun e V M=>by
  simp only[lM] at V;rcases V with rfl | rfl
  ·exact gN _ n0 M
  ·exact gN _ n1 M
 have U:qS prog (Hr [(221,[shA s,.slice b 0 Z.length none],.int .i64 0),(222,[.slice u 0 0 none,.str H],.bool false),(222,[.slice u 0 1 none,.str I],.bool false),(223,[shA s,.slice b 0 Z.length none,.slice r1 0 Z.length none],.tuple [.bool true,.int .i64 0])] (fun M=>∃ext,M=m++ext)):=Hs fun e V M hM=>by
  obtain⟨ext,rfl⟩:=hM;simp only[lM] at V;rcases V with rfl | rfl | rfl | rfl
  ·exact rn s Z hZ hl hn _ b o1 o2 o3 (O ext) (L ext) (G ext)
  ·exact fM _ u 0 o4 [H,I] H (R ext) (by simp) (by simp) (by simp)
  ·exact fM _ u 1 o4 [H,I] I (R ext) (by simp) (by simp) (by simp[Y])
  ·have:=rl s Z J hZ hY1 (by omega) hn hl1 acd (m++ext) b r1 o1 o2 o3 q1 (O ext) (L ext) (G ext) (Q ext)
   rw[show J.length=Z.length by omega] at this;exact this
 have D:=qS.or' X U;clear X U;refine cE (lv:=kZ) (K:=5) D ?_;clear D;obtain⟨N,hN⟩:=xE Z.length;simp only[←hN] at F ⊢;simp[aa,ahK,f159,afF.or,ag,cc,Hr,shA,Hu,aT,ga,kZ,stC,R,F,w1,w2]
theorem H9(H I J:List UInt8)(n0:H∈kW)(n1:I∈kW)(n2:J∈kW)(d01:I≠H)(d02:J≠H)(d12:J≠I)(Z:List Int)(hZ:∀z∈Z,z.natAbs<1000)(hl:Z.length≤1000)(hn:Z.length=s.P.length)(W Y:List Int)(hY1:∀z∈W,z.natAbs<1000)(hl1:W.length=s.P.length)(acd:∀(i:Nat) z y,Z[i]? =some z→W[i]? =some y→z≤y)(hY2:∀z∈Y,z.natAbs<1000)(hl2:Y.length=s.P.length)(aax:∀(i:Nat) z y,W[i]? =some z→Y[i]? =some y→z≤y)(m:Mem)(b u c r1 r2:Nat)(o1 o2 o3 o4 o5 q1 q2:Bool)(hp:m[0]? =some (.cells o1 2 (pC s.P)))(hq:m[1]? =some (.cells o2 3 (tC s.T)))(hb:m[b]? =some (.cells o3 1 (qC (qH Z))))(hu:m[u]? =some (.cells o4 1 (stC [H,I,J])))(hc:m[c]? =some (.cells o5 1 [.slice r1 0 Z.length none,.slice r2 0 Z.length none]))(hr1:m[r1]? =some (.cells q1 1 (qC (qH W))))(hr2:m[r2]? =some (.cells q2 1 (qC (qH Y)))):
  kO prog 159 [shA s,.agg (Hu nm (.slice b 0 Z.length none) (.slice u 0 3 none) (.slice c 0 2 none))] m (.int .i64 0) m:=by
 have o:=gL hp;have j:=gL hq;have lb:=gL hb;have lu:=gL hu;have lc:=gL hc;have Q:=gL hr1;have O:=gL hr2;have L:=fun ext:Mem=>(List.getElem?_append_left (l₂:=ext) o).trans hp
 have G:=fun ext:Mem=>(List.getElem?_append_left (l₂:=ext) j).trans hq
 have D:=fun ext:Mem=>(List.getElem?_append_left (l₂:=ext) lb).trans hb
 have R:=fun ext:Mem=>(List.getElem?_append_left (l₂:=ext) lu).trans hu
 have C:=fun ext:Mem=>(List.getElem?_append_left (l₂:=ext) lc).trans hc
 have X:=fun ext:Mem=>(List.getElem?_append_left (l₂:=ext) Q).trans hr1
 have F:=fun ext:Mem=>(List.getElem?_append_left (l₂:=ext) O).trans hr2
 have V:qS prog (ag (cc [(132,[.str H],.int .i64 0),(132,[.str I],.int .i64 0),(132,[.str J],.int .i64 0)])):=cD fun e U M=>by
  simp only[lM] at U;rcases U with rfl | rfl | rfl
  ·exact gN _ n0 M
  ·exact gN _ n1 M
  ·exact gN _ n2 M
 have S:qS prog (Hr [(221,[shA s,.slice b 0 Z.length none],.int .i64 0),(222,[.slice u 0 0 none,.str H],.bool false),(222,[.slice u 0 1 none,.str I],.bool false),(222,[.slice u 0 2 none,.str J],.bool false),(223,[shA s,.slice b 0 Z.length none,.slice r1 0 Z.length none],.tuple [.bool true,.int .i64 0]),(223,[shA s,.slice r1 0 Z.length none,.slice r2 0 Z.length none],.tuple [.bool true,.int .i64 0])] (fun M=>∃ext,M=m++ext)):=Hs fun e U M hM=>by
  obtain⟨ext,rfl⟩:=hM;simp only[lM] at U;rcases U with rfl | rfl | rfl | rfl | rfl | rfl
  ·exact rn s Z hZ hl hn _ b o1 o2 o3 (L ext) (G ext) (D ext)
  ·exact fM _ u 0 o4 [H,I,J] H (R ext) (by simp) (by simp) (by simp)
  ·exact fM _ u 1 o4 [H,I,J] I (R ext) (by simp) (by simp) (by simp[d01])
  ·exact fM _ u 2 o4 [H,I,J] J (R ext) (by simp) (by simp) (by simp[d02,d12])
  ·have:=rl s Z W hZ hY1 (by omega) hn hl1 acd (m++ext) b r1 o1 o2 o3 q1 (L ext) (G ext) (D ext) (X ext)
   rw[show W.length=Z.length by omega] at this;exact this
  ·have:=rl s W Y hY1 hY2 (by omega) hl1 hl2 aax (m++ext) r1 r2 o1 o2 q1 q2 (L ext) (G ext) (X ext) (F ext)
   rw[show Y.length=Z.length by omega,show W.length=Z.length by omega] at this;exact this
 have B:=qS.or' V S;clear V S;refine cE (lv:=kZ) (K:=5) B ?_;clear B;obtain⟨N,hN⟩:=xE Z.length;simp only[←hN] at C ⊢;simp[aa,ahK,f159,afF.or,ag,cc,Hr,shA,Hu,aT,ga,kZ,stC,R,C,w1,w2,w3]
end
variable{i:Nat}
theorem Qy{L:List (List UInt8)}{s:List UInt8}(h:L[i]? =some s):(stC L)[i]? =some (.str s):=by simp[stC,h]
theorem Xr(Q:List Rat):qC Q=stC (Q.map ax):=by simp[qC,stC]
def af0(N:Mem)(v:AV)(es n:Nat)(C:List AV):Prop:=(v=.qF∧n=0∧C=[])∨∃b o,v=.slice b 0 n none∧0<n∧N[b]? =some (.cells o es C)
variable{N:Mem}{n:Nat}{v:AV}
theorem af0.more{es:Nat}{C:List AV}(h:af0 N v es n C)(Z:Mem):af0 (N++Z) v es n C:=by
 rcases h with h | ⟨b,o,X,V,h3⟩
 ·exact .inl h
 ·exact .inr ⟨b,o,X,V,gU h3 _⟩
theorem iI:∀l:List (List UInt8×List UInt8),AV.afT (kC l)=true
 | []=>rfl
 |k::l=>by simp[kC,AV.afT,AV.closed,iI l]
theorem ahL:dH [0,0,3,7,0,0,48,112,255] 8=true:=by decide
variable{b:Code}
theorem Li{K:Nat}(L:List (List UInt8))(H:L.length≤1000)(I:L.length<K)(y:ah f240=[b]):
  ∃F:Env→Bool→Env,∀Z d,(ad Z 0=.slice 0 0 L.length none∧ad Z 1=.slice 1 0 L.length none∧ad Z 12=.int .i64 L.length∧ad Z 13=.int .i64 0)→
   aW (bh prog) (fun _=>[13]) cF K 26 2 true (.loop b) ⟨Z,[.cells false 1 (stC L),.cells false 1 (stC L)],d⟩=some (.exit 0,⟨F Z d,[.cells false 1 (stC L),.cells false 1 (stC L)],d⟩)∧True:=by
 refine bj (L:=[13]) rfl (fun Z=>ad Z 0=.slice 0 0 L.length none∧ad Z 1=.slice 1 0 L.length none∧ad Z 12=.int .i64 L.length∧ad Z 13=.int .i64 0) (fun _ _=>True) ?_;rintro Z d ⟨h0,h1,h12,h13⟩;obtain⟨S,V⟩:∃S,aG f240=S:=⟨_,rfl⟩
 have R:=cr V (ls:=[[0,0,3,7,0,0,48,112,255]]) (by kernel_rfl);simp only[aG,bQ,f240,List.nil_append,List.append_nil] at V;subst V;simp only[lB] at R;have e:=fun d=>k8 d
 simp[ah,aE,f240] at y;have X:aA [13] (ae b) Z ((13,.int .i64 ((0:Nat):Int))::Z)=aA [13] (ae b) Z Z:=by simp[aA,h13]
 rw[←X];refine bz (α:=Nat) (fun n=>⟨aA [13] (ae b) Z ((13,.int .i64 (n:Int))::Z),[.cells false 1 (stC L),.cells false 1 (stC L)],d⟩) (fun n=>L.length-n) (fun n=>n≤L.length) (.exit 0) _ d _ (by simp) ?_ K 0 (by omega) (by omega);rintro n Q;clear X;subst y;by_cases U:n<L.length
 ·obtain⟨z,O⟩:∃z,L[n]? =some z:=⟨L[n],List.getElem?_eq_getElem U⟩
  have M:=Qy O;have G:=pc L;have w1:IntKind.i64.wrap ((n:Int)+1)=((n+1:Nat):Int):=by rw[af];omega
  have C:n*1+1≤(stC L).length:=by omega
  clear G;left;obtain⟨v,D⟩:=xE (n+1);rw[←D] at w1;refine⟨v,?_⟩;simp[-aH,ak R,be,aV,aX,ahL,h0,h1,h12,U,M,w1];omega
 ·right
  simp[h12,U]
theorem VE(L:List (List UInt8))(y:L.length≤1000):
  kO prog 240 [.slice 0 0 L.length none,.slice 1 0 L.length none] [.cells false 1 (stC L),.cells false 1 (stC L)] (.bool true) [.cells false 1 (stC L),.cells false 1 (stC L)]:=by
 have U:aS prog 240=some f240:=by kernel_rfl
 obtain⟨b,Z⟩:∃b,ah f240=[b]:=⟨_,rfl⟩
 obtain⟨F,V⟩:=Li (K:=L.length+1) L y (by omega) Z;have X:=fun S d R Q h3 O=>(V S d ⟨R,Q,h3,O⟩).1
 clear V;simp[ah,aE,f240] at Z;subst Z;refine cE (lv:=(fun _=>[13])) (K:=(L.length+1)) (aw _) ?_;simp[aa,U,f240,X]
theorem VF(M:Mem):kO prog 240 [.qF,.qF] M (.bool true) M:=by
 have Z:aS prog 240=some f240:=by kernel_rfl
 refine cK (aw _) (lv:=fun _=>[13]) (K:=3) rfl rfl ?_ M;simp[aa,Z,f240,aT,ga]
theorem Xy{M:Mem}{x y:AV}{L:List (List UInt8)}(I:L.length≤1000)(J:af0 M x 1 L.length (stC L))(H:af0 M y 1 L.length (stC L)):kO prog 240 [x,y] M (.bool true) M:=by
 rcases J with⟨rfl,V,_⟩ | ⟨b,o,rfl,Q,U⟩
 ·rcases H with⟨rfl,_,_⟩ | ⟨Z,X,_,S,_⟩
  ·exact VF M
  ·omega
 ·rcases H with⟨_,V,_⟩ | ⟨Z,X,rfl,_,R⟩
  ·omega
  ·exact kO.ahj (rest:=[]) (dX L) (dX L) rfl rfl (VE L I) ⟨b,o,_,rfl,U,List.take_length⟩ ⟨Z,X,_,rfl,R,List.take_length⟩
theorem Lj{K:Nat}(L:List (List UInt8×List UInt8))(H:L.length≤1000)(I:L.length<K)(y:ah f200=[b]):
  ∃F:Env→Bool→Env,∀Z d,(ad Z 0=.slice 0 0 L.length none∧ad Z 1=.slice 1 0 L.length none∧ad Z 12=.int .i64 L.length∧ad Z 13=.int .i64 0)→
   aW (bh prog) (fun _=>[13]) cF K 26 2 true (.loop b) ⟨Z,[.cells false 2 (kC L),.cells false 2 (kC L)],d⟩=some (.exit 0,⟨F Z d,[.cells false 2 (kC L),.cells false 2 (kC L)],d⟩)∧True:=by
 refine bj (L:=[13]) rfl (fun Z=>ad Z 0=.slice 0 0 L.length none∧ad Z 1=.slice 1 0 L.length none∧ad Z 12=.int .i64 L.length∧ad Z 13=.int .i64 0) (fun _ _=>True) ?_;rintro Z d ⟨h0,h1,h12,h13⟩;obtain⟨S,V⟩:∃S,aG f200=S:=⟨_,rfl⟩
 have R:=cr V (ls:=[[0,0,3,7,0,0,48,112,255]]) (by kernel_rfl);simp only[aG,bQ,f200,List.nil_append,List.append_nil] at V;subst V;simp only[lB] at R;have e:=fun d=>N7 d
 simp[ah,aE,f200] at y;have X:aA [13] (ae b) Z ((13,.int .i64 ((0:Nat):Int))::Z)=aA [13] (ae b) Z Z:=by simp[aA,h13]
 rw[←X];refine bz (α:=Nat) (fun n=>⟨aA [13] (ae b) Z ((13,.int .i64 (n:Int))::Z),[.cells false 2 (kC L),.cells false 2 (kC L)],d⟩) (fun n=>L.length-n) (fun n=>n≤L.length) (.exit 0) _ d _ (by simp) ?_ K 0 (by omega) (by omega);rintro n Q;clear X;subst y;by_cases U:n<L.length
 ·obtain⟨z,O⟩:∃z,L[n]? =some z:=⟨L[n],List.getElem?_eq_getElem U⟩
  have M:=(EV O).1;have G:=oQ L;have w1:IntKind.i64.wrap ((n:Int)+1)=((n+1:Nat):Int):=by rw[af];omega
  have D:n*2+2≤(kC L).length:=by omega
  clear G;left;obtain⟨v,C⟩:=xE (n+1);rw[←C] at w1;refine⟨v,?_⟩;simp[-aH,ak R,be,aV,aX,ahL,h0,h1,h12,U,M,D,w1,e];omega
 ·right
  simp[h12,U]
theorem VH(L:List (List UInt8×List UInt8))(y:L.length≤1000):
  kO prog 200 [.slice 0 0 L.length none,.slice 1 0 L.length none] [.cells false 2 (kC L),.cells false 2 (kC L)] (.bool true) [.cells false 2 (kC L),.cells false 2 (kC L)]:=by
 have U:aS prog 200=some f200:=by kernel_rfl
 obtain⟨b,Z⟩:∃b,ah f200=[b]:=⟨_,rfl⟩
 obtain⟨F,V⟩:=Lj (K:=L.length+1) L y (by omega) Z;have X:=fun S d R Q h3 O=>(V S d ⟨R,Q,h3,O⟩).1
 clear V;simp[ah,aE,f200] at Z;subst Z;refine cE (lv:=(fun _=>[13])) (K:=(L.length+1)) (aw _) ?_;simp[aa,U,f200,X]
theorem VI(M:Mem):kO prog 200 [.qF,.qF] M (.bool true) M:=by
 have Z:aS prog 200=some f200:=by kernel_rfl
 refine cK (aw _) (lv:=fun _=>[13]) (K:=3) rfl rfl ?_ M;simp[aa,Z,f200,aT,ga]
theorem Xz{M:Mem}{x y:AV}{L:List (List UInt8×List UInt8)}(I:L.length≤1000)(J:af0 M x 2 L.length (kC L))(H:af0 M y 2 L.length (kC L)):kO prog 200 [x,y] M (.bool true) M:=by
 rcases J with⟨rfl,V,_⟩ | ⟨b,o,rfl,Q,U⟩
 ·rcases H with⟨rfl,_,_⟩ | ⟨Z,X,_,S,_⟩
  ·exact VI M
  ·omega
 ·rcases H with⟨_,V,_⟩ | ⟨Z,X,rfl,_,R⟩
  ·omega
  ·exact kO.ahj (rest:=[]) (iI L) (iI L) rfl rfl (VH L I) ⟨b,o,_,rfl,U,List.take_length⟩ ⟨Z,X,_,rfl,R,List.take_length⟩
theorem Lk{K:Nat}(L:List (List UInt8))(I:L.length≤1000)(J:L.length<K)(H:ah f198=[b]):
  ∃F:Env→Bool→Env,∀Z d,(ad Z 0=.slice 0 0 L.length none∧ad Z 1=.slice 1 0 L.length none∧ad Z 12=.int .i64 L.length∧ad Z 13=.int .i64 0)→
   aW (bh prog) (fun _=>[13]) cF K 26 2 true (.loop b) ⟨Z,[.cells false 1 (stC L),.cells false 1 (stC L)],d⟩=some (.exit 0,⟨F Z d,[.cells false 1 (stC L),.cells false 1 (stC L)],d⟩)∧True:=by
 refine bj (L:=[13]) rfl (fun Z=>ad Z 0=.slice 0 0 L.length none∧ad Z 1=.slice 1 0 L.length none∧ad Z 12=.int .i64 L.length∧ad Z 13=.int .i64 0) (fun _ _=>True) ?_;rintro Z d ⟨h0,h1,h12,h13⟩;obtain⟨S,V⟩:∃S,aG f198=S:=⟨_,rfl⟩
 have R:=cr V (ls:=[[0,0,3,7,0,0,48,112,255]]) (by kernel_rfl);simp only[aG,bQ,f198,List.nil_append,List.append_nil] at V;subst V;simp only[lB] at R;have e:=fun d x y=>BX d x y
 simp[ah,aE,f198] at H;have X:aA [13] (ae b) Z ((13,.int .i64 ((0:Nat):Int))::Z)=aA [13] (ae b) Z Z:=by simp[aA,h13]
 rw[←X];refine bz (α:=Nat) (fun n=>⟨aA [13] (ae b) Z ((13,.int .i64 (n:Int))::Z),[.cells false 1 (stC L),.cells false 1 (stC L)],d⟩) (fun n=>L.length-n) (fun n=>n≤L.length) (.exit 0) _ d _ (by simp) ?_ K 0 (by omega) (by omega);rintro n Q;clear X;subst H;by_cases U:n<L.length
 ·obtain⟨z,O⟩:∃z,L[n]? =some z:=⟨L[n],List.getElem?_eq_getElem U⟩
  have M:=Qy O;have G:=pc L;have w1:IntKind.i64.wrap ((n:Int)+1)=((n+1:Nat):Int):=by rw[af];omega
  have C:n*1+1≤(stC L).length:=by omega
  clear G;left;obtain⟨v,D⟩:=xE (n+1);rw[←D] at w1;refine⟨v,?_⟩;simp[-aH,ak R,be,aV,aX,ahL,h0,h1,h12,U,M,w1];omega
 ·right
  simp[h12,U]
theorem VJ(L:List (List UInt8))(y:L.length≤1000):
  kO prog 198 [.slice 0 0 L.length none,.slice 1 0 L.length none] [.cells false 1 (stC L),.cells false 1 (stC L)] (.bool true) [.cells false 1 (stC L),.cells false 1 (stC L)]:=by
 have U:aS prog 198=some f198:=by kernel_rfl
 obtain⟨b,Z⟩:∃b,ah f198=[b]:=⟨_,rfl⟩
 obtain⟨F,V⟩:=Lk (K:=L.length+1) L y (by omega) Z;have X:=fun S d R Q h3 O=>(V S d ⟨R,Q,h3,O⟩).1
 clear V;simp[ah,aE,f198] at Z;subst Z;refine cE (lv:=(fun _=>[13])) (K:=(L.length+1)) (aw _) ?_;simp[aa,U,f198,X]
theorem VK(M:Mem):kO prog 198 [.qF,.qF] M (.bool true) M:=by
 have Z:aS prog 198=some f198:=by kernel_rfl
 refine cK (aw _) (lv:=fun _=>[13]) (K:=3) rfl rfl ?_ M;simp[aa,Z,f198,aT,ga]
theorem XA{M:Mem}{x y:AV}{L:List (List UInt8)}(I:L.length≤1000)(J:af0 M x 1 L.length (stC L))(H:af0 M y 1 L.length (stC L)):kO prog 198 [x,y] M (.bool true) M:=by
 rcases J with⟨rfl,V,_⟩ | ⟨b,o,rfl,Q,U⟩
 ·rcases H with⟨rfl,_,_⟩ | ⟨Z,X,_,S,_⟩
  ·exact VK M
  ·omega
 ·rcases H with⟨_,V,_⟩ | ⟨Z,X,rfl,_,R⟩
  ·omega
  ·exact kO.ahj (rest:=[]) (dX L) (dX L) rfl rfl (VJ L I) ⟨b,o,_,rfl,U,List.take_length⟩ ⟨Z,X,_,rfl,R,List.take_length⟩
theorem Ce{M:Mem}{x y:AV}{L:List (List UInt8)}(H:L.length≤1000)(I:af0 M x 1 L.length (stC L))(J:af0 M y 1 L.length (stC L)):kO prog 197 [x,y] M (.bool true) M:=by
 have X:aS prog 197=some f197:=by kernel_rfl
 have Z:qS prog (gH 240 [x,y] (.bool true) (fun N=>N=M)):=iM fun N V=>by subst V;exact Xy H I J
 refine er Z ?_;clear Z;simp[aa,X,f197,gH]
def ahb(N:Mem)(v:AV)(S:List (List (List UInt8))):Prop:=∃Z,Z.length=S.length∧af0 N v 1 S.length Z∧∀(i:Nat) x L,Z[i]? =some x→S[i]? =some L→af0 N x 1 L.length (stC L)
theorem ahb.more{S:List (List (List UInt8))}(h:ahb N v S)(Z:Mem):ahb (N++Z) v S:=by obtain⟨X,V,U,h3⟩:=h;exact⟨X,V,U.more Z,fun i x L a b=>(h3 i x L a b).more Z⟩
noncomputable def G1(vs H:List AV)(m:Mem):afF:=o9 fun c a N r=>∃(i:Nat) (x y:AV),vs[i]? =some x∧H[i]? =some y∧c=.fn 197∧a=[x,y]∧N=m∧r=⟨.bool true,none,[]⟩
variable{m:Mem}{vs ws:List AV}
theorem OI{x y:AV}(h1:vs[i]? =some x)(h2:ws[i]? =some y):G1 vs ws m (.fn 197) [x,y] m=some ⟨.bool true,none,[]⟩:=
 gx ⟨i,x,y,h1,h2,rfl,rfl,rfl,rfl⟩ fun r' ⟨_,_,_,_,_,_,_,_,h⟩=>h
variable{w:AV}
theorem Ln(lv:vs.length=n)(W:ws.length=n)(I:af0 m v 1 n vs)(J:af0 m w 1 n ws)(Y:n≤1000){K m0:Nat}(hK:n<K)(H:ah f241=[b]):
  ∃F:Env→Bool→Env,∀Z d,(ad Z 15=v∧ad Z 1=w∧ad Z 2=.func 197 []∧ad Z 16=.int .i64 n∧ad Z 17=.int .i64 0)→
   aW (bh prog) (fun _=>[17,17,17]) (G1 vs ws m) K 32 m0 true (.loop b) ⟨Z,m,d⟩=some (.exit 0,⟨F Z d,m,d⟩)∧True:=by
 refine bj rfl (fun Z=>ad Z 15=v∧ad Z 1=w∧ad Z 2=.func 197 []∧ad Z 16=.int .i64 n∧ad Z 17=.int .i64 0) (fun _ _=>True) ?_;rintro Z d ⟨h15,h1,h2,h16,h17⟩;simp[ah,aE,f241] at H;have S:aA [17,17,17] (ae b) Z ((17,.int .i64 ((0:Nat):Int))::Z)=aA [17,17,17] (ae b) Z Z:=by simp[aA,h17]
 rw[←S];refine bz (α:=Nat) (fun i=>⟨aA [17,17,17] (ae b) Z ((17,.int .i64 (i:Int))::Z),m,d⟩) (fun i=>n-i) (fun i=>i≤n) (.exit 0) _ d _ (by simp) ?_ K 0 (by omega) (by omega);rintro i C;clear S;by_cases R:i<n
 ·obtain⟨x,X⟩:∃x,vs[i]? =some x:=⟨_,List.getElem?_eq_getElem (by omega)⟩
  obtain⟨y,V⟩:∃y,ws[i]? =some y:=⟨_,List.getElem?_eq_getElem (by omega)⟩
  have w1:IntKind.i64.wrap ((i:Int)+1)=((i+1:Nat):Int):=by rw[af];omega
  have Q:=OI (m:=m) X V;have O:=gL X;have M:=gL V;have L :∀h,vs[i]'h=x:=fun h=>by rw[List.getElem?_eq_getElem h] at X;exact Option.some.inj X
  have U :∀h,ws[i]'h=y:=fun h=>by rw[List.getElem?_eq_getElem h] at V;exact Option.some.inj V
  rcases I with⟨_,h,_⟩ | ⟨B,u,rfl,_,G⟩
  ·omega
  rcases J with⟨_,h,_⟩ | ⟨o,j,rfl,_,D⟩
  ·omega
  left;refine⟨i+1,?_⟩;refine br (show i+1≤n∧n-(i+1)<n-i from⟨by omega,by omega⟩) ?_;subst H;simp[h15,h1,h2,h16,R,G,D,L,U,O,M,Q,w1]
 ·right
  subst H;simp[h16,R]
section
variable{S:List (List (List UInt8))}(hv:ahb m v S)(hw:ahb m w S)(hl:S.length≤1000)(hS:∀L∈S,L.length≤1000)
include S hv hw hl hS
theorem VG:
  kO prog 241 [v,w,.func 197 []] m (.bool true) m:=by
 have D:aS prog 241=some f241:=by kernel_rfl
 obtain⟨vs,C,r1,B⟩:=hv;obtain⟨ws,u,r2,j⟩:=hw;have O:qS prog (G1 vs ws m):=uf fun c a N r Y=>by
  obtain⟨i,x,y,M,W,rfl,rfl,rfl,rfl⟩:=Y;have I:=gL M;obtain⟨L,X⟩:∃L,S[i]? =some L:=⟨_,List.getElem?_eq_getElem (by omega)⟩
  exact bG (Ce (hS L (List.mem_of_getElem? X)) (B i x L M X) (j i y L W X))
 obtain⟨b,V⟩:∃b,ah f241=[b]:=⟨_,rfl⟩
 obtain⟨F,G⟩:=Ln (m0:=m.length) (K:=S.length+1) C u r1 r2 hl (by omega) V;have U:=fun J d h=>(G J d h).1
 clear G;simp[ah,aE,f241] at V;subst V;have R:∀Z,XE (bh prog) 49 Z v=some (.int .i64 S.length):=fun Z =>by
  rcases r1 with⟨rfl,h,_⟩ | ⟨b,o,rfl,_⟩
  ·rw[h];simp
  ·simp
 have Q:∀Z,XE (bh prog) 49 Z w=some (.int .i64 S.length):=fun Z =>by
  rcases r2 with⟨rfl,h,_⟩ | ⟨b,o,rfl,_⟩
  ·rw[h];simp
  ·simp
 refine cE (lv:=(fun _=>[17,17,17])) (K:=(S.length+1)) O ?_;clear O;simp[-XE,R,Q,aa,D,f241,U]
theorem RO:kO prog 199 [v,w] m (.bool true) m:=by
 have X:aS prog 199=some f199:=by kernel_rfl
 have Z:qS prog (gH 241 [v,w,.func 197 []] (.bool true) (fun N=>N=m)):=iM fun N V=>by subst V;exact VG hv hw hl hS
 refine er Z ?_;clear Z;simp[aa,X,f199,gH]
end
structure Evc.Ok (c:Evc):Prop where
 B:c.B.length≤1000
 U:c.U.length≤1000
 S:c.S.length≤2
 SL:∀L∈c.S,L.length≤1000
 K:c.K.length≤1000
def agL(N:Mem)(y:List AV)(c:Evc):Prop:=∃b u s Z,y=c.cells b u s Z∧af0 N b 1 c.B.length (stC c.B)∧af0 N u 1 c.U.length (stC c.U)∧ahb N s c.S∧af0 N Z 2 c.K.length (kC c.K)
variable{c:Evc}
theorem agL.more{y:List AV}(h:agL N y c)(Z:Mem):agL (N++Z) y c:=by obtain⟨b,u,s,X,V,U,h3,S,R⟩:=h;exact⟨b,u,s,X,V,U.more Z,h3.more Z,S.more Z,R.more Z⟩
def wT(b H u I s s' J y :AV)(m:Mem)(c:Go.Eng.Callee)(a:List AV)(N:Mem)(r:y9):Prop:=(∃Z,N=m++Z)∧((c=.fn 197∧a=[b,H])∨(c=.fn 198∧a=[u,I])∨(c=.fn 199∧a=[s,s'])∨(c=.fn 200∧a=[J,y]))∧r=⟨.bool true,none,[]⟩
theorem QT{e y :List AV}(hc:c.Ok)(h:agL m e c)(h' :agL m y c):kO prog 133 [.agg e,.agg y] m (.bool true) m:=by
 obtain⟨b,u,s,V,rfl,G,F,h3,D⟩:=h;obtain⟨R,Q,O,X,rfl,C,o,j,Y⟩:=h';have W:qS prog (o9 (wT b R u Q s O V X m)):=uf fun f a N r M=>by
  obtain⟨⟨Z,rfl⟩,M,rfl⟩:=M;rcases M with⟨rfl,rfl⟩ | ⟨rfl,rfl⟩ | ⟨rfl,rfl⟩ | ⟨rfl,rfl⟩
  ·exact bG (Ce hc.B (G.more Z) (C.more Z))
  ·exact bG (XA hc.U (F.more Z) (o.more Z))
  ·exact bG (RO (h3.more Z) (j.more Z) (by have:=hc.S;omega) hc.SL)
  ·exact bG (Xz hc.K (D.more Z) (Y.more Z))
 exact QU W (gx (S:=wT b R u Q s O V X m) ⟨⟨_,rfl⟩,.inl ⟨rfl,rfl⟩,rfl⟩ fun L h=>h.2.2) (gx (S:=wT b R u Q s O V X m) ⟨⟨_,rfl⟩,.inr (.inl ⟨rfl,rfl⟩),rfl⟩ fun L h=>h.2.2)
  (gx (S:=wT b R u Q s O V X m) ⟨⟨_,rfl⟩,.inr (.inr (.inl ⟨rfl,rfl⟩)),rfl⟩ fun L h=>h.2.2) (gx (S:=wT b R u Q s O V X m) ⟨⟨_,rfl⟩,.inr (.inr (.inr ⟨rfl,rfl⟩)),rfl⟩ fun L h=>h.2.2)
theorem Bh(y:c.B=[])(H:c.U=[])(hS:c.S=[])(I:c.K.length≤1000):c.Ok:=⟨by simp[y],by simp[H],by simp[hS],by simp[hS],I⟩
def hT(Z:List Int):List (List UInt8):=(qH Z).map ax
end Go.Proofs
