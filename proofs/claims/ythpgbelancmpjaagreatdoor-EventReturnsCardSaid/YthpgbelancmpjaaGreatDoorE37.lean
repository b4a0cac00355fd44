/- See E54. -/
import Derived.Test.YthpgbelancmpjaaGreatDoorE35
set_option linter.all false
set_option maxRecDepth 100000
set_option maxHeartbeats 40000000
namespace Go.Proofs
open Go.Eng
open Tryz
def Aa(s:List UInt8):Nat→List (List UInt8)→Int
 |_,[]=> -1
 |i,x::l=>if s=x then (i:Int) else Aa s (i+1) l
theorem NW{s:List UInt8}:∀{i:Nat} {l:List (List UInt8)},Aa s i l<0↔s∉l
 |i,[]=>by simp[Aa]
 |i,x::l=>by
  unfold Aa;by_cases h:s=x
  ·rw[if_pos h];simp[h]
  ·rw[if_neg h,NW];simp[h]
theorem RV{s:List UInt8}:∀{i:Nat} {l:List (List UInt8)},-1≤Aa s i l
 |i,[]=>by unfold Aa;omega
 |i,x::l=>by
  unfold Aa;split
  ·omega
  ·exact RV
theorem AH{O:y9}{K:Nat}(L:List (List UInt8))(s:List UInt8)(I:L.length≤1000000000)(J:L.length<K){b:Code}(H:ah f273=[b]):
  ∃F:Env→Bool→Env,∀Z d,(ad Z 0=.slice 0 0 L.length none∧ad Z 1=.str s∧ad Z 7=.int .i64 L.length∧ad Z 8=.int .i64 0)→
   aS (aV prog) (fun _=>[8]) O K 19 1 true (.loop b) ⟨Z,[.cells false 1 (stC L)],d⟩=some (if Aa s 0 L<0 then .exit 0 else .ret,⟨F Z d,[.cells false 1 (stC L)],d⟩)∧
    (¬Aa s 0 L<0→ad (F Z d) 4=.int .i64 (Aa s 0 L)):=by
 refine bw rfl (fun Z=>ad Z 0=.slice 0 0 L.length none∧ad Z 1=.str s∧ad Z 7=.int .i64 L.length∧ad Z 8=.int .i64 0) (fun _ D =>¬Aa s 0 L<0→ad D 4=.int .i64 (Aa s 0 L)) ?_;rintro Z d ⟨h0,X,h7,h8⟩;simp[ah,aG,f273] at H;have N:aw [8] (ae b) Z ((8,.int .i64 ((0:Nat):Int))::Z)=aw [8] (ae b) Z Z:=by simp[aw,h8]
 rw[←N];have M:(stC L).length=L.length:=nq L;refine bO (α:=Nat) (fun n=>⟨aw [8] (ae b) Z ((8,.int .i64 (n:Int))::Z),[.cells false 1 (stC L)],d⟩) (fun n=>L.length-n) (fun n=>n≤L.length∧Aa s 0 L=Aa s n (L.drop n)) _ _ d _ (by split<;>simp) ?_ K 0 ⟨by omega,by rw[List.drop_zero]⟩ (by omega);rintro n ⟨Y9,he⟩;clear N;subst H;by_cases V:n<L.length
 ·obtain⟨x,S⟩:∃x,L[n]? =some x:=⟨L[n],List.getElem?_eq_getElem V⟩
  have G:∀h,(stC L)[n]'h=.str x:=fun h=>by have:=On S;rw[List.getElem?_eq_getElem h] at this;exact Option.some.inj this
  have C:L.drop n=x::L.drop (n+1):=by rw[List.getElem?_eq_some_iff] at S;obtain⟨X,B⟩:=S;rw[←B];exact List.drop_eq_getElem_cons X
  rw[C,Aa] at he;have w1:IntKind.i64.wrap ((n:Int)+1)=((n+1:Nat):Int):=by rw[af];omega
  by_cases U:s=x
  ·right
   rw[if_pos U] at he;subst U;have R:¬(n:Int)<0:=by omega
   rw[he,if_neg R];simp[h0,X,h7,V,M,G]
  ·left
   rw[if_neg U] at he;have H:(s==x)=false:=by simpa using U
   refine⟨n+1,?_⟩;refine bH (show(n+1≤L.length∧Aa s 0 L=Aa s (n+1) (L.drop (n+1)))∧L.length-(n+1)<L.length-n from⟨⟨by omega,he⟩,by omega⟩) ?_;simp[h0,X,h7,V,M,G,H,w1]
 ·right
  have e:L.drop n=[]:=List.drop_of_length_le (by omega);rw[e,Aa] at he;rw[he,if_pos (by decide)];simp[h7,V]
theorem GI(L:List (List UInt8))(s:List UInt8)(H:L.length≤1000000000):
  kO prog 273 [.slice 0 0 L.length none,.str s] [.cells false 1 (stC L)] (.int .i64 (Aa s 0 L)) [.cells false 1 (stC L)]:=by
 have R:aT prog 273=some f273:=by kernel_rfl
 obtain⟨b,V⟩:∃b,ah f273=[b]:=⟨_,rfl⟩
 obtain⟨F,Z⟩:=AH (O:=cu) (K:=L.length+1) L s H (by omega) V;simp[ah,aG,f273] at V;subst V;refine ca (lv:=(fun _=>[8])) (K:=(L.length+1)) (az _) ?_;by_cases U:Aa s 0 L<0
 ·rw[if_pos U] at Z
  have S:=fun X d h=>(Z X d h).1
  clear Z;have N:Aa s 0 L= -1:=by have:=RV (s:=s) (i:=0) (l:=L);omega
  rw[N];simp[aa,R,f273,S]
 ·rw[if_neg U] at Z
  have S:=fun X d h=>(Z X d h).1
  have M:=fun X d h=>(Z X d h).2 U
  clear Z;simp[aa,R,f273,S,M]
theorem CB(s:List UInt8)(M:Mem):kO prog 273 [.qF,.str s] M (.int .i64 (-1)) M:=by
 have Z:aT prog 273=some f273:=by kernel_rfl
 refine cE (az _) (lv:=fun _=>[8]) (K:=1) rfl rfl ?_ M;simp[aa,Z,f273,bh,fy]
variable{L:List (List UInt8)}{M:Mem}{x:AV}
theorem GH(s:List UInt8)(H:L.length≤1000000000)(I:sts M x=some L):kO prog 273 [x,.str s] M (.int .i64 (Aa s 0 L)) M:=by
 rcases UZ I with h | ⟨rfl,rfl⟩
 ·exact kO.afX (rest:=[.str s]) (dM L) rfl rfl (GI L s H) h
 ·exact CB s M
noncomputable def Fc:y9:=fun c Z M=>match c,Z with
 |.fn 273,[x,.str s]=>match sts M x with
  |some L=>if L.length≤1000000000 then some ⟨.int .i64 (Aa s 0 L),none,[]⟩ else none
  |none=>none
 |c,Z=>cu c Z M
theorem Pa:qS prog Fc:=by
 refine cq fun c Z M r h=>?_
 unfold Fc at h;split at h
 ·split at h
  ·rename_i L X
   split at h
   ·rename_i V
    cases h;refine aC ?_;rw[List.append_nil];exact GH _ V X
   ·cases h
  ·cases h
 ·exact eW (az _) h
theorem Ak(s:List UInt8)(H:L.length≤1000000000)(I:sts M x=some L):kO prog 234 [x,.str s] M (.bool (decide (s∈L))) M:=by
 have Z:aT prog 234=some f234:=by kernel_rfl
 have X:decide (0≤Aa s 0 L)=decide (s∈L):=by
  rw[decide_eq_decide];have:=NW (s:=s) (i:=0) (l:=L);by_cases h:s∈L
  ·simp only[h,iff_true]
   exact Int.not_lt.1 fun e=>this.1 e h
  ·simp only[h,iff_false]
   have:=this.2 h;omega
 refine gT Pa ?_;rw[←X];simp[aa,Z,f234,Fc,I,H]
end Go.Proofs
namespace Go.Proofs
open Go.Eng
open Tryz
open Classical in
noncomputable def FN(L:List (FuncId×List AV×AV))(p:Mem→Prop):y9:=fun c a M=>if p M then ag (dx L) c a M else none
theorem FO{P:Program}{L:List (FuncId×List AV×AV)}{p:Mem→Prop}(h:∀x∈L,∀M,p M→kO P x.1 x.2.1 M x.2.2 M):qS P (FN L p):=by
 have k:∀f a v,dx L f a=some v→∃x∈L,f=x.1∧a=x.2.1∧v=x.2.2:=by
  clear h;intro f a v X;induction L with
  |nil=>simp[dx] at X
  |cons x L ih=>
   rw[dx] at X;split at X
   ·rename_i N
    cases X;exact⟨x,by simp,N.1,N.2,rfl⟩
   ·obtain⟨y,K,V⟩:=ih X
    exact⟨y,by simp[K],V⟩
 have U:∀c a M r,FN L p c a M=some r→p M∧∃f,c=.fn f∧∃x∈L,f=x.1∧a=x.2.1∧r=⟨x.2.2,none,[]⟩:=by
  intro c a M r Z;unfold FN at Z;split at Z
  ·rename_i S
   refine⟨S,?_⟩;unfold ag at Z;split at Z
   ·rename_i f
    split at Z
    ·rename_i v X
     cases Z;obtain⟨x,R,V,G,h3⟩:=k _ _ _ X;exact⟨f,rfl,x,R,V,G,by rw[h3]⟩
    ·cases Z
   ·cases Z
  ·cases Z
 refine⟨fun f a M r Z=>?_,fun b a M r Z=>?_,fun c a M r q Z F=>?_⟩
 ·obtain⟨S,g,O,x,R,V,rfl,rfl⟩:=U _ _ _ _ Z
  cases O;subst V;simpa [aee.mem] using h x R M S
 ·obtain⟨_,g,O,_⟩:=U _ _ _ _ Z
  cases O
 ·obtain⟨_,g,_,x,_,_,_,rfl⟩:=U _ _ _ _ Z
  cases F
def kf(c:Code):List Nat:=if (ae c).contains 35 then [35] else [10,65]
theorem fB(M:Mem)(u k:Nat)(o:Bool)(U:List (List UInt8))(s:List UInt8)(H:M[u]? =some (.cells o 1 (stC U)))(hk:k≤U.length)(J:U.length≤3)(I:s∉U.take k):
  kO prog 234 [.slice u 0 k none,.str s] M (.bool false) M:=by
 have h:sts M (.slice u 0 k none)=some (U.take k):=by
  have Z:(stC U).take (k*1)=stC (U.take k):=by simp[stC,List.map_take]
  unfold sts;rw[Rm H (by rw[nq];omega) Z];exact SX _
 have:=Ak (M:=M) s (by rw[List.length_take];omega) h
 rwa [decide_eq_false I] at this
theorem aga:aT prog 155=some f155:=by kernel_rfl
section
variable (s:aeo)(nm:List UInt8)
include s nm
theorem Gw(H:List UInt8)(n0:H∈jV)(Z:List Int)(hZ:∀z∈Z,z.natAbs<1000)(hl:Z.length≤1000)(hn:Z.length=s.P.length)(m:Mem)(b u:Nat)(o1 o2 o3 J:Bool)(W:m[0]? =some (.cells o1 2 (pC s.P)))(hq:m[1]? =some (.cells o2 3 (tC s.T)))(I:m[b]? =some (.cells o3 1 (qC (qH Z))))(Y:m[u]? =some (.cells J 1 (stC [H]))):
  kO prog 155 [shA s,.agg (FQ nm (.slice b 0 Z.length none) (.slice u 0 1 none) (.qF))] m (.int .i64 0) m:=by
 have O:=gL W;have L:=gL hq;have G:=gL I;have F:=gL Y;have D:=fun ext:Mem=>(List.getElem?_append_left (l₂:=ext) O).trans W
 have C:=fun ext:Mem=>(List.getElem?_append_left (l₂:=ext) L).trans hq
 have B:=fun ext:Mem=>(List.getElem?_append_left (l₂:=ext) G).trans I
 have U:=fun ext:Mem=>(List.getElem?_append_left (l₂:=ext) F).trans Y
 have X:qS prog (ag (dx [(71,[.str H],.int .i64 0)])):=eG fun e V M=>by simp only[lM] at V;rcases V with rfl;exact gf _ n0 M
 have S:qS prog (FN [(118,[shA s,.slice b 0 Z.length none],.int .i64 0),(234,[.slice u 0 0 none,.str H],.bool false)] (fun M=>∃ext,M=m++ext)):=FO fun e V M A=>by
  obtain⟨ext,rfl⟩:=A;simp only[lM] at V;rcases V with rfl | rfl
  ·exact qc s Z hZ hl hn _ b o1 o2 o3 (D ext) (C ext) (B ext)
  ·exact fB _ u 0 J [H] H (U ext) (by simp) (by simp) (by simp)
 have R:=qS.or' X S;clear X S;refine ca (lv:=kf) (K:=5) R ?_;clear R;obtain⟨N,o⟩:=xE Z.length;simp only[←o] at I ⊢;simp[aa,aga,f155,y9.or,ag,dx,FN,shA,FQ,bh,fy,kf,stC,U,w0,w1]
theorem Gx(H I:List UInt8)(n0:H∈jV)(n1:I∈jV)(W:I≠H)(Z:List Int)(hZ:∀z∈Z,z.natAbs<1000)(hl:Z.length≤1000)(hn:Z.length=s.P.length)(J:List Int)(Y:∀z∈J,z.natAbs<1000)(YY:J.length=s.P.length)(ZG:∀(i:Nat) z y,Z[i]? =some z→J[i]? =some y→z≤y)(m:Mem)(b u c r1:Nat)(o1 o2 o3 o4 o5 q1:Bool)(hp:m[0]? =some (.cells o1 2 (pC s.P)))(hq:m[1]? =some (.cells o2 3 (tC s.T)))(hb:m[b]? =some (.cells o3 1 (qC (qH Z))))(hu:m[u]? =some (.cells o4 1 (stC [H,I])))(hc:m[c]? =some (.cells o5 1 [.slice r1 0 Z.length none]))(YH:m[r1]? =some (.cells q1 1 (qC (qH J)))):
  kO prog 155 [shA s,.agg (FQ nm (.slice b 0 Z.length none) (.slice u 0 2 none) (.slice c 0 1 none))] m (.int .i64 0) m:=by
 have B:=gL hp;have A:=gL hq;have o:=gL hb;have j:=gL hu;have lc:=gL hc;have U:=gL YH;have O:=fun ext:Mem=>(List.getElem?_append_left (l₂:=ext) B).trans hp
 have L:=fun ext:Mem=>(List.getElem?_append_left (l₂:=ext) A).trans hq
 have G:=fun ext:Mem=>(List.getElem?_append_left (l₂:=ext) o).trans hb
 have S:=fun ext:Mem=>(List.getElem?_append_left (l₂:=ext) j).trans hu
 have F:=fun ext:Mem=>(List.getElem?_append_left (l₂:=ext) lc).trans hc
 have R:=fun ext:Mem=>(List.getElem?_append_left (l₂:=ext) U).trans YH
 have X:qS prog (ag (dx [(71,[.str H],.int .i64 0),(71,[.str I],.int .i64 0)])):=eG fun e V M=>by
  simp only[lM] at V;rcases V with rfl | rfl
  ·exact gf _ n0 M
  ·exact gf _ n1 M
 have D:qS prog (FN [(118,[shA s,.slice b 0 Z.length none],.int .i64 0),(234,[.slice u 0 0 none,.str H],.bool false),(234,[.slice u 0 1 none,.str I],.bool false),(235,[shA s,.slice b 0 Z.length none,.slice r1 0 Z.length none],.tuple [.bool true,.int .i64 0])] (fun M=>∃ext,M=m++ext)):=FO fun e V M hM=>by
  obtain⟨ext,rfl⟩:=hM;simp only[lM] at V;rcases V with rfl | rfl | rfl | rfl
  ·exact qc s Z hZ hl hn _ b o1 o2 o3 (O ext) (L ext) (G ext)
  ·exact fB _ u 0 o4 [H,I] H (S ext) (by simp) (by simp) (by simp)
  ·exact fB _ u 1 o4 [H,I] I (S ext) (by simp) (by simp) (by simp[W])
  ·have:=p9 s Z J hZ Y (by omega) hn YY ZG (m++ext) b r1 o1 o2 o3 q1 (O ext) (L ext) (G ext) (R ext)
   rw[show J.length=Z.length by omega] at this;exact this
 have C:=qS.or' X D;clear X D;refine ca (lv:=kf) (K:=5) C ?_;clear C;obtain⟨N,hN⟩:=xE Z.length;simp only[←hN] at F ⊢;simp[aa,aga,f155,y9.or,ag,dx,FN,shA,FQ,bh,fy,kf,stC,S,F,w1,w2]
theorem Gy(H I J:List UInt8)(n0:H∈jV)(n1:I∈jV)(n2:J∈jV)(d01:I≠H)(d02:J≠H)(d12:J≠I)(Z:List Int)(hZ:∀z∈Z,z.natAbs<1000)(hl:Z.length≤1000)(hn:Z.length=s.P.length)(W Y:List Int)(hY1:∀z∈W,z.natAbs<1000)(YY:W.length=s.P.length)(ZG:∀(i:Nat) z y,Z[i]? =some z→W[i]? =some y→z≤y)(hY2:∀z∈Y,z.natAbs<1000)(Yb:Y.length=s.P.length)(YE:∀(i:Nat) z y,W[i]? =some z→Y[i]? =some y→z≤y)(m:Mem)(b u c r1 r2:Nat)(o1 o2 o3 o4 o5 q1 q2:Bool)(hp:m[0]? =some (.cells o1 2 (pC s.P)))(hq:m[1]? =some (.cells o2 3 (tC s.T)))(hb:m[b]? =some (.cells o3 1 (qC (qH Z))))(hu:m[u]? =some (.cells o4 1 (stC [H,I,J])))(hc:m[c]? =some (.cells o5 1 [.slice r1 0 Z.length none,.slice r2 0 Z.length none]))(YH:m[r1]? =some (.cells q1 1 (qC (qH W))))(Yu:m[r2]? =some (.cells q2 1 (qC (qH Y)))):
  kO prog 155 [shA s,.agg (FQ nm (.slice b 0 Z.length none) (.slice u 0 3 none) (.slice c 0 2 none))] m (.int .i64 0) m:=by
 have o:=gL hp;have j:=gL hq;have lb:=gL hb;have lu:=gL hu;have lc:=gL hc;have R:=gL YH;have O:=gL Yu;have L:=fun ext:Mem=>(List.getElem?_append_left (l₂:=ext) o).trans hp
 have G:=fun ext:Mem=>(List.getElem?_append_left (l₂:=ext) j).trans hq
 have D:=fun ext:Mem=>(List.getElem?_append_left (l₂:=ext) lb).trans hb
 have S:=fun ext:Mem=>(List.getElem?_append_left (l₂:=ext) lu).trans hu
 have C:=fun ext:Mem=>(List.getElem?_append_left (l₂:=ext) lc).trans hc
 have X:=fun ext:Mem=>(List.getElem?_append_left (l₂:=ext) R).trans YH
 have F:=fun ext:Mem=>(List.getElem?_append_left (l₂:=ext) O).trans Yu
 have V:qS prog (ag (dx [(71,[.str H],.int .i64 0),(71,[.str I],.int .i64 0),(71,[.str J],.int .i64 0)])):=eG fun e U M=>by
  simp only[lM] at U;rcases U with rfl | rfl | rfl
  ·exact gf _ n0 M
  ·exact gf _ n1 M
  ·exact gf _ n2 M
 have B:qS prog (FN [(118,[shA s,.slice b 0 Z.length none],.int .i64 0),(234,[.slice u 0 0 none,.str H],.bool false),(234,[.slice u 0 1 none,.str I],.bool false),(234,[.slice u 0 2 none,.str J],.bool false),(235,[shA s,.slice b 0 Z.length none,.slice r1 0 Z.length none],.tuple [.bool true,.int .i64 0]),(235,[shA s,.slice r1 0 Z.length none,.slice r2 0 Z.length none],.tuple [.bool true,.int .i64 0])] (fun M=>∃ext,M=m++ext)):=FO fun e U M hM=>by
  obtain⟨ext,rfl⟩:=hM;simp only[lM] at U;rcases U with rfl | rfl | rfl | rfl | rfl | rfl
  ·exact qc s Z hZ hl hn _ b o1 o2 o3 (L ext) (G ext) (D ext)
  ·exact fB _ u 0 o4 [H,I,J] H (S ext) (by simp) (by simp) (by simp)
  ·exact fB _ u 1 o4 [H,I,J] I (S ext) (by simp) (by simp) (by simp[d01])
  ·exact fB _ u 2 o4 [H,I,J] J (S ext) (by simp) (by simp) (by simp[d02,d12])
  ·have:=p9 s Z W hZ hY1 (by omega) hn YY ZG (m++ext) b r1 o1 o2 o3 q1 (L ext) (G ext) (D ext) (X ext)
   rw[show W.length=Z.length by omega] at this;exact this
  ·have:=p9 s W Y hY1 hY2 (by omega) YY Yb YE (m++ext) r1 r2 o1 o2 q1 q2 (L ext) (G ext) (X ext) (F ext)
   rw[show Y.length=Z.length by omega,show W.length=Z.length by omega] at this;exact this
 have A:=qS.or' V B;clear V B;refine ca (lv:=kf) (K:=5) A ?_;clear A;obtain⟨N,hN⟩:=xE Z.length;simp only[←hN] at C ⊢;simp[aa,aga,f155,y9.or,ag,dx,FN,shA,FQ,bh,fy,kf,stC,S,C,w1,w2,w3]
end
variable{i:Nat}
theorem On{L:List (List UInt8)}{s:List UInt8}(h:L[i]? =some s):(stC L)[i]? =some (.str s):=by simp[stC,h]
theorem Vk(Q:List Rat):qC Q=stC (Q.map aj):=by simp[qC,stC]
def aev(N:Mem)(v:AV)(es n:Nat)(C:List AV):Prop:=(v=.qF∧n=0∧C=[])∨∃b o,v=.slice b 0 n none∧0<n∧N[b]? =some (.cells o es C)
variable{N:Mem}{n:Nat}{v:AV}
theorem aev.more{es:Nat}{C:List AV}(h:aev N v es n C)(Z:Mem):aev (N++Z) v es n C:=by
 rcases h with h | ⟨b,o,X,V,h3⟩
 ·exact .inl h
 ·exact .inr ⟨b,o,X,V,gU h3 _⟩
theorem jJ:∀l:List (List UInt8×List UInt8),AV.aej (kC l)=true
 | []=>rfl
 |k::l=>by simp[kC,AV.aej,AV.closed,jJ l]
theorem agb:fc [0,0,3,7,0,0,48,112,255] 8=true:=by decide
variable{b:Code}
theorem Jr{K:Nat}(L:List (List UInt8))(I:L.length≤1000)(J:L.length<K)(H:ah f122=[b]):
  ∃F:Env→Bool→Env,∀Z d,(ad Z 0=.slice 0 0 L.length none∧ad Z 1=.slice 1 0 L.length none∧ad Z 12=.int .i64 L.length∧ad Z 13=.int .i64 0)→
   aS (aV prog) (fun _=>[13]) cu K 26 2 true (.loop b) ⟨Z,[.cells false 1 (stC L),.cells false 1 (stC L)],d⟩=some (.exit 0,⟨F Z d,[.cells false 1 (stC L),.cells false 1 (stC L)],d⟩)∧True:=by
 refine bw (L:=[13]) rfl (fun Z=>ad Z 0=.slice 0 0 L.length none∧ad Z 1=.slice 1 0 L.length none∧ad Z 12=.int .i64 L.length∧ad Z 13=.int .i64 0) (fun _ _=>True) ?_;rintro Z d ⟨h0,h1,h12,h13⟩;obtain⟨U,X⟩:∃U,aJ f122=U:=⟨_,rfl⟩
 have S:=cc X (ls:=[[0,0,3,7,0,0,48,112,255]]) (by kernel_rfl);simp only[aJ,bR,f122,List.nil_append,List.append_nil] at X;subst X;simp only[lB] at S;have e:=fun d=>kg d
 simp[ah,aG,f122] at H;have R:aw [13] (ae b) Z ((13,.int .i64 ((0:Nat):Int))::Z)=aw [13] (ae b) Z Z:=by simp[aw,h13]
 rw[←R];refine bO (α:=Nat) (fun n=>⟨aw [13] (ae b) Z ((13,.int .i64 (n:Int))::Z),[.cells false 1 (stC L),.cells false 1 (stC L)],d⟩) (fun n=>L.length-n) (fun n=>n≤L.length) (.exit 0) _ d _ (by simp) ?_ K 0 (by omega) (by omega);rintro n C;clear R;subst H;by_cases V:n<L.length
 ·obtain⟨z,O⟩:∃z,L[n]? =some z:=⟨L[n],List.getElem?_eq_getElem V⟩
  have M:=On O;have G:=nq L;have w1:IntKind.i64.wrap ((n:Int)+1)=((n+1:Nat):Int):=by rw[af];omega
  have B:n*1+1≤(stC L).length:=by omega
  clear G;left;obtain⟨v,D⟩:=xE (n+1);rw[←D] at w1;refine⟨v,?_⟩;simp[-aK,ao S,br,bk,bl,agb,h0,h1,h12,V,M,w1];omega
 ·right
  simp[h12,V]
theorem Tu(L:List (List UInt8))(H:L.length≤1000):
  kO prog 122 [.slice 0 0 L.length none,.slice 1 0 L.length none] [.cells false 1 (stC L),.cells false 1 (stC L)] (.bool true) [.cells false 1 (stC L),.cells false 1 (stC L)]:=by
 have V:aT prog 122=some f122:=by kernel_rfl
 obtain⟨b,Z⟩:∃b,ah f122=[b]:=⟨_,rfl⟩
 obtain⟨F,X⟩:=Jr (K:=L.length+1) L H (by omega) Z;have U:=fun S d R O h3 M=>(X S d ⟨R,O,h3,M⟩).1
 clear X;simp[ah,aG,f122] at Z;subst Z;refine ca (lv:=(fun _=>[13])) (K:=(L.length+1)) (az _) ?_;simp[aa,V,f122,U]
theorem Tv(M:Mem):kO prog 122 [.qF,.qF] M (.bool true) M:=by
 have Z:aT prog 122=some f122:=by kernel_rfl
 refine cE (az _) (lv:=fun _=>[13]) (K:=3) rfl rfl ?_ M;simp[aa,Z,f122,bh,fy]
theorem Vq{M:Mem}{x y:AV}{L:List (List UInt8)}(I:L.length≤1000)(J:aev M x 1 L.length (stC L))(H:aev M y 1 L.length (stC L)):kO prog 122 [x,y] M (.bool true) M:=by
 rcases J with⟨rfl,V,_⟩ | ⟨b,o,rfl,O,U⟩
 ·rcases H with⟨rfl,_,_⟩ | ⟨Z,X,_,S,_⟩
  ·exact Tv M
  ·omega
 ·rcases H with⟨_,V,_⟩ | ⟨Z,X,rfl,_,R⟩
  ·omega
  ·exact kO.afI (rest:=[]) (dM L) (dM L) rfl rfl (Tu L I) ⟨b,o,_,rfl,U,List.take_length⟩ ⟨Z,X,_,rfl,R,List.take_length⟩
theorem Js{K:Nat}(L:List (List UInt8×List UInt8))(I:L.length≤1000)(J:L.length<K)(H:ah f75=[b]):
  ∃F:Env→Bool→Env,∀Z d,(ad Z 0=.slice 0 0 L.length none∧ad Z 1=.slice 1 0 L.length none∧ad Z 12=.int .i64 L.length∧ad Z 13=.int .i64 0)→
   aS (aV prog) (fun _=>[13]) cu K 26 2 true (.loop b) ⟨Z,[.cells false 2 (kC L),.cells false 2 (kC L)],d⟩=some (.exit 0,⟨F Z d,[.cells false 2 (kC L),.cells false 2 (kC L)],d⟩)∧True:=by
 refine bw (L:=[13]) rfl (fun Z=>ad Z 0=.slice 0 0 L.length none∧ad Z 1=.slice 1 0 L.length none∧ad Z 12=.int .i64 L.length∧ad Z 13=.int .i64 0) (fun _ _=>True) ?_;rintro Z d ⟨h0,h1,h12,h13⟩;obtain⟨U,X⟩:∃U,aJ f75=U:=⟨_,rfl⟩
 have S:=cc X (ls:=[[0,0,3,7,0,0,48,112,255]]) (by kernel_rfl);simp only[aJ,bR,f75,List.nil_append,List.append_nil] at X;subst X;simp only[lB] at S;have e:=fun d=>LY d
 simp[ah,aG,f75] at H;have R:aw [13] (ae b) Z ((13,.int .i64 ((0:Nat):Int))::Z)=aw [13] (ae b) Z Z:=by simp[aw,h13]
 rw[←R];refine bO (α:=Nat) (fun n=>⟨aw [13] (ae b) Z ((13,.int .i64 (n:Int))::Z),[.cells false 2 (kC L),.cells false 2 (kC L)],d⟩) (fun n=>L.length-n) (fun n=>n≤L.length) (.exit 0) _ d _ (by simp) ?_ K 0 (by omega) (by omega);rintro n B;clear R;subst H;by_cases V:n<L.length
 ·obtain⟨z,O⟩:∃z,L[n]? =some z:=⟨L[n],List.getElem?_eq_getElem V⟩
  have M:=(M1 O).1;have G:=gp L;have w1:IntKind.i64.wrap ((n:Int)+1)=((n+1:Nat):Int):=by rw[af];omega
  have D:n*2+2≤(kC L).length:=by omega
  clear G;left;obtain⟨v,C⟩:=xE (n+1);rw[←C] at w1;refine⟨v,?_⟩;simp[-aK,ao S,br,bk,bl,agb,h0,h1,h12,V,M,D,w1,e];omega
 ·right
  simp[h12,V]
theorem Tx(L:List (List UInt8×List UInt8))(H:L.length≤1000):
  kO prog 75 [.slice 0 0 L.length none,.slice 1 0 L.length none] [.cells false 2 (kC L),.cells false 2 (kC L)] (.bool true) [.cells false 2 (kC L),.cells false 2 (kC L)]:=by
 have V:aT prog 75=some f75:=by kernel_rfl
 obtain⟨b,Z⟩:∃b,ah f75=[b]:=⟨_,rfl⟩
 obtain⟨F,X⟩:=Js (K:=L.length+1) L H (by omega) Z;have U:=fun S d R O h3 M=>(X S d ⟨R,O,h3,M⟩).1
 clear X;simp[ah,aG,f75] at Z;subst Z;refine ca (lv:=(fun _=>[13])) (K:=(L.length+1)) (az _) ?_;simp[aa,V,f75,U]
theorem Ty(M:Mem):kO prog 75 [.qF,.qF] M (.bool true) M:=by
 have Z:aT prog 75=some f75:=by kernel_rfl
 refine cE (az _) (lv:=fun _=>[13]) (K:=3) rfl rfl ?_ M;simp[aa,Z,f75,bh,fy]
theorem Vr{M:Mem}{x y:AV}{L:List (List UInt8×List UInt8)}(I:L.length≤1000)(J:aev M x 2 L.length (kC L))(H:aev M y 2 L.length (kC L)):kO prog 75 [x,y] M (.bool true) M:=by
 rcases J with⟨rfl,V,_⟩ | ⟨b,o,rfl,O,U⟩
 ·rcases H with⟨rfl,_,_⟩ | ⟨Z,X,_,S,_⟩
  ·exact Ty M
  ·omega
 ·rcases H with⟨_,V,_⟩ | ⟨Z,X,rfl,_,R⟩
  ·omega
  ·exact kO.afI (rest:=[]) (jJ L) (jJ L) rfl rfl (Tx L I) ⟨b,o,_,rfl,U,List.take_length⟩ ⟨Z,X,_,rfl,R,List.take_length⟩
theorem Jt{K:Nat}(L:List (List UInt8))(I:L.length≤1000)(J:L.length<K)(H:ah f73=[b]):
  ∃F:Env→Bool→Env,∀Z d,(ad Z 0=.slice 0 0 L.length none∧ad Z 1=.slice 1 0 L.length none∧ad Z 12=.int .i64 L.length∧ad Z 13=.int .i64 0)→
   aS (aV prog) (fun _=>[13]) cu K 26 2 true (.loop b) ⟨Z,[.cells false 1 (stC L),.cells false 1 (stC L)],d⟩=some (.exit 0,⟨F Z d,[.cells false 1 (stC L),.cells false 1 (stC L)],d⟩)∧True:=by
 refine bw (L:=[13]) rfl (fun Z=>ad Z 0=.slice 0 0 L.length none∧ad Z 1=.slice 1 0 L.length none∧ad Z 12=.int .i64 L.length∧ad Z 13=.int .i64 0) (fun _ _=>True) ?_;rintro Z d ⟨h0,h1,h12,h13⟩;obtain⟨U,X⟩:∃U,aJ f73=U:=⟨_,rfl⟩
 have S:=cc X (ls:=[[0,0,3,7,0,0,48,112,255]]) (by kernel_rfl);simp only[aJ,bR,f73,List.nil_append,List.append_nil] at X;subst X;simp only[lB] at S;have e:=fun d x y=>AE d x y
 simp[ah,aG,f73] at H;have R:aw [13] (ae b) Z ((13,.int .i64 ((0:Nat):Int))::Z)=aw [13] (ae b) Z Z:=by simp[aw,h13]
 rw[←R];refine bO (α:=Nat) (fun n=>⟨aw [13] (ae b) Z ((13,.int .i64 (n:Int))::Z),[.cells false 1 (stC L),.cells false 1 (stC L)],d⟩) (fun n=>L.length-n) (fun n=>n≤L.length) (.exit 0) _ d _ (by simp) ?_ K 0 (by omega) (by omega);rintro n C;clear R;subst H;by_cases V:n<L.length
 ·obtain⟨z,O⟩:∃z,L[n]? =some z:=⟨L[n],List.getElem?_eq_getElem V⟩
  have M:=On O;have G:=nq L;have w1:IntKind.i64.wrap ((n:Int)+1)=((n+1:Nat):Int):=by rw[af];omega
  have B:n*1+1≤(stC L).length:=by omega
  clear G;left;obtain⟨v,D⟩:=xE (n+1);rw[←D] at w1;refine⟨v,?_⟩;simp[-aK,ao S,br,bk,bl,agb,h0,h1,h12,V,M,w1];omega
 ·right
  simp[h12,V]
theorem Tz(L:List (List UInt8))(H:L.length≤1000):
  kO prog 73 [.slice 0 0 L.length none,.slice 1 0 L.length none] [.cells false 1 (stC L),.cells false 1 (stC L)] (.bool true) [.cells false 1 (stC L),.cells false 1 (stC L)]:=by
 have V:aT prog 73=some f73:=by kernel_rfl
 obtain⟨b,Z⟩:∃b,ah f73=[b]:=⟨_,rfl⟩
 obtain⟨F,X⟩:=Jt (K:=L.length+1) L H (by omega) Z;have U:=fun S d R O h3 M=>(X S d ⟨R,O,h3,M⟩).1
 clear X;simp[ah,aG,f73] at Z;subst Z;refine ca (lv:=(fun _=>[13])) (K:=(L.length+1)) (az _) ?_;simp[aa,V,f73,U]
theorem TA(M:Mem):kO prog 73 [.qF,.qF] M (.bool true) M:=by
 have Z:aT prog 73=some f73:=by kernel_rfl
 refine cE (az _) (lv:=fun _=>[13]) (K:=3) rfl rfl ?_ M;simp[aa,Z,f73,bh,fy]
theorem Vt{M:Mem}{x y:AV}{L:List (List UInt8)}(I:L.length≤1000)(J:aev M x 1 L.length (stC L))(H:aev M y 1 L.length (stC L)):kO prog 73 [x,y] M (.bool true) M:=by
 rcases J with⟨rfl,V,_⟩ | ⟨b,o,rfl,O,U⟩
 ·rcases H with⟨rfl,_,_⟩ | ⟨Z,X,_,S,_⟩
  ·exact TA M
  ·omega
 ·rcases H with⟨_,V,_⟩ | ⟨Z,X,rfl,_,R⟩
  ·omega
  ·exact kO.afI (rest:=[]) (dM L) (dM L) rfl rfl (Tz L I) ⟨b,o,_,rfl,U,List.take_length⟩ ⟨Z,X,_,rfl,R,List.take_length⟩
theorem AS{M:Mem}{x y:AV}{L:List (List UInt8)}(H:L.length≤1000)(I:aev M x 1 L.length (stC L))(J:aev M y 1 L.length (stC L)):kO prog 72 [x,y] M (.bool true) M:=by
 have X:aT prog 72=some f72:=by kernel_rfl
 have Z:qS prog (cX 122 [x,y] (.bool true) (fun N=>N=M)):=dO fun N V=>by subst V;exact Vq H I J
 refine gT Z ?_;clear Z;simp[aa,X,f72,cX]
def afy(N:Mem)(v:AV)(S:List (List (List UInt8))):Prop:=∃Z,Z.length=S.length∧aev N v 1 S.length Z∧∀(i:Nat) x L,Z[i]? =some x→S[i]? =some L→aev N x 1 L.length (stC L)
theorem afy.more{S:List (List (List UInt8))}(h:afy N v S)(Z:Mem):afy (N++Z) v S:=by obtain⟨X,V,U,h3⟩:=h;exact⟨X,V,U.more Z,fun i x L a b=>(h3 i x L a b).more Z⟩
noncomputable def Fo(vs H:List AV)(m:Mem):y9:=wo fun c a N r=>∃(i:Nat) (x y:AV),vs[i]? =some x∧H[i]? =some y∧c=.fn 72∧a=[x,y]∧N=m∧r=⟨.bool true,none,[]⟩
variable{m:Mem}{vs ws:List AV}
theorem MC{x y:AV}(h1:vs[i]? =some x)(h2:ws[i]? =some y):Fo vs ws m (.fn 72) [x,y] m=some ⟨.bool true,none,[]⟩:=
 fQ ⟨i,x,y,h1,h2,rfl,rfl,rfl,rfl⟩ fun r' ⟨_,_,_,_,_,_,_,_,h⟩=>h
variable{w:AV}
theorem Jv(lv:vs.length=n)(W:ws.length=n)(I:aev m v 1 n vs)(J:aev m w 1 n ws)(Y:n≤1000){K m0:Nat}(hK:n<K)(H:ah f123=[b]):
  ∃F:Env→Bool→Env,∀Z d,(ad Z 15=v∧ad Z 1=w∧ad Z 2=.func 72 []∧ad Z 16=.int .i64 n∧ad Z 17=.int .i64 0)→
   aS (aV prog) (fun _=>[17,17,17]) (Fo vs ws m) K 32 m0 true (.loop b) ⟨Z,m,d⟩=some (.exit 0,⟨F Z d,m,d⟩)∧True:=by
 refine bw rfl (fun Z=>ad Z 15=v∧ad Z 1=w∧ad Z 2=.func 72 []∧ad Z 16=.int .i64 n∧ad Z 17=.int .i64 0) (fun _ _=>True) ?_;rintro Z d ⟨h15,h1,h2,h16,h17⟩;simp[ah,aG,f123] at H;have U:aw [17,17,17] (ae b) Z ((17,.int .i64 ((0:Nat):Int))::Z)=aw [17,17,17] (ae b) Z Z:=by simp[aw,h17]
 rw[←U];refine bO (α:=Nat) (fun i=>⟨aw [17,17,17] (ae b) Z ((17,.int .i64 (i:Int))::Z),m,d⟩) (fun i=>n-i) (fun i=>i≤n) (.exit 0) _ d _ (by simp) ?_ K 0 (by omega) (by omega);rintro i B;clear U;by_cases S:i<n
 ·obtain⟨x,X⟩:∃x,vs[i]? =some x:=⟨_,List.getElem?_eq_getElem (by omega)⟩
  obtain⟨y,V⟩:∃y,ws[i]? =some y:=⟨_,List.getElem?_eq_getElem (by omega)⟩
  have w1:IntKind.i64.wrap ((i:Int)+1)=((i+1:Nat):Int):=by rw[af];omega
  have R:=MC (m:=m) X V;have O:=gL X;have M:=gL V;have L :∀h,vs[i]'h=x:=fun h=>by rw[List.getElem?_eq_getElem h] at X;exact Option.some.inj X
  have G :∀h,ws[i]'h=y:=fun h=>by rw[List.getElem?_eq_getElem h] at V;exact Option.some.inj V
  rcases I with⟨_,h,_⟩ | ⟨A,u,rfl,_,D⟩
  ·omega
  rcases J with⟨_,h,_⟩ | ⟨o,j,rfl,_,C⟩
  ·omega
  left;refine⟨i+1,?_⟩;refine bH (show i+1≤n∧n-(i+1)<n-i from⟨by omega,by omega⟩) ?_;subst H;simp[h15,h1,h2,h16,S,D,C,L,G,O,M,R,w1]
 ·right
  subst H;simp[h16,S]
section
variable{S:List (List (List UInt8))}(hv:afy m v S)(hw:afy m w S)(hl:S.length≤1000)(hS:∀L∈S,L.length≤1000)
include S hv hw hl hS
theorem Tw:
  kO prog 123 [v,w,.func 72 []] m (.bool true) m:=by
 have G:aT prog 123=some f123:=by kernel_rfl
 obtain⟨vs,D,r1,C⟩:=hv;obtain⟨ws,B,r2,A⟩:=hw;have R:qS prog (Fo vs ws m):=wq fun c a N r u=>by
  obtain⟨i,x,y,O,j,rfl,rfl,rfl,rfl⟩:=u;have I:=gL O;obtain⟨L,X⟩:∃L,S[i]? =some L:=⟨_,List.getElem?_eq_getElem (by omega)⟩
  exact aW (AS (hS L (List.mem_of_getElem? X)) (C i x L O X) (A i y L j X))
 obtain⟨b,V⟩:∃b,ah f123=[b]:=⟨_,rfl⟩
 obtain⟨F,M⟩:=Jv (m0:=m.length) (K:=S.length+1) D B r1 r2 hl (by omega) V;have Y:=fun W d h=>(M W d h).1
 clear M;simp[ah,aG,f123] at V;subst V;have J:∀Z,Vx (aV prog) 49 Z v=some (.int .i64 S.length):=fun Z =>by
  rcases r1 with⟨rfl,h,_⟩ | ⟨b,o,rfl,_⟩
  ·rw[h];simp
  ·simp
 have U:∀Z,Vx (aV prog) 49 Z w=some (.int .i64 S.length):=fun Z =>by
  rcases r2 with⟨rfl,h,_⟩ | ⟨b,o,rfl,_⟩
  ·rw[h];simp
  ·simp
 refine ca (lv:=(fun _=>[17,17,17])) (K:=(S.length+1)) R ?_;clear R;simp[-Vx,J,U,aa,G,f123,Y]
theorem Pp:kO prog 74 [v,w] m (.bool true) m:=by
 have X:aT prog 74=some f74:=by kernel_rfl
 have Z:qS prog (cX 123 [v,w,.func 72 []] (.bool true) (fun N=>N=m)):=dO fun N V=>by subst V;exact Tw hv hw hl hS
 refine gT Z ?_;clear Z;simp[aa,X,f74,cX]
end
structure Evc.Ok (c:Evc):Prop where
 B:c.B.length≤1000
 U:c.U.length≤1000
 S:c.S.length≤2
 SL:∀L∈c.S,L.length≤1000
 K:c.K.length≤1000
def ae9(N:Mem)(H:List AV)(c:Evc):Prop:=∃b u s Z,H=c.cells b u s Z∧aev N b 1 c.B.length (stC c.B)∧aev N u 1 c.U.length (stC c.U)∧afy N s c.S∧aev N Z 2 c.K.length (kC c.K)
variable{c:Evc}
theorem ae9.more{H:List AV}(h:ae9 N H c)(Z:Mem):ae9 (N++Z) H c:=by obtain⟨b,u,s,X,V,U,h3,S,R⟩:=h;exact⟨b,u,s,X,V,U.more Z,h3.more Z,S.more Z,R.more Z⟩
def uV(b H u I s s' J W :AV)(m:Mem)(c:Go.Eng.Callee)(a:List AV)(N:Mem)(r:aee):Prop:=(∃Z,N=m++Z)∧((c=.fn 72∧a=[b,H])∨(c=.fn 73∧a=[u,I])∨(c=.fn 74∧a=[s,s'])∨(c=.fn 75∧a=[J,W]))∧r=⟨.bool true,none,[]⟩
theorem OK{e H :List AV}(hc:c.Ok)(h:ae9 m e c)(h' :ae9 m H c):kO prog 26 [.agg e,.agg H] m (.bool true) m:=by
 obtain⟨b,u,s,X,rfl,F,D,h3,C⟩:=h;obtain⟨V,R,O,M,rfl,A,o,j,Y⟩:=h';have W:qS prog (wo (uV b V u R s O X M m)):=wq fun f a N r L=>by
  obtain⟨⟨Z,rfl⟩,L,rfl⟩:=L;rcases L with⟨rfl,rfl⟩ | ⟨rfl,rfl⟩ | ⟨rfl,rfl⟩ | ⟨rfl,rfl⟩
  ·exact aW (AS hc.B (F.more Z) (A.more Z))
  ·exact aW (Vt hc.U (D.more Z) (o.more Z))
  ·exact aW (Pp (h3.more Z) (j.more Z) (by have:=hc.S;omega) hc.SL)
  ·exact aW (Vr hc.K (C.more Z) (Y.more Z))
 exact OL W (fQ (S:=uV b V u R s O X M m) ⟨⟨_,rfl⟩,.inl ⟨rfl,rfl⟩,rfl⟩ fun G h=>h.2.2) (fQ (S:=uV b V u R s O X M m) ⟨⟨_,rfl⟩,.inr (.inl ⟨rfl,rfl⟩),rfl⟩ fun G h=>h.2.2)
  (fQ (S:=uV b V u R s O X M m) ⟨⟨_,rfl⟩,.inr (.inr (.inl ⟨rfl,rfl⟩)),rfl⟩ fun G h=>h.2.2) (fQ (S:=uV b V u R s O X M m) ⟨⟨_,rfl⟩,.inr (.inr (.inr ⟨rfl,rfl⟩)),rfl⟩ fun G h=>h.2.2)
theorem zT(H:c.B=[])(I:c.U=[])(hS:c.S=[])(J:c.K.length≤1000):c.Ok:=⟨by simp[H],by simp[I],by simp[hS],by simp[hS],J⟩
def hT(Z:List Int):List (List UInt8):=(qH Z).map aj
end Go.Proofs
