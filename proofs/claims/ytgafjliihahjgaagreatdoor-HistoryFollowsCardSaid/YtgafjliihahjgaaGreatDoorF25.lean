/- See F54. -/
import Derived.Test.YtgafjliihahjgaaGreatDoorF24
set_option linter.all false
set_option maxRecDepth 100000
set_option maxHeartbeats 40000000
namespace Go.Proofs
open Go.Eng
open Tryz
def zT(s:List UInt8):Nat→List (List UInt8)→Int
 |_,[]=> -1
 |i,x::l=>if s=x then (i:Int) else zT s (i+1) l
theorem PJ{s:List UInt8}:∀{i:Nat} {l:List (List UInt8)},zT s i l<0↔s∉l
 |i,[]=>by simp[zT]
 |i,x::l=>by
  unfold zT;by_cases h:s=x
  ·rw[if_pos h];simp[h]
  ·rw[if_neg h,PJ];simp[h]
theorem Uu{s:List UInt8}:∀{i:Nat} {l:List (List UInt8)},-1≤zT s i l
 |i,[]=>by unfold zT;omega
 |i,x::l=>by
  unfold zT;split
  ·omega
  ·exact Uu
theorem Bl{O:aeT}{K:Nat}(L:List (List UInt8))(s:List UInt8)(G:L.length≤1000000000)(H:L.length<K){b:Code}(A:ai f37=[b]):
  ∃F:Env→Bool→Env,∀Z d,(ad Z 0=.slice 0 0 L.length none∧ad Z 1=.str s∧ad Z 7=.int .i64 L.length∧ad Z 8=.int .i64 0)→
   aM (aN prog) (fun _=>[8]) O K 19 1 true (.loop b) ⟨Z,[.cells false 1 (stC L)],d⟩=some (if zT s 0 L<0 then .exit 0 else .ret,⟨F Z d,[.cells false 1 (stC L)],d⟩)∧
    (¬zT s 0 L<0→ad (F Z d) 4=.int .i64 (zT s 0 L)):=by
 refine cD rfl (fun Z=>ad Z 0=.slice 0 0 L.length none∧ad Z 1=.str s∧ad Z 7=.int .i64 L.length∧ad Z 8=.int .i64 0) (fun _ B =>¬zT s 0 L<0→ad B 4=.int .i64 (zT s 0 L)) ?_;rintro Z d ⟨h0,X,h7,h8⟩;simp[ai,aG,f37] at A;have J:aD [8] (ab b) Z ((8,.int .i64 ((0:Nat):Int))::Z)=aD [8] (ab b) Z Z:=by simp[aD,h8]
 rw[←J];have D:(stC L).length=L.length:=fe L;refine dh (α:=Nat) (fun n=>⟨aD [8] (ab b) Z ((8,.int .i64 (n:Int))::Z),[.cells false 1 (stC L)],d⟩) (fun n=>L.length-n) (fun n=>n≤L.length∧zT s 0 L=zT s n (L.drop n)) _ _ d _ (by split<;>simp) ?_ K 0 ⟨by omega,by rw[List.drop_zero]⟩ (by omega);rintro n ⟨hn1,he⟩;clear J;subst A;by_cases W:n<L.length
 ·obtain⟨x,S⟩:∃x,L[n]? =some x:=⟨L[n],List.getElem?_eq_getElem W⟩
  have C:∀h,(stC L)[n]'h=.str x:=fun h=>by have:=rP S;rw[List.getElem?_eq_getElem h] at this;exact Option.some.inj this
  have z:L.drop n=x::L.drop (n+1):=by rw[List.getElem?_eq_some_iff] at S;obtain⟨X,u⟩:=S;rw[←u];exact List.drop_eq_getElem_cons X
  rw[z,zT] at he;have w1:IntKind.i64.wrap ((n:Int)+1)=((n+1:Nat):Int):=by rw[aq];omega
  by_cases V:s=x
  ·right
   rw[if_pos V] at he;subst V;have M:¬(n:Int)<0:=by omega
   rw[he,if_neg M];simp[h0,X,h7,W,D,C]
  ·left
   rw[if_neg V] at he;have A:(s==x)=false:=by simpa using V
   refine⟨n+1,?_⟩;refine fG (show(n+1≤L.length∧zT s 0 L=zT s (n+1) (L.drop (n+1)))∧L.length-(n+1)<L.length-n from⟨⟨by omega,he⟩,by omega⟩) ?_;simp[h0,X,h7,W,D,C,A,w1]
 ·right
  have e:L.drop n=[]:=List.drop_of_length_le (by omega);rw[e,zT] at he;rw[he,if_pos (by decide)];simp[h7,W]
theorem HW(L:List (List UInt8))(s:List UInt8)(A:L.length≤1000000000):
  kO prog 37 [.slice 0 0 L.length none,.str s] [.cells false 1 (stC L)] (.int .i64 (zT s 0 L)) [.cells false 1 (stC L)]:=by
 have S:aK prog 37=some f37:=by kernel_rfl
 obtain⟨b,W⟩:∃b,ai f37=[b]:=⟨_,rfl⟩
 obtain⟨F,Z⟩:=Bl (O:=bM) (K:=L.length+1) L s A (by omega) W;simp[ai,aG,f37] at W;subst W;refine cR (lv:=(fun _=>[8])) (K:=(L.length+1)) (al _) ?_;by_cases hc:zT s 0 L<0
 ·rw[if_pos hc] at Z
  have V:=fun X d h=>(Z X d h).1
  clear Z;have M:zT s 0 L= -1:=by have:=Uu (s:=s) (i:=0) (l:=L);omega
  rw[M];simp[aa,S,f37,V]
 ·rw[if_neg hc] at Z
  have V:=fun X d h=>(Z X d h).1
  have J:=fun X d h=>(Z X d h).2 hc
  clear Z;simp[aa,S,f37,V,J]
theorem Dd(s:List UInt8)(M:Mem):kO prog 37 [.y9,.str s] M (.int .i64 (-1)) M:=by
 have Z:aK prog 37=some f37:=by kernel_rfl
 refine cV (al _) (lv:=fun _=>[8]) (K:=1) rfl rfl ?_ M;simp[aa,Z,f37,aQ,er]
variable{L:List (List UInt8)}{M:Mem}{x:AV}
theorem xW(s:List UInt8)(A:L.length≤1000000000)(G:sts M x=some L):kO prog 37 [x,.str s] M (.int .i64 (zT s 0 L)) M:=by
 rcases wC G with h | ⟨rfl,rfl⟩
 ·exact kO.agI (rest:=[.str s]) (kJ L) rfl rfl (HW L s A) h
 ·exact Dd s M
noncomputable def Gb:aeT:=fun c Z M=>match c,Z with
 |.fn 37,[x,.str s]=>match sts M x with
  |some L=>if L.length≤1000000000 then some ⟨.int .i64 (zT s 0 L),none,[]⟩ else none
  |none=>none
 |c,Z=>bM c Z M
theorem QY:HS prog Gb:=by
 refine dE fun c Z M r h=>?_
 unfold Gb at h;split at h
 ·split at h
  ·rename_i L X
   split at h
   ·rename_i hc
    cases h;refine aI ?_;rw[List.append_nil];exact xW _ hc X
   ·cases h
  ·cases h
 ·exact jx (al _) h
theorem pJ(s:List UInt8)(A:L.length≤1000000000)(G:sts M x=some L):kO prog 18 [x,.str s] M (.bool (decide (s∈L))) M:=by
 have Z:aK prog 18=some f18:=by kernel_rfl
 have X:decide (0≤zT s 0 L)=decide (s∈L):=by
  rw[decide_eq_decide];have:=PJ (s:=s) (i:=0) (l:=L);by_cases h:s∈L
  ·simp only[h,iff_true]
   exact Int.not_lt.1 fun e=>this.1 e h
  ·simp only[h,iff_false]
   have:=this.2 h;omega
 refine cd QY ?_;rw[←X];simp[aa,Z,f18,Gb,G,A]
end Go.Proofs
namespace Go.Proofs
open Go.Eng
open Tryz
open Classical in
noncomputable def jd(L:List (FuncId×List AV×AV))(p:Mem→Prop):aeT:=fun c a M=>if p M then af (bY L) c a M else none
theorem mG{P:Program}{L:List (FuncId×List AV×AV)}{p:Mem→Prop}(h:∀x∈L,∀M,p M→kO P x.1 x.2.1 M x.2.2 M):HS P (jd L p):=by
 have k:∀f a v,bY L f a=some v→∃x∈L,f=x.1∧a=x.2.1∧v=x.2.2:=by
  clear h;intro f a v X;induction L with
  |nil=>simp[bY] at X
  |cons x L ih=>
   rw[bY] at X;split at X
   ·rename_i hc
    cases X;exact⟨x,by simp,hc.1,hc.2,rfl⟩
   ·obtain⟨y,J,W⟩:=ih X
    exact⟨y,by simp[J],W⟩
 have V:∀c a M r,jd L p c a M=some r→p M∧∃f,c=.fn f∧∃x∈L,f=x.1∧a=x.2.1∧r=⟨x.2.2,none,[]⟩:=by
  intro c a M r Z;unfold jd at Z;split at Z
  ·rename_i S
   refine⟨S,?_⟩;unfold af at Z;split at Z
   ·rename_i f
    split at Z
    ·rename_i v X
     cases Z;obtain⟨x,O,W,F,h3⟩:=k _ _ _ X;exact⟨f,rfl,x,O,W,F,by rw[h3]⟩
    ·cases Z
   ·cases Z
  ·cases Z
 refine⟨fun f a M r Z=>?_,fun b a M r Z=>?_,fun c a M r q Z hq=>?_⟩
 ·obtain⟨S,g,K,x,O,W,rfl,rfl⟩:=V _ _ _ _ Z
  cases K;subst W;simpa [aeQ.mem] using h x O M S
 ·obtain⟨_,g,K,_⟩:=V _ _ _ _ Z
  cases K
 ·obtain⟨_,g,_,x,_,_,_,rfl⟩:=V _ _ _ _ Z
  cases hq
def kz(c:Code):List Nat:=if (ab c).contains 35 then [35] else [10,65]
theorem fN(M:Mem)(u k:Nat)(o:Bool)(U:List (List UInt8))(s:List UInt8)(hu:M[u]? =some (.cells o 1 (stC U)))(A:k≤U.length)(G:U.length≤3)(hs:s∉U.take k):
  kO prog 18 [.slice u 0 k none,.str s] M (.bool false) M:=by
 have h:sts M (.slice u 0 k none)=some (U.take k):=by
  have Z:(stC U).take (k*1)=stC (U.take k):=by simp[stC,List.map_take]
  unfold sts;rw[Lv hu (by rw[fe];omega) Z];exact CN _
 have:=pJ (M:=M) s (by rw[List.length_take];omega) h
 rwa [decide_eq_false hs] at this
theorem agV:aK prog 186=some f186:=by kernel_rfl
theorem Hw(s:aeX)(nm:List UInt8)(u0:List UInt8)(H:u0∈bG)(Z:List Int)(I:∀z∈Z,z.natAbs<1000)(R:Z.length≤1000)(Y:Z.length=s.P.length)(m:Mem)(b u:Nat)(o1 o2 o3 o4:Bool)(G:m[0]? =some (.cells o1 2 (pC s.P)))(hq:m[1]? =some (.cells o2 3 (tC s.T)))(A:m[b]? =some (.cells o3 1 (qC (qH Z))))(hu:m[u]? =some (.cells o4 1 (stC [u0]))):
  kO prog 186 [shA s,.agg (bf nm (.slice b 0 Z.length none) (.slice u 0 1 none) (.y9))] m (.int .i64 0) m:=by
 have O:=gL G;have J:=gL hq;have F:=gL A;have D:=gL hu;have C:=fun ext:Mem=>(List.getElem?_append_left (l₂:=ext) O).trans G
 have B:=fun ext:Mem=>(List.getElem?_append_left (l₂:=ext) J).trans hq
 have j:=fun ext:Mem=>(List.getElem?_append_left (l₂:=ext) F).trans A
 have V:=fun ext:Mem=>(List.getElem?_append_left (l₂:=ext) D).trans hu
 have X:HS prog (af (bY [(109,[.str u0],.int .i64 0)])):=du fun e he M=>by simp only[lM] at he;rcases he with rfl;exact dD _ H M
 have W:HS prog (jd [(250,[shA s,.slice b 0 Z.length none],.int .i64 0),(18,[.slice u 0 0 none,.str u0],.bool false)] (fun M=>∃ext,M=m++ext)):=mG fun e he M hM=>by
  obtain⟨ext,rfl⟩:=hM;simp only[lM] at he;rcases he with rfl | rfl
  ·exact pQ s Z I R Y _ b o1 o2 o3 (C ext) (B ext) (j ext)
  ·exact fN _ u 0 o4 [u0] u0 (V ext) (by simp) (by simp) (by simp)
 have S:=HS.or' X W;clear X W;refine cR (lv:=kz) (K:=5) S ?_;clear S;obtain⟨N,hN⟩:=xE Z.length;simp only[←hN] at A ⊢;simp[aa,agV,f186,aeT.or,af,bY,jd,shA,bf,aQ,er,kz,stC,V,w0,w1]
theorem Hx(s:aeX)(nm:List UInt8)(u0 A:List UInt8)(n0:u0∈bG)(n1:A∈bG)(I:A≠u0)(Z:List Int)(hZ:∀z∈Z,z.natAbs<1000)(hl:Z.length≤1000)(hn:Z.length=s.P.length)(G:List Int)(R:∀z∈G,z.natAbs<1000)(Y:G.length=s.P.length)(aah:∀(i:Nat) z y,Z[i]? =some z→G[i]? =some y→z≤y)(m:Mem)(b u c r1:Nat)(o1 o2 o3 o4 o5 q1:Bool)(hp:m[0]? =some (.cells o1 2 (pC s.P)))(hq:m[1]? =some (.cells o2 3 (tC s.T)))(hb:m[b]? =some (.cells o3 1 (qC (qH Z))))(hu:m[u]? =some (.cells o4 1 (stC [u0,A])))(hc:m[c]? =some (.cells o5 1 [.slice r1 0 Z.length none]))(H:m[r1]? =some (.cells q1 1 (qC (qH G)))):
  kO prog 186 [shA s,.agg (bf nm (.slice b 0 Z.length none) (.slice u 0 2 none) (.slice c 0 1 none))] m (.int .i64 0) m:=by
 have j:=gL hp;have lq:=gL hq;have lb:=gL hb;have lu:=gL hu;have lc:=gL hc;have V:=gL H;have J:=fun ext:Mem=>(List.getElem?_append_left (l₂:=ext) j).trans hp
 have F:=fun ext:Mem=>(List.getElem?_append_left (l₂:=ext) lq).trans hq
 have D:=fun ext:Mem=>(List.getElem?_append_left (l₂:=ext) lb).trans hb
 have S:=fun ext:Mem=>(List.getElem?_append_left (l₂:=ext) lu).trans hu
 have C:=fun ext:Mem=>(List.getElem?_append_left (l₂:=ext) lc).trans hc
 have O:=fun ext:Mem=>(List.getElem?_append_left (l₂:=ext) V).trans H
 have X:HS prog (af (bY [(109,[.str u0],.int .i64 0),(109,[.str A],.int .i64 0)])):=du fun e he M=>by
  simp only[lM] at he;rcases he with rfl | rfl
  ·exact dD _ n0 M
  ·exact dD _ n1 M
 have W:HS prog (jd [(250,[shA s,.slice b 0 Z.length none],.int .i64 0),(18,[.slice u 0 0 none,.str u0],.bool false),(18,[.slice u 0 1 none,.str A],.bool false),(251,[shA s,.slice b 0 Z.length none,.slice r1 0 Z.length none],.tuple [.bool true,.int .i64 0])] (fun M=>∃ext,M=m++ext)):=mG fun e he M hM=>by
  obtain⟨ext,rfl⟩:=hM;simp only[lM] at he;rcases he with rfl | rfl | rfl | rfl
  ·exact pQ s Z hZ hl hn _ b o1 o2 o3 (J ext) (F ext) (D ext)
  ·exact fN _ u 0 o4 [u0,A] u0 (S ext) (by simp) (by simp) (by simp)
  ·exact fN _ u 1 o4 [u0,A] A (S ext) (by simp) (by simp) (by simp[I])
  ·have:=pP s Z G hZ R (by omega) hn Y aah (m++ext) b r1 o1 o2 o3 q1 (J ext) (F ext) (D ext) (O ext)
   rw[show G.length=Z.length by omega] at this;exact this
 have B:=HS.or' X W;clear X W;refine cR (lv:=kz) (K:=5) B ?_;clear B;obtain⟨N,hN⟩:=xE Z.length;simp only[←hN] at C ⊢;simp[aa,agV,f186,aeT.or,af,bY,jd,shA,bf,aQ,er,kz,stC,S,C,w1,w2]
theorem Hy(s:aeX)(nm:List UInt8)(u0 A G:List UInt8)(n0:u0∈bG)(n1:A∈bG)(n2:G∈bG)(d01:A≠u0)(d02:G≠u0)(d12:G≠A)(Z:List Int)(hZ:∀z∈Z,z.natAbs<1000)(hl:Z.length≤1000)(hn:Z.length=s.P.length)(H I:List Int)(R:∀z∈H,z.natAbs<1000)(Y:H.length=s.P.length)(aah:∀(i:Nat) z y,Z[i]? =some z→H[i]? =some y→z≤y)(hY2:∀z∈I,z.natAbs<1000)(hl2:I.length=s.P.length)(aaM:∀(i:Nat) z y,H[i]? =some z→I[i]? =some y→z≤y)(m:Mem)(b u c r1 r2:Nat)(o1 o2 o3 o4 o5 q1 q2:Bool)(hp:m[0]? =some (.cells o1 2 (pC s.P)))(hq:m[1]? =some (.cells o2 3 (tC s.T)))(hb:m[b]? =some (.cells o3 1 (qC (qH Z))))(hu:m[u]? =some (.cells o4 1 (stC [u0,A,G])))(hc:m[c]? =some (.cells o5 1 [.slice r1 0 Z.length none,.slice r2 0 Z.length none]))(hr1:m[r1]? =some (.cells q1 1 (qC (qH H))))(hr2:m[r2]? =some (.cells q2 1 (qC (qH I)))):
  kO prog 186 [shA s,.agg (bf nm (.slice b 0 Z.length none) (.slice u 0 3 none) (.slice c 0 2 none))] m (.int .i64 0) m:=by
 have lp:=gL hp;have lq:=gL hq;have lb:=gL hb;have lu:=gL hu;have lc:=gL hc;have O:=gL hr1;have J:=gL hr2;have F:=fun ext:Mem=>(List.getElem?_append_left (l₂:=ext) lp).trans hp
 have D:=fun ext:Mem=>(List.getElem?_append_left (l₂:=ext) lq).trans hq
 have B:=fun ext:Mem=>(List.getElem?_append_left (l₂:=ext) lb).trans hb
 have S:=fun ext:Mem=>(List.getElem?_append_left (l₂:=ext) lu).trans hu
 have j:=fun ext:Mem=>(List.getElem?_append_left (l₂:=ext) lc).trans hc
 have X:=fun ext:Mem=>(List.getElem?_append_left (l₂:=ext) O).trans hr1
 have C:=fun ext:Mem=>(List.getElem?_append_left (l₂:=ext) J).trans hr2
 have W:HS prog (af (bY [(109,[.str u0],.int .i64 0),(109,[.str A],.int .i64 0),(109,[.str G],.int .i64 0)])):=du fun e he M=>by
  simp only[lM] at he;rcases he with rfl | rfl | rfl
  ·exact dD _ n0 M
  ·exact dD _ n1 M
  ·exact dD _ n2 M
 have V:HS prog (jd [(250,[shA s,.slice b 0 Z.length none],.int .i64 0),(18,[.slice u 0 0 none,.str u0],.bool false),(18,[.slice u 0 1 none,.str A],.bool false),(18,[.slice u 0 2 none,.str G],.bool false),(251,[shA s,.slice b 0 Z.length none,.slice r1 0 Z.length none],.tuple [.bool true,.int .i64 0]),(251,[shA s,.slice r1 0 Z.length none,.slice r2 0 Z.length none],.tuple [.bool true,.int .i64 0])] (fun M=>∃ext,M=m++ext)):=mG fun e he M hM=>by
  obtain⟨ext,rfl⟩:=hM;simp only[lM] at he;rcases he with rfl | rfl | rfl | rfl | rfl | rfl
  ·exact pQ s Z hZ hl hn _ b o1 o2 o3 (F ext) (D ext) (B ext)
  ·exact fN _ u 0 o4 [u0,A,G] u0 (S ext) (by simp) (by simp) (by simp)
  ·exact fN _ u 1 o4 [u0,A,G] A (S ext) (by simp) (by simp) (by simp[d01])
  ·exact fN _ u 2 o4 [u0,A,G] G (S ext) (by simp) (by simp) (by simp[d02,d12])
  ·have:=pP s Z H hZ R (by omega) hn Y aah (m++ext) b r1 o1 o2 o3 q1 (F ext) (D ext) (B ext) (X ext)
   rw[show H.length=Z.length by omega] at this;exact this
  ·have:=pP s H I R hY2 (by omega) Y hl2 aaM (m++ext) r1 r2 o1 o2 q1 q2 (F ext) (D ext) (X ext) (C ext)
   rw[show I.length=Z.length by omega,show H.length=Z.length by omega] at this;exact this
 have hO:=HS.or' W V;clear W V;refine cR (lv:=kz) (K:=5) hO ?_;clear hO;obtain⟨N,hN⟩:=xE Z.length;simp only[←hN] at j ⊢;simp[aa,agV,f186,aeT.or,af,bY,jd,shA,bf,aQ,er,kz,stC,S,j,w1,w2,w3]
theorem rP{L:List (List UInt8)}{i:Nat}{s:List UInt8}(h:L[i]? =some s):(stC L)[i]? =some (.str s):=by simp[stC,h]
theorem tB(Q:List Rat):qC Q=stC (Q.map ak):=by simp[qC,stC]
variable{b:Code}
theorem Fu{K:Nat}(L:List (List UInt8))(G:L.length≤1000)(H:L.length<K)(A:ai f242=[b]):
  ∃F:Env→Bool→Env,∀Z d,(ad Z 0=.slice 0 0 L.length none∧ad Z 1=.slice 0 0 L.length none∧ad Z 12=.int .i64 L.length∧ad Z 13=.int .i64 0)→
   aM (aN prog) (fun _=>[13]) bM K 26 1 true (.loop b) ⟨Z,[.cells false 1 (stC L)],d⟩=some (.exit 0,⟨F Z d,[.cells false 1 (stC L)],d⟩)∧True:=by
 refine cD (L:=[13]) rfl (fun Z=>ad Z 0=.slice 0 0 L.length none∧ad Z 1=.slice 0 0 L.length none∧ad Z 12=.int .i64 L.length∧ad Z 13=.int .i64 0) (fun _ _=>True) ?_;rintro Z d ⟨h0,h1,h12,h13⟩;obtain⟨S,W⟩:∃S,aC f242=S:=⟨_,rfl⟩
 have O:=be W (ls:=[[0,0,3,7,0,0,48,112,255]]) (by kernel_rfl);simp only[aC,bn,f242,List.nil_append,List.append_nil] at W;subst W;simp only[lB] at O;have M:ba [0,0,3,7,0,0,48,112,255] 8=true:=by decide
 have e:=fun d x y=>kA d x y
 simp[ai,aG,f242] at A;have X:aD [13] (ab b) Z ((13,.int .i64 ((0:Nat):Int))::Z)=aD [13] (ab b) Z Z:=by simp[aD,h13]
 rw[←X];refine dh (α:=Nat) (fun n=>⟨aD [13] (ab b) Z ((13,.int .i64 (n:Int))::Z),[.cells false 1 (stC L)],d⟩) (fun n=>L.length-n) (fun n=>n≤L.length) (.exit 0) _ d _ (by simp) ?_ K 0 (by omega) (by omega);rintro n J;clear X;subst A;by_cases V:n<L.length
 ·obtain⟨z,D⟩:∃z,L[n]? =some z:=⟨L[n],List.getElem?_eq_getElem V⟩
  have C:=rP D;have w1:IntKind.i64.wrap ((n:Int)+1)=((n+1:Nat):Int):=by rw[aq];omega
  left;obtain⟨v,B⟩:=xE (n+1);rw[←B] at w1;refine⟨v,?_⟩;simp[-aB,ag O,aS,aO,aP,M,h0,h1,h12,V,C,w1];omega
 ·right
  simp[h12,V]
theorem Qt(L:List (List UInt8))(A:L.length≤1000):
  kO prog 242 [.slice 0 0 L.length none,.slice 0 0 L.length none] [.cells false 1 (stC L)] (.bool true) [.cells false 1 (stC L)]:=by
 have W:aK prog 242=some f242:=by kernel_rfl
 obtain⟨b,Z⟩:∃b,ai f242=[b]:=⟨_,rfl⟩
 obtain⟨F,X⟩:=Fu (K:=L.length+1) L A (by omega) Z;have V:=fun S d O M h3 J=>(X S d ⟨O,M,h3,J⟩).1
 clear X;simp[ai,aG,f242] at Z;subst Z;refine cR (lv:=(fun _=>[13])) (K:=(L.length+1)) (al _) ?_;simp[aa,W,f242,V]
theorem Su(L:List (List UInt8))(G:L.length≤1000)(M:Mem)(b:Nat)(o:Bool)(A:M[b]? =some (.cells o 1 (stC L))):
  kO prog 242 [.slice b 0 L.length none,.slice b 0 L.length none] M (.bool true) M:=by
 have X:=gL A;have:=kO.frame (M:=M) (new:=[]) [b] rfl (by simpa using X) (by rfl) (fun i t Z=>by
  match i with
  |0=>simp at Z;subst Z;exact bu (kJ _) A List.take_length
  |i+1=>simp at Z) rfl (Qt L G)
 simpa [AV.ae3,AV.ren,dL] using this
theorem Fv{K:Nat}(L:List (List UInt8))(G:L.length≤1000)(H:L.length<K)(A:ai f26=[b]):
  ∃F:Env→Bool→Env,∀Z d,(ad Z 0=.slice 0 0 L.length none∧ad Z 1=.slice 0 0 L.length none∧ad Z 12=.int .i64 L.length∧ad Z 13=.int .i64 0)→
   aM (aN prog) (fun _=>[13]) bM K 26 1 true (.loop b) ⟨Z,[.cells false 1 (stC L)],d⟩=some (.exit 0,⟨F Z d,[.cells false 1 (stC L)],d⟩)∧True:=by
 refine cD (L:=[13]) rfl (fun Z=>ad Z 0=.slice 0 0 L.length none∧ad Z 1=.slice 0 0 L.length none∧ad Z 12=.int .i64 L.length∧ad Z 13=.int .i64 0) (fun _ _=>True) ?_;rintro Z d ⟨h0,h1,h12,h13⟩;obtain⟨S,W⟩:∃S,aC f26=S:=⟨_,rfl⟩
 have O:=be W (ls:=[[0,0,3,7,0,0,48,112,255]]) (by kernel_rfl);simp only[aC,bn,f26,List.nil_append,List.append_nil] at W;subst W;simp only[lB] at O;have M:ba [0,0,3,7,0,0,48,112,255] 8=true:=by decide
 have e:=fun d x y=>Bh d x y
 simp[ai,aG,f26] at A;have X:aD [13] (ab b) Z ((13,.int .i64 ((0:Nat):Int))::Z)=aD [13] (ab b) Z Z:=by simp[aD,h13]
 rw[←X];refine dh (α:=Nat) (fun n=>⟨aD [13] (ab b) Z ((13,.int .i64 (n:Int))::Z),[.cells false 1 (stC L)],d⟩) (fun n=>L.length-n) (fun n=>n≤L.length) (.exit 0) _ d _ (by simp) ?_ K 0 (by omega) (by omega);rintro n J;clear X;subst A;by_cases V:n<L.length
 ·obtain⟨z,D⟩:∃z,L[n]? =some z:=⟨L[n],List.getElem?_eq_getElem V⟩
  have C:=rP D;have w1:IntKind.i64.wrap ((n:Int)+1)=((n+1:Nat):Int):=by rw[aq];omega
  left;obtain⟨v,B⟩:=xE (n+1);rw[←B] at w1;refine⟨v,?_⟩;simp[-aB,ag O,aS,aO,aP,M,h0,h1,h12,V,C,w1];omega
 ·right
  simp[h12,V]
theorem Qu(L:List (List UInt8))(A:L.length≤1000):
  kO prog 26 [.slice 0 0 L.length none,.slice 0 0 L.length none] [.cells false 1 (stC L)] (.bool true) [.cells false 1 (stC L)]:=by
 have W:aK prog 26=some f26:=by kernel_rfl
 obtain⟨b,Z⟩:∃b,ai f26=[b]:=⟨_,rfl⟩
 obtain⟨F,X⟩:=Fv (K:=L.length+1) L A (by omega) Z;have V:=fun S d O M h3 J=>(X S d ⟨O,M,h3,J⟩).1
 clear X;simp[ai,aG,f26] at Z;subst Z;refine cR (lv:=(fun _=>[13])) (K:=(L.length+1)) (al _) ?_;simp[aa,W,f26,V]
theorem AN(L:List (List UInt8))(G:L.length≤1000)(M:Mem)(b:Nat)(o:Bool)(A:M[b]? =some (.cells o 1 (stC L))):
  kO prog 26 [.slice b 0 L.length none,.slice b 0 L.length none] M (.bool true) M:=by
 have X:=gL A;have:=kO.frame (M:=M) (new:=[]) [b] rfl (by simpa using X) (by rfl) (fun i t Z=>by
  match i with
  |0=>simp at Z;subst Z;exact bu (kJ _) A List.take_length
  |i+1=>simp at Z) rfl (Qu L G)
 simpa [AV.ae3,AV.ren,dL] using this
def afb(N:Mem)(v:AV)(es n:Nat)(C:List AV):Prop:=(v=.y9∧n=0∧C=[])∨∃b o,v=.slice b 0 n none∧0<n∧N[b]? =some (.cells o es C)
variable{N:Mem}{v:AV}
theorem afb.more{es n:Nat}{C:List AV}(h:afb N v es n C)(Z:Mem):afb (N++Z) v es n C:=by
 rcases h with h | ⟨b,o,X,W,h3⟩
 ·exact .inl h
 ·exact .inr ⟨b,o,X,W,gU h3 _⟩
theorem Y5(f:Nat→Bool):∀l:List (List UInt8×List UInt8),AV.aeW f (kC l)=true
 | []=>rfl
 |k::l=>by simp[kC,AV.aeW,AV.aeR,Y5 f l]
def age(N:Mem)(v:AV)(S:List (List (List UInt8))):Prop:=∃Z,Z.length=S.length∧afb N v 1 S.length Z∧∀(i:Nat) x L,Z[i]? =some x→S[i]? =some L→afb N x 1 L.length (stC L)
theorem age.more{S:List (List (List UInt8))}(h:age N v S)(Z:Mem):age (N++Z) v S:=by obtain⟨X,W,V,h3⟩:=h;exact⟨X,W,V.more Z,fun i x L a b=>(h3 i x L a b).more Z⟩
structure Evc.Ok (c:Evc):Prop where
 B:c.B.length≤1000
 U:c.U.length≤1000
 S:c.S.length≤2
 SL:∀L∈c.S,L.length≤1000
 K:c.K.length≤1000
def afv(N:Mem)(A:List AV)(c:Evc):Prop:=∃b u s Z,A=c.cells b u s Z∧afb N b 1 c.B.length (stC c.B)∧afb N u 1 c.U.length (stC c.U)∧age N s c.S∧afb N Z 2 c.K.length (kC c.K)
variable{c:Evc}{ev:List AV}
theorem afv.more(h:afv N ev c)(Z:Mem):afv (N++Z) ev c:=by obtain⟨b,u,s,X,W,V,h3,S,O⟩:=h;exact⟨b,u,s,X,W,V.more Z,h3.more Z,S.more Z,O.more Z⟩
def BO(nm:List UInt8)(n:Z3)(o:Int)(s:Z3):Evc:={ k:=2,nm:=nm,x5:=zS n.1,x6:=zS n.2.1,x7:=zS n.2.2,x8:=zS o,x9:=zS s.1,x10:=zS s.2.1,x11:=zS s.2.2 }
def zP(nm:List UInt8)(n:Z3)(K:List (List UInt8×List UInt8))(s:Z3):Evc:={ k:=3,nm:=nm,x12:=zS n.1,x13:=zS n.2.1,x14:=zS n.2.2,K:=K,x16:=zS s.1,x17:=zS s.2.1,x18:=zS s.2.2 }
def Ow(nm:List UInt8)(n:Z3)(o w:Int)(u:List UInt8):Evc:={ k:=4,nm:=nm,x19:=zS n.1,x20:=zS n.2.1,x21:=zS n.2.2,x22:=zS o,x23:=ak (hQ w),x24:=u }
def Ox(nm:List UInt8)(t:Int×Int×Int×Int)(c:Z3):Evc:={ k:=5,nm:=nm,t1:=t.1,t2:=t.2.1,t3:=t.2.2.1,t4:=t.2.2.2,x29:=zS c.1,x30:=zS c.2.1,x31:=zS c.2.2 }
def xu(nm:List UInt8)(B U:List (List UInt8))(S:List (List (List UInt8))):Evc:={ k:=1,nm:=nm,B:=B,U:=U,S:=S }
theorem Af(G:c.B=[])(H:c.U=[])(A:c.S=[])(I:c.K.length≤1000):c.Ok:=⟨by simp[G],by simp[H],by simp[A],by simp[A],I⟩
theorem Ap(N:Mem):age N .y9 []:=⟨[],rfl,.inl ⟨rfl,rfl,rfl⟩,fun i x L h=>by simp at h⟩
theorem BY(h:ev=c.cells .y9 .y9 .y9 .y9)(A:c.B=[])(G:c.U=[])(I:c.S=[])(H:c.K=[]):afv N ev c:=
 ⟨_,_,_,_,h,.inl ⟨rfl,by simp[A],by simp[A,stC]⟩,.inl ⟨rfl,by simp[G],by simp[G,stC]⟩,by rw[I];exact Ap N,.inl ⟨rfl,by simp[H],by simp[H,kC]⟩⟩
variable{nm:List UInt8}{o o2:Bool}
theorem GM{B U:List (List UInt8)}{S:List (List (List UInt8))}{b u:Nat}{sv:AV}(A:0<B.length)(G:0<U.length)(H:N[b]? =some (.cells o 1 (stC B)))(hu:N[u]? =some (.cells o2 1 (stC U)))(hs:age N sv S):
  afv N (bf nm (.slice b 0 B.length none) (.slice u 0 U.length none) sv) (xu nm B U S):=⟨_,_,_,.y9,rfl,.inr ⟨b,o,rfl,A,H⟩,.inr ⟨u,o2,rfl,G,hu⟩,hs,.inl ⟨rfl,rfl,rfl⟩⟩
theorem Uf{n s:Z3}{L:List P2}{b:Nat}(A:0<L.length)(G:N[b]? =some (.cells o 2 (pC L))):afv N (bw nm n (.slice b 0 L.length none) s) (zP nm n (kT L) s):=
 ⟨.y9,.y9,.y9,_,rfl,.inl ⟨rfl,rfl,rfl⟩,.inl ⟨rfl,rfl,rfl⟩,Ap N,.inr ⟨b,o,by show AV.slice b 0 L.length none=.slice b 0 (kT L).length none;rw[cM],by show 0<(kT L).length;rw[cM];exact A,by show N[b]? =some (.cells o 2 (kC (kT L)));rw[←U6];exact G⟩⟩
variable{L1:List (List UInt8)}{o1:Bool}{r1:Nat}
theorem Zi{c:Nat}(hc:N[c]? =some (.cells o 1 [.slice r1 0 L1.length none]))(A:N[r1]? =some (.cells o1 1 (stC L1)))(G:0<L1.length):age N (.slice c 0 1 none) [L1]:=
 ⟨_,rfl,.inr ⟨c,o,rfl,by simp,hc⟩,fun i x L Z X=>by
  match i,Z,X with
  |0,Z,X=>simp at Z X;subst Z X;exact .inr ⟨r1,o1,rfl,G,A⟩
  |i+1,Z,X=>simp at Z⟩
theorem Zj{c r2:Nat}{L2:List (List UInt8)}(hc:N[c]? =some (.cells o 1 [.slice r1 0 L1.length none,.slice r2 0 L2.length none]))(A:N[r1]? =some (.cells o1 1 (stC L1)))(G:N[r2]? =some (.cells o2 1 (stC L2)))(H:0<L1.length)(I:0<L2.length):age N (.slice c 0 2 none) [L1,L2]:=
 ⟨_,rfl,.inr ⟨c,o,rfl,by simp,hc⟩,fun i x L Z X=>by
  match i,Z,X with
  |0,Z,X=>simp at Z X;subst Z X;exact .inr ⟨r1,o1,rfl,H,A⟩
  |1,Z,X=>simp at Z X;subst Z X;exact .inr ⟨r2,o2,rfl,I,G⟩
  |i+2,Z,X=>simp at Z⟩
def hT(Z:List Int):List (List UInt8):=(qH Z).map ak
theorem cS(Z:List Int):(hT Z).length=Z.length:=by simp[hT,qH]
theorem xA(Z:List Int):jB Z=.cells true 1 (stC (hT Z)):=by rw[jB,tB];rfl
end Go.Proofs
