/- See R54. -/
import Derived.Test.YtgafjliihahjgaaGreatDoorR29
set_option linter.all false
set_option maxRecDepth 100000
set_option maxHeartbeats 40000000
namespace Go.Proofs
open Go.Eng
open Tryz
def yI(s:List UInt8):Nat→List (List UInt8)→Int
 |_,[]=> -1
 |i,x::l=>if s=x then (i:Int) else yI s (i+1) l
theorem Nt{s:List UInt8}:∀{i:Nat}{l:List (List UInt8)},yI s i l<0↔s∉l
 |i,[]=>by simp[yI]
 |i,x::l=>by
  unfold yI;by_cases h:s=x
  ·rw[if_pos h];simp[h]
  ·rw[if_neg h,Nt];simp[h]
theorem Sb{s:List UInt8}:∀{i:Nat}{l:List (List UInt8)},-1≤yI s i l
 |i,[]=>by unfold yI;omega
 |i,x::l=>by
  unfold yI;split
  ·omega
  ·exact Sb
theorem Ab{O:adM}{K:Nat}(L:List (List UInt8))(s:List UInt8)(hl:L.length≤1000000000)(hK:L.length<K){b:Code}(hb:ai f37=[b]):
  ∃F:Env→Bool→Env,∀z' d,(ab z' 0=.slice 0 0 L.length none∧ab z' 1=.str s∧ab z' 7=.int .i64 L.length∧ab z' 8=.int .i64 0)→
   aN (aM prog) (fun _=>[8]) O K 19 1 true (.loop b) ⟨z',[.cells false 1 (stC L)],d⟩=some (if yI s 0 L<0 then .exit 0 else .ret,⟨F z' d,[.cells false 1 (stC L)],d⟩)∧
    (¬yI s 0 L<0→ab (F z' d) 4=.int .i64 (yI s 0 L)):=by
 refine cv rfl (fun z'=>ab z' 0=.slice 0 0 L.length none∧ab z' 1=.str s∧ab z' 7=.int .i64 L.length∧ab z' 8=.int .i64 0) (fun _ AC =>¬yI s 0 L<0→ab AC 4=.int .i64 (yI s 0 L)) ?_;rintro z' d ⟨h0,h1,h7,h8⟩;simp[ai,aK,f37] at hb;have hn:aD [8] (aa b) z' ((8,.int .i64 ((0:Nat):Int))::z')=aD [8] (aa b) z' z':=by simp[aD,h8]
 rw[←hn];have kl:(stC L).length=L.length:=bU L;refine cV (α:=Nat) (fun n=>⟨aD [8] (aa b) z' ((8,.int .i64 (n:Int))::z'),[.cells false 1 (stC L)],d⟩) (fun n=>L.length-n) (fun n=>n≤L.length∧yI s 0 L=yI s n (L.drop n)) _ _ d _ (by split<;>simp) ?_ K 0 ⟨by omega,by rw[List.drop_zero]⟩ (by omega);rintro n ⟨Za,he⟩;clear hn;subst hb;by_cases A':n<L.length
 ·obtain⟨x,hx⟩:∃x,L[n]? =some x:=⟨L[n],List.getElem?_eq_getElem A'⟩
  have k1:∀h,(stC L)[n]'h=.str x:=fun h=>by have:=sj hx;rw[List.getElem?_eq_getElem h] at this;exact Option.some.inj this
  have hd:L.drop n=x::L.drop (n+1):=by rw[List.getElem?_eq_some_iff] at hx;obtain⟨h1,h2⟩:=hx;rw[←h2];exact List.drop_eq_getElem_cons h1
  rw[hd,yI] at he;have w1:IntKind.i64.wrap ((n:Int)+1)=((n+1:Nat):Int):=by rw[al (by omega) (by omega)];omega
  by_cases hs:s=x
  ·right
   rw[if_pos hs] at he;subst hs;have hng:¬(n:Int)<0:=by omega
   rw[he,if_neg hng];simp[h0,h1,h7,A',kl,k1]
  ·left
   rw[if_neg hs] at he;have hb:(s==x)=false:=by simpa using hs
   refine⟨n+1,?_⟩;refine dZ (show(n+1≤L.length∧yI s 0 L=yI s (n+1) (L.drop (n+1)))∧L.length-(n+1)<L.length-n from⟨⟨by omega,he⟩,by omega⟩) ?_;simp[h0,h1,h7,A',kl,k1,hb,w1]
 ·right
  have e:L.drop n=[]:=List.drop_of_length_le (by omega);rw[e,yI] at he;rw[he,if_pos (by decide)];simp[h7,A']
theorem F6(L:List (List UInt8))(s:List UInt8)(hl:L.length≤1000000000):
  kF prog 37 [.slice 0 0 L.length none,.str s] [.cells false 1 (stC L)] (.int .i64 (yI s 0 L)) [.cells false 1 (stC L)]:=by
 have hG:aT prog 37=some f37:=by kernel_rfl
 obtain⟨b,hb⟩:∃b,ai f37=[b]:=⟨_,rfl⟩
 obtain⟨F,hF⟩:=Ab (O:=bq) (K:=L.length+1) L s hl (by omega) hb;simp[ai,aK,f37] at hb;subst hb;refine bB (lv:=(fun _=>[8])) (K:=(L.length+1)) (ah _) ?_;by_cases hc:yI s 0 L<0
 ·rw[if_pos hc] at hF
  have I':=fun z' d h=>(hF z' d h).1
  clear hF;have h1:yI s 0 L= -1:=by have:=Sb (s:=s) (i:=0) (l:=L);omega
  rw[h1];simp[ad,hG,f37,I']
 ·rw[if_neg hc] at hF
  have I':=fun z' d h=>(hF z' d h).1
  have T':=fun z' d h=>(hF z' d h).2 hc
  clear hF;simp[ad,hG,f37,I',T']
theorem BW(s:List UInt8)(M:Mem):kF prog 37 [.kK,.str s] M (.int .i64 (-1)) M:=by
 have hG:aT prog 37=some f37:=by kernel_rfl
 refine az (ah _) (lv:=fun _=>[8]) (K:=1) rfl rfl ?_ M;simp[ad,hG,f37,aI,ej]
variable{L:List (List UInt8)}{M:Mem}{x:AV}
theorem w8(s:List UInt8)(hl:L.length≤1000000000)(hx:sts M x=some L):kF prog 37 [x,.str s] M (.int .i64 (yI s 0 L)) M:=by
 rcases rD hx with h | ⟨rfl,rfl⟩
 ·exact kF.agl (rest:=[.str s]) (kx L) rfl rfl (F6 L s hl) h
 ·exact BW s M
noncomputable def Ez:adM:=fun c args M=>match c,args with
 |.fn 37,[x,.str s]=>match sts M x with
  |some L=>if L.length≤1000000000 then some ⟨.int .i64 (yI s 0 L),none,[]⟩ else none
  |none=>none
 |c,args=>bq c args M
theorem OK:kP prog Ez:=by
 refine dq fun c args M r h=>?_
 unfold Ez at h;split at h
 ·split at h
  ·rename_i L hL
   split at h
   ·rename_i hc
    cases h;refine af ?_;rw[List.append_nil];exact w8 _ hc hL
   ·cases h
  ·cases h
 ·exact jr (ah _) h
theorem kA(s:List UInt8)(hl:L.length≤1000000000)(hx:sts M x=some L):kF prog 18 [x,.str s] M (.bool (decide (s∈L))) M:=by
 have hG:aT prog 18=some f18:=by kernel_rfl
 have hi:decide (0≤yI s 0 L)=decide (s∈L):=by
  rw[decide_eq_decide];have:=Nt (s:=s) (i:=0) (l:=L);by_cases h:s∈L
  ·simp only[h,iff_true]
   exact Int.not_lt.1 fun e=>this.1 e h
  ·simp only[h,iff_false]
   have:=this.2 h;omega
 refine bB (K:=1) (lv:=fun _=>[]) OK ?_;rw[←hi];simp[ad,hG,f18,Ez,hx,hl]
end Go.Proofs
namespace Go.Proofs
open Go.Eng
open Tryz
open Classical in
noncomputable def iU(L:List (FuncId×List AV×AV)) (p:Mem→Prop):adM:=fun c a M=>if p M then ag (cK L) c a M else none
theorem mq{P:Program}{L:List (FuncId×List AV×AV)}{p:Mem→Prop}(h:∀x∈L,∀M,p M→kF P x.1 x.2.1 M x.2.2 M):kP P (iU L p):=by
 have k:∀f a v,cK L f a=some v→∃x∈L,f=x.1∧a=x.2.1∧v=x.2.2:=by
  clear h;intro f a v hv;induction L with
  |nil=>simp[cK] at hv
  |cons x L ih=>
   rw[cK] at hv;split at hv
   ·rename_i hc
    cases hv;exact⟨x,by simp,hc.1,hc.2,rfl⟩
   ·obtain⟨y,hy,h1⟩:=ih hv
    exact⟨y,by simp[hy],h1⟩
 have k2:∀c a M r,iU L p c a M=some r→p M∧∃f,c=.fn f∧∃x∈L,f=x.1∧a=x.2.1∧r=⟨x.2.2,none,[]⟩:=by
  intro c a M r hr;unfold iU at hr;split at hr
  ·rename_i hp
   refine⟨hp,?_⟩;unfold ag at hr;split at hr
   ·rename_i f
    split at hr
    ·rename_i v hv
     cases hr;obtain⟨x,hx,h1,h2,h3⟩:=k _ _ _ hv;exact⟨f,rfl,x,hx,h1,h2,by rw[h3]⟩
    ·cases hr
   ·cases hr
  ·cases hr
 refine⟨fun f a M r hr=>?_,fun b a M r hr=>?_,fun c a M r q hr hq=>?_⟩
 ·obtain⟨hp,g,hg,x,hx,h1,rfl,rfl⟩:=k2 _ _ _ _ hr
  cases hg;subst h1;simpa [HS.mem] using h x hx M hp
 ·obtain⟨_,g,hg,_⟩:=k2 _ _ _ _ hr
  cases hg
 ·obtain⟨_,g,_,x,_,_,_,rfl⟩:=k2 _ _ _ _ hr
  cases hq
def kf(c:Code):List Nat:=if (aa c).contains 35 then [35] else [10,65]
theorem fC(M:Mem)(u k:Nat)(o:Bool)(U:List (List UInt8))(s:List UInt8)(hu:M[u]? =some (.cells o 1 (stC U)))(hk:k≤U.length)(hl:U.length≤3)(hs:s∉U.take k):
  kF prog 18 [.slice u 0 k none,.str s] M (.bool false) M:=by
 have h:sts M (.slice u 0 k none)=some (U.take k):=by
  have h1:(stC U).take (k*1)=stC (U.take k):=by simp[stC,List.map_take]
  unfold sts;rw[JG hu (by rw[bU];omega) h1];exact Bz _
 have:=kA (M:=M) s (by rw[List.length_take];omega) h
 rwa [decide_eq_false hs] at this
theorem agz:aT prog 186=some f186:=by kernel_rfl
theorem FN(s:aeE)(nm:List UInt8)(u0:List UInt8)(n0:u0∈bC)(Z:List Int)(hZ:∀z∈Z,z.natAbs<1000)(hl:Z.length≤1000)(hn:Z.length=s.P.length)(m:Mem)(b u:Nat)(o1 o2 o3 o4:Bool)(hp:m[0]? =some (.cells o1 2 (pC s.P)))(hq:m[1]? =some (.cells o2 3 (tC s.T)))(hb:m[b]? =some (.cells o3 1 (qC (qH Z))))(hu:m[u]? =some (.cells o4 1 (stC [u0]))):
  kF prog 186 [shA s,.agg (bc nm (.slice b 0 Z.length none) (.slice u 0 1 none) (.kK))] m (.int .i64 0) m:=by
 have lp:=(gL hp);have lq:=(gL hq);have lb:=(gL hb);have lu:=(gL hu);have ep:=fun ext:Mem=>(List.getElem?_append_left (l₂:=ext) lp).trans hp
 have eq:=fun ext:Mem=>(List.getElem?_append_left (l₂:=ext) lq).trans hq
 have eb:=fun ext:Mem=>(List.getElem?_append_left (l₂:=ext) lb).trans hb
 have eu:=fun ext:Mem=>(List.getElem?_append_left (l₂:=ext) lu).trans hu
 have YC:kP prog (ag (cK [(109,[.str u0],.int .i64 0)])):=fa fun e he M=>by simp only[List.mem_cons,List.not_mem_nil,or_false] at he;rcases he with rfl;exact dj _ n0 M
 have Yn:kP prog (iU [(250,[shA s,.slice b 0 Z.length none],.int .i64 0),(18,[.slice u 0 0 none,.str u0],.bool false)] (fun M=>∃ext,M=m++ext)):=mq fun e he M hM=>by
  obtain⟨ext,rfl⟩:=hM;simp only[List.mem_cons,List.not_mem_nil,or_false] at he;rcases he with rfl | rfl
  ·exact pd s Z hZ hl hn _ b o1 o2 o3 (ep ext) (eq ext) (eb ext)
  ·exact fC _ u 0 o4 [u0] u0 (eu ext) (by simp) (by simp) (by simp)
 have hO:=kP.or' YC Yn;clear YC Yn;refine bB (lv:=kf) (K:=5) hO ?_;clear hO;obtain⟨N,hN⟩:∃N,N=Z.length:=⟨_,rfl⟩
 simp only[←hN] at hb ⊢;simp[ad,agz,f186,adM.or,ag,cK,iU,shA,bc,aI,ej,kf,stC,eu,w0,w1]
theorem FO(s:aeE)(nm:List UInt8)(u0 u1:List UInt8)(n0:u0∈bC)(n1:u1∈bC)(ZF:u1≠u0)(Z:List Int)(hZ:∀z∈Z,z.natAbs<1000)(hl:Z.length≤1000)(hn:Z.length=s.P.length)(Y1:List Int)(Zr:∀z∈Y1,z.natAbs<1000)(Ym:Y1.length=s.P.length)(Yq:∀(i:Nat) z y,Z[i]? =some z→Y1[i]? =some y→z≤y)(m:Mem)(b u c r1:Nat)(o1 o2 o3 o4 o5 q1:Bool)(hp:m[0]? =some (.cells o1 2 (pC s.P)))(hq:m[1]? =some (.cells o2 3 (tC s.T)))(hb:m[b]? =some (.cells o3 1 (qC (qH Z))))(hu:m[u]? =some (.cells o4 1 (stC [u0,u1])))(hc:m[c]? =some (.cells o5 1 [.slice r1 0 Z.length none]))(Ya:m[r1]? =some (.cells q1 1 (qC (qH Y1)))):
  kF prog 186 [shA s,.agg (bc nm (.slice b 0 Z.length none) (.slice u 0 2 none) (.slice c 0 1 none))] m (.int .i64 0) m:=by
 have lp:=(gL hp);have lq:=(gL hq);have lb:=(gL hb);have lu:=(gL hu);have lc:=(gL hc);have lr1:=(gL Ya);have ep:=fun ext:Mem=>(List.getElem?_append_left (l₂:=ext) lp).trans hp
 have eq:=fun ext:Mem=>(List.getElem?_append_left (l₂:=ext) lq).trans hq
 have eb:=fun ext:Mem=>(List.getElem?_append_left (l₂:=ext) lb).trans hb
 have eu:=fun ext:Mem=>(List.getElem?_append_left (l₂:=ext) lu).trans hu
 have ec:=fun ext:Mem=>(List.getElem?_append_left (l₂:=ext) lc).trans hc
 have er1:=fun ext:Mem=>(List.getElem?_append_left (l₂:=ext) lr1).trans Ya
 have YC:kP prog (ag (cK [(109,[.str u0],.int .i64 0),(109,[.str u1],.int .i64 0)])):=fa fun e he M=>by
  simp only[List.mem_cons,List.not_mem_nil,or_false] at he;rcases he with rfl | rfl
  ·exact dj _ n0 M
  ·exact dj _ n1 M
 have Yn:kP prog (iU [(250,[shA s,.slice b 0 Z.length none],.int .i64 0),(18,[.slice u 0 0 none,.str u0],.bool false),(18,[.slice u 0 1 none,.str u1],.bool false),(251,[shA s,.slice b 0 Z.length none,.slice r1 0 Z.length none],.tuple [.bool true,.int .i64 0])] (fun M=>∃ext,M=m++ext)):=mq fun e he M hM=>by
  obtain⟨ext,rfl⟩:=hM;simp only[List.mem_cons,List.not_mem_nil,or_false] at he;rcases he with rfl | rfl | rfl | rfl
  ·exact pd s Z hZ hl hn _ b o1 o2 o3 (ep ext) (eq ext) (eb ext)
  ·exact fC _ u 0 o4 [u0,u1] u0 (eu ext) (by simp) (by simp) (by simp)
  ·exact fC _ u 1 o4 [u0,u1] u1 (eu ext) (by simp) (by simp) (by simp[ZF])
  ·have:=pc s Z Y1 hZ Zr (by omega) hn Ym Yq (m++ext) b r1 o1 o2 o3 q1 (ep ext) (eq ext) (eb ext) (er1 ext)
   rw[show Y1.length=Z.length by omega] at this;exact this
 have hO:=kP.or' YC Yn;clear YC Yn;refine bB (lv:=kf) (K:=5) hO ?_;clear hO;obtain⟨N,hN⟩:∃N,N=Z.length:=⟨_,rfl⟩
 simp only[←hN] at ec ⊢;simp[ad,agz,f186,adM.or,ag,cK,iU,shA,bc,aI,ej,kf,stC,eu,ec,w1,w2]
theorem FP(s:aeE)(nm:List UInt8)(u0 u1 u2:List UInt8)(n0:u0∈bC)(n1:u1∈bC)(n2:u2∈bC)(ZF:u1≠u0)(d02:u2≠u0)(d12:u2≠u1)(Z:List Int)(hZ:∀z∈Z,z.natAbs<1000)(hl:Z.length≤1000)(hn:Z.length=s.P.length)(Y1 Y2:List Int)(Zr:∀z∈Y1,z.natAbs<1000)(Ym:Y1.length=s.P.length)(Yq:∀(i:Nat) z y,Z[i]? =some z→Y1[i]? =some y→z≤y)(hY2:∀z∈Y2,z.natAbs<1000)(YU:Y2.length=s.P.length)(ZG:∀(i:Nat) z y,Y1[i]? =some z→Y2[i]? =some y→z≤y)(m:Mem)(b u c r1 r2:Nat)(o1 o2 o3 o4 o5 q1 q2:Bool)(hp:m[0]? =some (.cells o1 2 (pC s.P)))(hq:m[1]? =some (.cells o2 3 (tC s.T)))(hb:m[b]? =some (.cells o3 1 (qC (qH Z))))(hu:m[u]? =some (.cells o4 1 (stC [u0,u1,u2])))(hc:m[c]? =some (.cells o5 1 [.slice r1 0 Z.length none,.slice r2 0 Z.length none]))(Ya:m[r1]? =some (.cells q1 1 (qC (qH Y1))))(Yc:m[r2]? =some (.cells q2 1 (qC (qH Y2)))):
  kF prog 186 [shA s,.agg (bc nm (.slice b 0 Z.length none) (.slice u 0 3 none) (.slice c 0 2 none))] m (.int .i64 0) m:=by
 have lp:=(gL hp);have lq:=(gL hq);have lb:=(gL hb);have lu:=(gL hu);have lc:=(gL hc);have lr1:=(gL Ya);have lr2:=(gL Yc);have ep:=fun ext:Mem=>(List.getElem?_append_left (l₂:=ext) lp).trans hp
 have eq:=fun ext:Mem=>(List.getElem?_append_left (l₂:=ext) lq).trans hq
 have eb:=fun ext:Mem=>(List.getElem?_append_left (l₂:=ext) lb).trans hb
 have eu:=fun ext:Mem=>(List.getElem?_append_left (l₂:=ext) lu).trans hu
 have ec:=fun ext:Mem=>(List.getElem?_append_left (l₂:=ext) lc).trans hc
 have er1:=fun ext:Mem=>(List.getElem?_append_left (l₂:=ext) lr1).trans Ya
 have er2:=fun ext:Mem=>(List.getElem?_append_left (l₂:=ext) lr2).trans Yc
 have YC:kP prog (ag (cK [(109,[.str u0],.int .i64 0),(109,[.str u1],.int .i64 0),(109,[.str u2],.int .i64 0)])):=fa fun e he M=>by
  simp only[List.mem_cons,List.not_mem_nil,or_false] at he;rcases he with rfl | rfl | rfl
  ·exact dj _ n0 M
  ·exact dj _ n1 M
  ·exact dj _ n2 M
 have Yn:kP prog (iU [(250,[shA s,.slice b 0 Z.length none],.int .i64 0),(18,[.slice u 0 0 none,.str u0],.bool false),(18,[.slice u 0 1 none,.str u1],.bool false),(18,[.slice u 0 2 none,.str u2],.bool false),(251,[shA s,.slice b 0 Z.length none,.slice r1 0 Z.length none],.tuple [.bool true,.int .i64 0]),(251,[shA s,.slice r1 0 Z.length none,.slice r2 0 Z.length none],.tuple [.bool true,.int .i64 0])] (fun M=>∃ext,M=m++ext)):=mq fun e he M hM=>by
  obtain⟨ext,rfl⟩:=hM;simp only[List.mem_cons,List.not_mem_nil,or_false] at he;rcases he with rfl | rfl | rfl | rfl | rfl | rfl
  ·exact pd s Z hZ hl hn _ b o1 o2 o3 (ep ext) (eq ext) (eb ext)
  ·exact fC _ u 0 o4 [u0,u1,u2] u0 (eu ext) (by simp) (by simp) (by simp)
  ·exact fC _ u 1 o4 [u0,u1,u2] u1 (eu ext) (by simp) (by simp) (by simp[ZF])
  ·exact fC _ u 2 o4 [u0,u1,u2] u2 (eu ext) (by simp) (by simp) (by simp[d02,d12])
  ·have:=pc s Z Y1 hZ Zr (by omega) hn Ym Yq (m++ext) b r1 o1 o2 o3 q1 (ep ext) (eq ext) (eb ext) (er1 ext)
   rw[show Y1.length=Z.length by omega] at this;exact this
  ·have:=pc s Y1 Y2 Zr hY2 (by omega) Ym YU ZG (m++ext) r1 r2 o1 o2 q1 q2 (ep ext) (eq ext) (er1 ext) (er2 ext)
   rw[show Y2.length=Z.length by omega,show Y1.length=Z.length by omega] at this;exact this
 have hO:=kP.or' YC Yn;clear YC Yn;refine bB (lv:=kf) (K:=5) hO ?_;clear hO;obtain⟨N,hN⟩:∃N,N=Z.length:=⟨_,rfl⟩
 simp only[←hN] at ec ⊢;simp[ad,agz,f186,adM.or,ag,cK,iU,shA,bc,aI,ej,kf,stC,eu,ec,w1,w2,w3]
theorem sj{L:List (List UInt8)}{i:Nat}{s:List UInt8}(h:L[i]? =some s):(stC L)[i]? =some (.str s):=by simp[stC,h]
theorem Td(f:Nat→Bool):∀L:List (List UInt8),AV.aeB f (stC L)=true
 | []=>rfl
 |q::Q=>by have:=Td f Q;simp only[stC] at this;simp[stC,AV.aeB,AV.y9,this]
theorem xD(Q:List Rat):qC Q=stC (Q.map aw):=by simp[qC,stC]
variable{b:Code}
theorem Ee{K:Nat}(L:List (List UInt8))(hl:L.length≤1000)(hK:L.length<K)(hb:ai f242=[b]):
  ∃F:Env→Bool→Env,∀z' d,(ab z' 0=.slice 0 0 L.length none∧ab z' 1=.slice 0 0 L.length none∧ab z' 12=.int .i64 L.length∧ab z' 13=.int .i64 0)→
   aN (aM prog) (fun _=>[13]) bq K 26 1 true (.loop b) ⟨z',[.cells false 1 (stC L)],d⟩=some (.exit 0,⟨F z' d,[.cells false 1 (stC L)],d⟩)∧True:=by
 refine cv (L:=[13]) rfl (fun z'=>ab z' 0=.slice 0 0 L.length none∧ab z' 1=.slice 0 0 L.length none∧ab z' 12=.int .i64 L.length∧ab z' 13=.int .i64 0) (fun _ _=>True) ?_;rintro z' d ⟨h0,h1,h12,h13⟩;have IR:=bj (rfl:aG f242=_) (ls:=[[0,0,3,7,0,0,48,112,255]]) (by kernel_rfl);simp only[aG,bF,f242,List.nil_append,List.append_nil,List.map_cons,List.map_nil,List.cons.injEq,and_true] at IR;have a0:aX [0,0,3,7,0,0,48,112,255] 8=true:=by decide
 have e:=fun d x y=>kg d x y
 simp[ai,aK,f242] at hb;have YF:aD [13] (aa b) z' ((13,.int .i64 ((0:Nat):Int))::z')=aD [13] (aa b) z' z':=by simp[aD,h13]
 rw[←YF];refine cV (α:=Nat) (fun n=>⟨aD [13] (aa b) z' ((13,.int .i64 (n:Int))::z'),[.cells false 1 (stC L)],d⟩) (fun n=>L.length-n) (fun n=>n≤L.length) (.exit 0) _ d _ (by simp) ?_ K 0 (by omega) (by omega);rintro n Za;clear YF;subst hb;by_cases A':n<L.length
 ·obtain⟨z,hz⟩:∃z,L[n]? =some z:=⟨L[n],List.getElem?_eq_getElem A'⟩
  have k1:=sj hz;have w1:IntKind.i64.wrap ((n:Int)+1)=((n+1:Nat):Int):=by rw[al (by omega) (by omega)];omega
  left;obtain⟨v,hv⟩:∃v,v=n+1:=⟨_,rfl⟩
  rw[←hv] at w1;refine⟨v,?_⟩;simp[-aE,aj IR,bn,bf,bm,a0,h0,h1,h12,A',k1,w1];omega
 ·right
  simp[h12,A']
theorem Oc(L:List (List UInt8))(hl:L.length≤1000):
  kF prog 242 [.slice 0 0 L.length none,.slice 0 0 L.length none] [.cells false 1 (stC L)] (.bool true) [.cells false 1 (stC L)]:=by
 have hG:aT prog 242=some f242:=by kernel_rfl
 obtain⟨b,hb⟩:∃b,ai f242=[b]:=⟨_,rfl⟩
 obtain⟨F,hF⟩:=Ee (K:=L.length+1) L hl (by omega) hb;have I':=fun z' d h1 h2 h3 h4=>(hF z' d ⟨h1,h2,h3,h4⟩).1
 clear hF;simp[ai,aK,f242] at hb;subst hb;refine bB (lv:=(fun _=>[13])) (K:=(L.length+1)) (ah _) ?_;simp[ad,hG,f242,I']
theorem Qj(L:List (List UInt8))(hl:L.length≤1000)(M:Mem)(b:Nat)(o:Bool)(hb:M[b]? =some (.cells o 1 (stC L))):
  kF prog 242 [.slice b 0 L.length none,.slice b 0 L.length none] M (.bool true) M:=by
 have A':=(gL hb);have:=kF.frame (M:=M) (new:=[]) [b] rfl (by simpa using A') (by rfl) (fun i t hs=>by
  match i with
  |0=>simp at hs;subst hs;exact bL (kx _) hb List.take_length
  |i+1=>simp at hs) rfl (Oc L hl)
 simpa [AV.aeM,AV.ren,aF] using this
theorem Ef{K:Nat}(L:List (List UInt8))(hl:L.length≤1000)(hK:L.length<K)(hb:ai f26=[b]):
  ∃F:Env→Bool→Env,∀z' d,(ab z' 0=.slice 0 0 L.length none∧ab z' 1=.slice 0 0 L.length none∧ab z' 12=.int .i64 L.length∧ab z' 13=.int .i64 0)→
   aN (aM prog) (fun _=>[13]) bq K 26 1 true (.loop b) ⟨z',[.cells false 1 (stC L)],d⟩=some (.exit 0,⟨F z' d,[.cells false 1 (stC L)],d⟩)∧True:=by
 refine cv (L:=[13]) rfl (fun z'=>ab z' 0=.slice 0 0 L.length none∧ab z' 1=.slice 0 0 L.length none∧ab z' 12=.int .i64 L.length∧ab z' 13=.int .i64 0) (fun _ _=>True) ?_;rintro z' d ⟨h0,h1,h12,h13⟩;have IR:=bj (rfl:aG f26=_) (ls:=[[0,0,3,7,0,0,48,112,255]]) (by kernel_rfl);simp only[aG,bF,f26,List.nil_append,List.append_nil,List.map_cons,List.map_nil,List.cons.injEq,and_true] at IR;have a0:aX [0,0,3,7,0,0,48,112,255] 8=true:=by decide
 have e:=fun d x y=>z6 d x y
 simp[ai,aK,f26] at hb;have YF:aD [13] (aa b) z' ((13,.int .i64 ((0:Nat):Int))::z')=aD [13] (aa b) z' z':=by simp[aD,h13]
 rw[←YF];refine cV (α:=Nat) (fun n=>⟨aD [13] (aa b) z' ((13,.int .i64 (n:Int))::z'),[.cells false 1 (stC L)],d⟩) (fun n=>L.length-n) (fun n=>n≤L.length) (.exit 0) _ d _ (by simp) ?_ K 0 (by omega) (by omega);rintro n Za;clear YF;subst hb;by_cases A':n<L.length
 ·obtain⟨z,hz⟩:∃z,L[n]? =some z:=⟨L[n],List.getElem?_eq_getElem A'⟩
  have k1:=sj hz;have w1:IntKind.i64.wrap ((n:Int)+1)=((n+1:Nat):Int):=by rw[al (by omega) (by omega)];omega
  left;obtain⟨v,hv⟩:∃v,v=n+1:=⟨_,rfl⟩
  rw[←hv] at w1;refine⟨v,?_⟩;simp[-aE,aj IR,bn,bf,bm,a0,h0,h1,h12,A',k1,w1];omega
 ·right
  simp[h12,A']
theorem Od(L:List (List UInt8))(hl:L.length≤1000):
  kF prog 26 [.slice 0 0 L.length none,.slice 0 0 L.length none] [.cells false 1 (stC L)] (.bool true) [.cells false 1 (stC L)]:=by
 have hG:aT prog 26=some f26:=by kernel_rfl
 obtain⟨b,hb⟩:∃b,ai f26=[b]:=⟨_,rfl⟩
 obtain⟨F,hF⟩:=Ef (K:=L.length+1) L hl (by omega) hb;have I':=fun z' d h1 h2 h3 h4=>(hF z' d ⟨h1,h2,h3,h4⟩).1
 clear hF;simp[ai,aK,f26] at hb;subst hb;refine bB (lv:=(fun _=>[13])) (K:=(L.length+1)) (ah _) ?_;simp[ad,hG,f26,I']
theorem zy(L:List (List UInt8))(hl:L.length≤1000)(M:Mem)(b:Nat)(o:Bool)(hb:M[b]? =some (.cells o 1 (stC L))):
  kF prog 26 [.slice b 0 L.length none,.slice b 0 L.length none] M (.bool true) M:=by
 have A':=(gL hb);have:=kF.frame (M:=M) (new:=[]) [b] rfl (by simpa using A') (by rfl) (fun i t hs=>by
  match i with
  |0=>simp at hs;subst hs;exact bL (kx _) hb List.take_length
  |i+1=>simp at hs) rfl (Od L hl)
 simpa [AV.aeM,AV.ren,aF] using this
def aeJ(N:Mem) (v:AV) (es n:Nat) (C:List AV):Prop:=(v=.kK∧n=0∧C=[])∨∃b o,v=.slice b 0 n none∧0<n∧N[b]? =some (.cells o es C)
variable{N:Mem}{v:AV}
theorem aeJ.more{es n:Nat}{C:List AV}(h:aeJ N v es n C)(Z:Mem):aeJ (N++Z) v es n C:=by
 rcases h with h | ⟨b,o,h1,h2,h3⟩
 ·exact .inl h
 ·exact .inr ⟨b,o,h1,h2,by rw[List.getElem?_append_left (gL h3)];exact h3⟩
theorem V6(f:Nat→Bool):∀l:List (List UInt8×List UInt8),AV.aeB f (kC l)=true
 | []=>rfl
 |k::l=>by simp[kC,AV.aeB,AV.y9,V6 f l]
def afN(N:Mem) (v:AV) (S:List (List (List UInt8))):Prop:=∃vs,vs.length=S.length∧aeJ N v 1 S.length vs∧∀(i:Nat) x L,vs[i]? =some x→S[i]? =some L→aeJ N x 1 L.length (stC L)
theorem afN.more{S:List (List (List UInt8))}(h:afN N v S)(Z:Mem):afN (N++Z) v S:=by obtain⟨vs,h1,h2,h3⟩:=h;exact⟨vs,h1,h2.more Z,fun i x L a b=>(h3 i x L a b).more Z⟩
structure Evc.Ok (c:Evc):Prop where
 B:c.B.length≤1000
 U:c.U.length≤1000
 S:c.S.length≤2
 SL:∀L∈c.S,L.length≤1000
 K:c.K.length≤1000
def afi(N:Mem) (ev:List AV) (c:Evc):Prop:=∃b u s kn,ev=c.cells b u s kn∧aeJ N b 1 c.B.length (stC c.B)∧aeJ N u 1 c.U.length (stC c.U)∧afN N s c.S∧aeJ N kn 2 c.K.length (kC c.K)
variable{c:Evc}{ev:List AV}
theorem afi.more(h:afi N ev c)(Z:Mem):afi (N++Z) ev c:=by obtain⟨b,u,s,kn,h1,h2,h3,h4,h5⟩:=h;exact⟨b,u,s,kn,h1,h2.more Z,h3.more Z,h4.more Z,h5.more Z⟩
def AH(nm:List UInt8) (n:Z3) (o:Int) (s:Z3):Evc:={ k:=2,nm:=nm,x5:=zS n.1,x6:=zS n.2.1,x7:=zS n.2.2,x8:=zS o,x9:=zS s.1,x10:=zS s.2.1,x11:=zS s.2.2 }
def JD(nm:List UInt8) (n:Z3) (K:List (List UInt8×List UInt8)) (s:Z3):Evc:={ k:=3,nm:=nm,x12:=zS n.1,x13:=zS n.2.1,x14:=zS n.2.2,K:=K,x16:=zS s.1,x17:=zS s.2.1,x18:=zS s.2.2 }
def Mc(nm:List UInt8) (n:Z3) (o w:Int) (u:List UInt8):Evc:={ k:=4,nm:=nm,x19:=zS n.1,x20:=zS n.2.1,x21:=zS n.2.2,x22:=zS o,x23:=aw (hQ w),x24:=u }
def Md(nm:List UInt8) (t:Int×Int×Int×Int) (c:Z3):Evc:={ k:=5,nm:=nm,t1:=t.1,t2:=t.2.1,t3:=t.2.2.1,t4:=t.2.2.2,x29:=zS c.1,x30:=zS c.2.1,x31:=zS c.2.2 }
def FK(nm:List UInt8) (B U:List (List UInt8)) (S:List (List (List UInt8))):Evc:={ k:=1,nm:=nm,B:=B,U:=U,S:=S }
theorem yS(hB:c.B=[])(hU:c.U=[])(hS:c.S=[])(hK:c.K.length≤1000):c.Ok:=⟨by simp[hB],by simp[hU],by simp[hS],by simp[hS],hK⟩
theorem zb(N:Mem):afN N .kK []:=⟨[],rfl,.inl ⟨rfl,rfl,rfl⟩,fun i x L h=>by simp at h⟩
theorem AP(h:ev=c.cells .kK .kK .kK .kK)(hB:c.B=[])(hU:c.U=[])(hS:c.S=[])(hK:c.K=[]):afi N ev c:=
 ⟨_,_,_,_,h,.inl ⟨rfl,by simp[hB],by simp[hB,stC]⟩,.inl ⟨rfl,by simp[hU],by simp[hU,stC]⟩,by rw[hS];exact zb N,.inl ⟨rfl,by simp[hK],by simp[hK,kC]⟩⟩
variable{nm:List UInt8}{o o2:Bool}
theorem Fc{B U:List (List UInt8)}{S:List (List (List UInt8))}{b u:Nat}{sv:AV}(hB:0<B.length)(hU:0<U.length)(hb:N[b]? =some (.cells o 1 (stC B)))(hu:N[u]? =some (.cells o2 1 (stC U)))(hs:afN N sv S):
  afi N (bc nm (.slice b 0 B.length none) (.slice u 0 U.length none) sv) (FK nm B U S):=⟨_,_,_,.kK,rfl,.inr ⟨b,o,rfl,hB,hb⟩,.inr ⟨u,o2,rfl,hU,hu⟩,hs,.inl ⟨rfl,rfl,rfl⟩⟩
theorem RV{n s:Z3}{L:List P2}{b:Nat}(hL:0<L.length)(hb:N[b]? =some (.cells o 2 (pC L))):afi N (bO nm n (.slice b 0 L.length none) s) (JD nm n (kT L) s):=
 ⟨.kK,.kK,.kK,_,rfl,.inl ⟨rfl,rfl,rfl⟩,.inl ⟨rfl,rfl,rfl⟩,zb N,.inr ⟨b,o,by show AV.slice b 0 L.length none=.slice b 0 (kT L).length none;rw[fG],by show 0<(kT L).length;rw[fG];exact hL,by show N[b]? =some (.cells o 2 (kC (kT L)));rw[←MK];exact hb⟩⟩
variable{L1:List (List UInt8)}{o1:Bool}{r1:Nat}
theorem Xa{c:Nat}(hc:N[c]? =some (.cells o 1 [.slice r1 0 L1.length none]))(h1:N[r1]? =some (.cells o1 1 (stC L1)))(l1:0<L1.length):afN N (.slice c 0 1 none) [L1]:=
 ⟨_,rfl,.inr ⟨c,o,rfl,by simp,hc⟩,fun i x L hx hL=>by
  match i,hx,hL with
  |0,hx,hL=>simp at hx hL;subst hx hL;exact .inr ⟨r1,o1,rfl,l1,h1⟩
  |i+1,hx,hL=>simp at hx⟩
theorem Xb{c r2:Nat}{L2:List (List UInt8)}(hc:N[c]? =some (.cells o 1 [.slice r1 0 L1.length none,.slice r2 0 L2.length none]))(h1:N[r1]? =some (.cells o1 1 (stC L1)))(h2:N[r2]? =some (.cells o2 1 (stC L2)))(l1:0<L1.length)(l2:0<L2.length):afN N (.slice c 0 2 none) [L1,L2]:=
 ⟨_,rfl,.inr ⟨c,o,rfl,by simp,hc⟩,fun i x L hx hL=>by
  match i,hx,hL with
  |0,hx,hL=>simp at hx hL;subst hx hL;exact .inr ⟨r1,o1,rfl,l1,h1⟩
  |1,hx,hL=>simp at hx hL;subst hx hL;exact .inr ⟨r2,o2,rfl,l2,h2⟩
  |i+2,hx,hL=>simp at hx⟩
def hT(Z:List Int):List (List UInt8):=(qH Z).map aw
theorem dh(Z:List Int):(hT Z).length=Z.length:=by simp[hT,qH]
theorem wF(Z:List Int):jx Z=.cells true 1 (stC (hT Z)):=by rw[jx,xD];rfl
end Go.Proofs
