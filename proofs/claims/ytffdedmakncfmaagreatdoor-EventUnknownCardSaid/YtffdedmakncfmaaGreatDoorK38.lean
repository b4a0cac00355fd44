/- See K51. -/
import Derived.Test.YtffdedmakncfmaaGreatDoorK37
set_option linter.all false
namespace Go.Proofs
open Go.Eng
def xj(s:List UInt8):Nat→List (List UInt8)→Int
 |_,[]=> -1
 |i,x::l=>if s=x then (i:Int) else xj s (i+1) l
theorem J0{s:List UInt8}:∀{i:Nat} {l:List (List UInt8)},xj s i l<0↔s∉l
 |i,[]=>by simp[xj]
 |i,x::l=>by
  unfold xj
  by_cases h:s=x
  ·rw[if_pos h];simp[h]
  ·rw[if_neg h,J0];simp[h]
theorem NS{s:List UInt8}:∀{i:Nat} {l:List (List UInt8)},-1≤xj s i l
 |i,[]=>by unfold xj;omega
 |i,x::l=>by
  unfold xj
  split
  ·omega
  ·exact NS
set_option maxHeartbeats 1600000 in
theorem yh{O:Oracle}{K:Nat}(L:List (List UInt8)) (s:List UInt8) (hl:L.length≤1000000000) (hK:L.length<K) {b:Code}(hb:aj Tryz.f254=[b]):
  ∃F:Env→Bool→Env,∀env0 d,(ab env0 0=.slice 0 0 L.length none∧ab env0 1=.str s∧ab env0 7=.int .i64 L.length∧ab env0 8=.int .i64 0)→
   aU (aO Tryz.prog) (fun _=>[8]) O K 19 1 true (.loop b) ⟨env0,[.cells false 1 (stC L)],d⟩=some (if xj s 0 L<0 then .exit 0 else .ret,⟨F env0 d,[.cells false 1 (stC L)],d⟩)∧
    (¬xj s 0 L<0→ab (F env0 d) 4=.int .i64 (xj s 0 L)):=by
 refine bp rfl (fun env0=>ab env0 0=.slice 0 0 L.length none∧ab env0 1=.str s∧ab env0 7=.int .i64 L.length∧ab env0 8=.int .i64 0) (fun _ env' =>¬xj s 0 L<0→ab env' 4=.int .i64 (xj s 0 L)) ?_
 rintro env0 d ⟨h0,h1,h7,h8⟩
 simp[aj,aM,Tryz.f254] at hb
 have hn:az [8] (ad b) env0 ((8,.int .i64 ((0:Nat):Int))::env0)=az [8] (ad b) env0 env0:=by simp[az,h8]
 rw[←hn]
 have kl:(stC L).length=L.length:=jb L
 refine bK (α:=Nat) (fun n=>⟨az [8] (ad b) env0 ((8,.int .i64 (n:Int))::env0),[.cells false 1 (stC L)],d⟩) (fun n=>L.length-n) (fun n=>n≤L.length∧xj s 0 L=xj s n (L.drop n)) _ _ d _ (by split<;>simp) ?_ K 0 ⟨by omega,by rw[List.drop_zero]⟩ (by omega)
 rintro n ⟨hn1,he⟩
 clear hn
 subst hb
 by_cases hlt:n<L.length
 ·obtain⟨x,hx⟩:∃x,L[n]? =some x:=⟨L[n],List.getElem?_eq_getElem hlt⟩
  have k1:∀h,(stC L)[n]'h=.str x:=fun h=>by
   have:=Hy hx
   rw[List.getElem?_eq_getElem h] at this
   exact Option.some.inj this
  have hd:L.drop n=x::L.drop (n+1):=by
   rw[List.getElem?_eq_some_iff] at hx
   obtain⟨h1,h2⟩:=hx
   rw[←h2];exact List.drop_eq_getElem_cons h1
  rw[hd,xj] at he
  have w1:IntKind.i64.wrap ((n:Int)+1)=((n+1:Nat):Int):=by rw[ag (by omega) (by omega)];omega
  by_cases hs:s=x
  ·right
   rw[if_pos hs] at he
   subst hs
   have hng:¬(n:Int)<0:=by omega
   rw[he,if_neg hng]
   simp[h0,h1,h7,hlt,kl,k1]
  ·left
   rw[if_neg hs] at he
   have hb:(s==x)=false:=by simpa using hs
   refine⟨n+1,?_⟩
   refine bC (show(n+1≤L.length∧xj s 0 L=xj s (n+1) (L.drop (n+1)))∧L.length-(n+1)<L.length-n from⟨⟨by omega,he⟩,by omega⟩) ?_
   simp[h0,h1,h7,hlt,kl,k1,hb,w1]
 ·right
  have e:L.drop n=[]:=List.drop_of_length_le (by omega)
  rw[e,xj] at he
  rw[he,if_pos (by decide)]
  simp[h7,hlt]
theorem Dn(L:List (List UInt8)) (s:List UInt8) (hl:L.length≤1000000000):
  ACallsTo Tryz.prog 254 [.slice 0 0 L.length none,.str s] [.cells false 1 (stC L)] (.int .i64 (xj s 0 L)) [.cells false 1 (stC L)]:=by
 have hG:aN Tryz.prog 254=some Tryz.f254:=by kernel_rfl
 obtain⟨b,hb⟩:∃b,aj Tryz.f254=[b]:=⟨_,rfl⟩
 obtain⟨F,hF⟩:=yh (O:=bt) (K:=L.length+1) L s hl (by omega) hb
 simp[aj,aM,Tryz.f254] at hb
 subst hb
 have h:aa (aO Tryz.prog) (fun _=>[8]) (aN Tryz.prog) bt (L.length+1) 254 [.slice 0 0 L.length none,.str s] [.cells false 1 (stC L)]=some ⟨.int .i64 (xj s 0 L),none,[]⟩:=by
  by_cases hc:xj s 0 L<0
  ·rw[if_pos hc] at hF
   have hF1:=fun env0 d h=>(hF env0 d h).1
   clear hF
   have h1:xj s 0 L= -1:=by have:=NS (s:=s) (i:=0) (l:=L);omega
   rw[h1]
   simp[aa,hG,Tryz.f254,hF1]
  ·rw[if_neg hc] at hF
   have hF1:=fun env0 d h=>(hF env0 d h).1
   have hF2:=fun env0 d h=>(hF env0 d h).2 hc
   clear hF
   simp[aa,hG,Tryz.f254,hF1,hF2]
 have:=(af ae (aw _) (ak _) (ax _) h).1
 simpa [CallRes.mem] using this
theorem Ad(s:List UInt8) (M:Mem):ACallsTo Tryz.prog 254 [.nilslice,.str s] M (.int .i64 (-1)) M:=by
 have hG:aN Tryz.prog 254=some Tryz.f254:=by kernel_rfl
 refine aq (ak _) (lv:=fun _=>[8]) (K:=1) rfl rfl ?_ M
 simp[aa,hG,Tryz.f254,aZ,fA]
theorem Dm{M:Mem}{x:AV}{L:List (List UInt8)}(s:List UInt8) (hl:L.length≤1000000000) (hx:sts M x=some L):ACallsTo Tryz.prog 254 [x,.str s] M (.int .i64 (xj s 0 L)) M:=by
 rcases Qj hx with h | ⟨rfl,rfl⟩
 ·exact ACallsTo.rows1R (rest:=[.str s]) (eg L) rfl rfl (Dn L s hl) h
 ·exact Ad s M
noncomputable def xt:Oracle:=fun c args M=>match c,args with
 |.fn 254,[x,.str s]=>match sts M x with
  |some L=>if L.length≤1000000000 then some ⟨.int .i64 (xj s 0 L),none,[]⟩ else none
  |none=>none
 |c,args=>bt c args M
theorem Lf:OracleOk Tryz.prog xt:=by
 refine ca fun c args M r h=>?_
 unfold xt at h
 split at h
 ·split at h
  ·rename_i L hL
   split at h
   ·rename_i hc
    cases h
    refine ah ?_
    rw[List.append_nil]
    exact Dm _ hc hL
   ·cases h
  ·cases h
 ·exact dJ (ak _) h
theorem xN{M:Mem}{x:AV}{L:List (List UInt8)}(s:List UInt8) (hl:L.length≤1000000000) (hx:sts M x=some L):ACallsTo Tryz.prog 222 [x,.str s] M (.bool (decide (s∈L))) M:=by
 have hG:aN Tryz.prog 222=some Tryz.f222:=by kernel_rfl
 have hi:decide (0≤xj s 0 L)=decide (s∈L):=by
  rw[decide_eq_decide]
  have:=J0 (s:=s) (i:=0) (l:=L)
  by_cases h:s∈L
  ·simp only[h,iff_true]
   exact Int.not_lt.1 fun e=>this.1 e h
  ·simp only[h,iff_false]
   have:=this.2 h;omega
 have h:aa (aO Tryz.prog) (fun _=>[]) (aN Tryz.prog) xt 1 222 [x,.str s] M=some ⟨.bool (decide (s∈L)),none,[]⟩:=by
  rw[←hi]
  simp[aa,hG,Tryz.f222,xt,hx,hl]
 have:=(af ae (aw _) Lf (ax _) h).1
 simpa [CallRes.mem] using this
end Go.Proofs
namespace Go.Proofs
open Go.Eng
open Classical in
noncomputable def xf(L:List (FuncId×List AV×AV)) (p:Mem→Prop):Oracle:=fun c a M=>if p M then ai (cG L) c a M else none
theorem CF{P:Program}{L:List (FuncId×List AV×AV)}{p:Mem→Prop}(h:∀x∈L,∀M,p M→ACallsTo P x.1 x.2.1 M x.2.2 M):OracleOk P (xf L p):=by
 have k:∀f a v,cG L f a=some v→∃x∈L,f=x.1∧a=x.2.1∧v=x.2.2:=by
  clear h
  intro f a v hv
  induction L with
  |nil=>simp[cG] at hv
  |cons x L ih=>
   rw[cG] at hv
   split at hv
   ·rename_i hc
    cases hv
    exact⟨x,by simp,hc.1,hc.2,rfl⟩
   ·obtain⟨y,hy,h1⟩:=ih hv
    exact⟨y,by simp[hy],h1⟩
 have k2:∀c a M r,xf L p c a M=some r→p M∧∃f,c=.fn f∧∃x∈L,f=x.1∧a=x.2.1∧r=⟨x.2.2,none,[]⟩:=by
  intro c a M r hr
  unfold xf at hr
  split at hr
  ·rename_i hp
   refine⟨hp,?_⟩
   unfold ai at hr
   split at hr
   ·rename_i f
    split at hr
    ·rename_i v hv
     cases hr
     obtain⟨x,hx,h1,h2,h3⟩:=k _ _ _ hv
     exact⟨f,rfl,x,hx,h1,h2,by rw[h3]⟩
    ·cases hr
   ·cases hr
  ·cases hr
 refine⟨fun f a M r hr=>?_,fun b a M r hr=>?_,fun c a M r q hr hq=>?_⟩
 ·obtain⟨hp,g,hg,x,hx,h1,rfl,rfl⟩:=k2 _ _ _ _ hr
  cases hg
  subst h1
  simpa [CallRes.mem] using h x hx M hp
 ·obtain⟨_,g,hg,_⟩:=k2 _ _ _ _ hr
  cases hg
 ·obtain⟨_,g,_,x,_,_,_,rfl⟩:=k2 _ _ _ _ hr
  cases hq
def iU(c:Code):List Nat:=if (ad c).contains 35 then [35] else [10,65]
theorem dV(M:Mem) (u k:Nat) (o:Bool) (U:List (List UInt8)) (s:List UInt8) (hu:M[u]? =some (.cells o 1 (stC U))) (hk:k≤U.length) (hl:U.length≤3) (hs:s∉U.take k):
  ACallsTo Tryz.prog 222 [.slice u 0 k none,.str s] M (.bool false) M:=by
 have h:sts M (.slice u 0 k none)=some (U.take k):=by
  have h1:(stC U).take (k*1)=stC (U.take k):=by simp[stC,List.map_take]
  unfold sts
  rw[Nr hu (by rw[jb];omega) h1]
  exact OC _
 have:=xN (M:=M) s (by rw[List.length_take];omega) h
 rwa [decide_eq_false hs] at this
set_option maxHeartbeats 4000000 in
theorem Dg(s:Sheet) (nm:List UInt8) (u0:List UInt8) (n0:u0∈iI)  (Z:List Int) (hZ:∀z∈Z,z.natAbs<1000) (hl:Z.length≤1000) (hn:Z.length=s.P.length) (m:Mem) (b u:Nat) (o1 o2 o3 o4:Bool)
  (hp:m[0]? =some (.cells o1 2 (pC s.P))) (hq:m[1]? =some (.cells o2 3 (tC s.T))) (hb:m[b]? =some (.cells o3 1 (qC (qH Z)))) (hu:m[u]? =some (.cells o4 1 (stC [u0]))):
  ACallsTo Tryz.prog 159 [shA s,.agg (xg nm (.slice b 0 Z.length none) (.slice u 0 1 none) (.nilslice))] m (.int .i64 0) m:=by
 have hG:aN Tryz.prog 159=some Tryz.f159:=by kernel_rfl
 have lp:=(List.getElem?_eq_some_iff.1 hp).1
 have lq:=(List.getElem?_eq_some_iff.1 hq).1
 have lb:=(List.getElem?_eq_some_iff.1 hb).1
 have lu:=(List.getElem?_eq_some_iff.1 hu).1
 have ep:=fun ext:Mem=>(List.getElem?_append_left (l₂:=ext) lp).trans hp
 have eq:=fun ext:Mem=>(List.getElem?_append_left (l₂:=ext) lq).trans hq
 have eb:=fun ext:Mem=>(List.getElem?_append_left (l₂:=ext) lb).trans hb
 have eu:=fun ext:Mem=>(List.getElem?_append_left (l₂:=ext) lu).trans hu
 have hO1:OracleOk Tryz.prog (ai (cG [(132,[.str u0],.int .i64 0)])):=dL fun e he M=>by
  simp only[List.mem_cons,List.not_mem_nil,or_false] at he
  rcases he with rfl
  exact eW _ n0 M
 have hO2:OracleOk Tryz.prog (xf [(221,[shA s,.slice b 0 Z.length none],.int .i64 0),(222,[.slice u 0 0 none,.str u0],.bool false)] (fun M=>∃ext,M=m++ext)):=CF fun e he M hM=>by
  obtain⟨ext,rfl⟩:=hM
  simp only[List.mem_cons,List.not_mem_nil,or_false] at he
  rcases he with rfl | rfl
  ·exact mZ s Z hZ hl hn _ b o1 o2 o3 (ep ext) (eq ext) (eb ext)
  ·exact dV _ u 0 o4 [u0] u0 (eu ext) (by simp) (by simp) (by simp)
 have hO:=OracleOk.or' hO1 hO2
 have w0:IntKind.i64.wrap 0=0:=rfl
 have w1:IntKind.i64.wrap 1=1:=rfl
 have w2:IntKind.i64.wrap 2=2:=rfl
 have w3:IntKind.i64.wrap 3=3:=rfl
 clear hO1 hO2
 have h:aa (aO Tryz.prog) iU (aN Tryz.prog) (Oracle.or (ai (cG [(132,[.str u0],.int .i64 0)])) (xf [(221,[shA s,.slice b 0 Z.length none],.int .i64 0),(222,[.slice u 0 0 none,.str u0],.bool false)] (fun M=>∃ext,M=m++ext))) 5 159 [shA s,.agg (xg nm (.slice b 0 Z.length none) (.slice u 0 1 none) (.nilslice))] m=some ⟨.int .i64 0,none,[]⟩:=by
  clear hO
  obtain⟨N,hN⟩:∃N,N=Z.length:=⟨_,rfl⟩
  simp only[←hN] at hb ⊢
  simp[aa,hG,Tryz.f159,Oracle.or,ai,cG,xf,shA,xg,aZ,fA,iU,stC,eu,w0,w1]
 have:=(af ae (aw _) hO (ax _) h).1
 simpa [CallRes.mem] using this
set_option maxHeartbeats 4000000 in
theorem Dh(s:Sheet) (nm:List UInt8) (u0 u1:List UInt8) (n0:u0∈iI) (n1:u1∈iI) (d01:u1≠u0) (Z:List Int) (hZ:∀z∈Z,z.natAbs<1000) (hl:Z.length≤1000) (hn:Z.length=s.P.length) (Y1:List Int) (hY1:∀z∈Y1,z.natAbs<1000) (hl1:Y1.length=s.P.length) (hle1:∀(i:Nat) z y,Z[i]? =some z→Y1[i]? =some y→z≤y) (m:Mem) (b u c r1:Nat) (o1 o2 o3 o4 o5 q1:Bool)
  (hp:m[0]? =some (.cells o1 2 (pC s.P))) (hq:m[1]? =some (.cells o2 3 (tC s.T))) (hb:m[b]? =some (.cells o3 1 (qC (qH Z)))) (hu:m[u]? =some (.cells o4 1 (stC [u0,u1]))) (hc:m[c]? =some (.cells o5 1 [.slice r1 0 Z.length none])) (hr1:m[r1]? =some (.cells q1 1 (qC (qH Y1)))):
  ACallsTo Tryz.prog 159 [shA s,.agg (xg nm (.slice b 0 Z.length none) (.slice u 0 2 none) (.slice c 0 1 none))] m (.int .i64 0) m:=by
 have hG:aN Tryz.prog 159=some Tryz.f159:=by kernel_rfl
 have lp:=(List.getElem?_eq_some_iff.1 hp).1
 have lq:=(List.getElem?_eq_some_iff.1 hq).1
 have lb:=(List.getElem?_eq_some_iff.1 hb).1
 have lu:=(List.getElem?_eq_some_iff.1 hu).1
 have lc:=(List.getElem?_eq_some_iff.1 hc).1
 have lr1:=(List.getElem?_eq_some_iff.1 hr1).1
 have ep:=fun ext:Mem=>(List.getElem?_append_left (l₂:=ext) lp).trans hp
 have eq:=fun ext:Mem=>(List.getElem?_append_left (l₂:=ext) lq).trans hq
 have eb:=fun ext:Mem=>(List.getElem?_append_left (l₂:=ext) lb).trans hb
 have eu:=fun ext:Mem=>(List.getElem?_append_left (l₂:=ext) lu).trans hu
 have ec:=fun ext:Mem=>(List.getElem?_append_left (l₂:=ext) lc).trans hc
 have er1:=fun ext:Mem=>(List.getElem?_append_left (l₂:=ext) lr1).trans hr1
 have hO1:OracleOk Tryz.prog (ai (cG [(132,[.str u0],.int .i64 0),(132,[.str u1],.int .i64 0)])):=dL fun e he M=>by
  simp only[List.mem_cons,List.not_mem_nil,or_false] at he
  rcases he with rfl | rfl
  ·exact eW _ n0 M
  ·exact eW _ n1 M
 have hO2:OracleOk Tryz.prog (xf [(221,[shA s,.slice b 0 Z.length none],.int .i64 0),(222,[.slice u 0 0 none,.str u0],.bool false),(222,[.slice u 0 1 none,.str u1],.bool false),(223,[shA s,.slice b 0 Z.length none,.slice r1 0 Z.length none],.tuple [.bool true,.int .i64 0])] (fun M=>∃ext,M=m++ext)):=CF fun e he M hM=>by
  obtain⟨ext,rfl⟩:=hM
  simp only[List.mem_cons,List.not_mem_nil,or_false] at he
  rcases he with rfl | rfl | rfl | rfl
  ·exact mZ s Z hZ hl hn _ b o1 o2 o3 (ep ext) (eq ext) (eb ext)
  ·exact dV _ u 0 o4 [u0,u1] u0 (eu ext) (by simp) (by simp) (by simp)
  ·exact dV _ u 1 o4 [u0,u1] u1 (eu ext) (by simp) (by simp) (by simp[d01])
  ·have:=mY s Z Y1 hZ hY1 (by omega) hn hl1 hle1 (m++ext) b r1 o1 o2 o3 q1 (ep ext) (eq ext) (eb ext) (er1 ext)
   rw[show Y1.length=Z.length by omega] at this
   exact this
 have hO:=OracleOk.or' hO1 hO2
 have w0:IntKind.i64.wrap 0=0:=rfl
 have w1:IntKind.i64.wrap 1=1:=rfl
 have w2:IntKind.i64.wrap 2=2:=rfl
 have w3:IntKind.i64.wrap 3=3:=rfl
 clear hO1 hO2
 have h:aa (aO Tryz.prog) iU (aN Tryz.prog) (Oracle.or (ai (cG [(132,[.str u0],.int .i64 0),(132,[.str u1],.int .i64 0)])) (xf [(221,[shA s,.slice b 0 Z.length none],.int .i64 0),(222,[.slice u 0 0 none,.str u0],.bool false),(222,[.slice u 0 1 none,.str u1],.bool false),(223,[shA s,.slice b 0 Z.length none,.slice r1 0 Z.length none],.tuple [.bool true,.int .i64 0])] (fun M=>∃ext,M=m++ext))) 5 159 [shA s,.agg (xg nm (.slice b 0 Z.length none) (.slice u 0 2 none) (.slice c 0 1 none))] m=some ⟨.int .i64 0,none,[]⟩:=by
  clear hO
  obtain⟨N,hN⟩:∃N,N=Z.length:=⟨_,rfl⟩
  simp only[←hN] at ec ⊢
  simp[aa,hG,Tryz.f159,Oracle.or,ai,cG,xf,shA,xg,aZ,fA,iU,stC,eu,ec,w1,w2]
 have:=(af ae (aw _) hO (ax _) h).1
 simpa [CallRes.mem] using this
set_option maxHeartbeats 4000000 in
theorem Di(s:Sheet) (nm:List UInt8) (u0 u1 u2:List UInt8) (n0:u0∈iI) (n1:u1∈iI) (n2:u2∈iI) (d01:u1≠u0) (d02:u2≠u0) (d12:u2≠u1) (Z:List Int) (hZ:∀z∈Z,z.natAbs<1000) (hl:Z.length≤1000) (hn:Z.length=s.P.length) (Y1 Y2:List Int) (hY1:∀z∈Y1,z.natAbs<1000) (hl1:Y1.length=s.P.length) (hle1:∀(i:Nat) z y,Z[i]? =some z→Y1[i]? =some y→z≤y) (hY2:∀z∈Y2,z.natAbs<1000) (hl2:Y2.length=s.P.length) (hle2:∀(i:Nat) z y,Y1[i]? =some z→Y2[i]? =some y→z≤y) (m:Mem) (b u c r1 r2:Nat) (o1 o2 o3 o4 o5 q1 q2:Bool)
  (hp:m[0]? =some (.cells o1 2 (pC s.P))) (hq:m[1]? =some (.cells o2 3 (tC s.T))) (hb:m[b]? =some (.cells o3 1 (qC (qH Z)))) (hu:m[u]? =some (.cells o4 1 (stC [u0,u1,u2]))) (hc:m[c]? =some (.cells o5 1 [.slice r1 0 Z.length none,.slice r2 0 Z.length none])) (hr1:m[r1]? =some (.cells q1 1 (qC (qH Y1)))) (hr2:m[r2]? =some (.cells q2 1 (qC (qH Y2)))):
  ACallsTo Tryz.prog 159 [shA s,.agg (xg nm (.slice b 0 Z.length none) (.slice u 0 3 none) (.slice c 0 2 none))] m (.int .i64 0) m:=by
 have hG:aN Tryz.prog 159=some Tryz.f159:=by kernel_rfl
 have lp:=(List.getElem?_eq_some_iff.1 hp).1
 have lq:=(List.getElem?_eq_some_iff.1 hq).1
 have lb:=(List.getElem?_eq_some_iff.1 hb).1
 have lu:=(List.getElem?_eq_some_iff.1 hu).1
 have lc:=(List.getElem?_eq_some_iff.1 hc).1
 have lr1:=(List.getElem?_eq_some_iff.1 hr1).1
 have lr2:=(List.getElem?_eq_some_iff.1 hr2).1
 have ep:=fun ext:Mem=>(List.getElem?_append_left (l₂:=ext) lp).trans hp
 have eq:=fun ext:Mem=>(List.getElem?_append_left (l₂:=ext) lq).trans hq
 have eb:=fun ext:Mem=>(List.getElem?_append_left (l₂:=ext) lb).trans hb
 have eu:=fun ext:Mem=>(List.getElem?_append_left (l₂:=ext) lu).trans hu
 have ec:=fun ext:Mem=>(List.getElem?_append_left (l₂:=ext) lc).trans hc
 have er1:=fun ext:Mem=>(List.getElem?_append_left (l₂:=ext) lr1).trans hr1
 have er2:=fun ext:Mem=>(List.getElem?_append_left (l₂:=ext) lr2).trans hr2
 have hO1:OracleOk Tryz.prog (ai (cG [(132,[.str u0],.int .i64 0),(132,[.str u1],.int .i64 0),(132,[.str u2],.int .i64 0)])):=dL fun e he M=>by
  simp only[List.mem_cons,List.not_mem_nil,or_false] at he
  rcases he with rfl | rfl | rfl
  ·exact eW _ n0 M
  ·exact eW _ n1 M
  ·exact eW _ n2 M
 have hO2:OracleOk Tryz.prog (xf [(221,[shA s,.slice b 0 Z.length none],.int .i64 0),(222,[.slice u 0 0 none,.str u0],.bool false),(222,[.slice u 0 1 none,.str u1],.bool false),(222,[.slice u 0 2 none,.str u2],.bool false),(223,[shA s,.slice b 0 Z.length none,.slice r1 0 Z.length none],.tuple [.bool true,.int .i64 0]),(223,[shA s,.slice r1 0 Z.length none,.slice r2 0 Z.length none],.tuple [.bool true,.int .i64 0])] (fun M=>∃ext,M=m++ext)):=CF fun e he M hM=>by
  obtain⟨ext,rfl⟩:=hM
  simp only[List.mem_cons,List.not_mem_nil,or_false] at he
  rcases he with rfl | rfl | rfl | rfl | rfl | rfl
  ·exact mZ s Z hZ hl hn _ b o1 o2 o3 (ep ext) (eq ext) (eb ext)
  ·exact dV _ u 0 o4 [u0,u1,u2] u0 (eu ext) (by simp) (by simp) (by simp)
  ·exact dV _ u 1 o4 [u0,u1,u2] u1 (eu ext) (by simp) (by simp) (by simp[d01])
  ·exact dV _ u 2 o4 [u0,u1,u2] u2 (eu ext) (by simp) (by simp) (by simp[d02,d12])
  ·have:=mY s Z Y1 hZ hY1 (by omega) hn hl1 hle1 (m++ext) b r1 o1 o2 o3 q1 (ep ext) (eq ext) (eb ext) (er1 ext)
   rw[show Y1.length=Z.length by omega] at this
   exact this
  ·have:=mY s Y1 Y2 hY1 hY2 (by omega) hl1 hl2 hle2 (m++ext) r1 r2 o1 o2 q1 q2 (ep ext) (eq ext) (er1 ext) (er2 ext)
   rw[show Y2.length=Z.length by omega,show Y1.length=Z.length by omega] at this
   exact this
 have hO:=OracleOk.or' hO1 hO2
 have w0:IntKind.i64.wrap 0=0:=rfl
 have w1:IntKind.i64.wrap 1=1:=rfl
 have w2:IntKind.i64.wrap 2=2:=rfl
 have w3:IntKind.i64.wrap 3=3:=rfl
 clear hO1 hO2
 have h:aa (aO Tryz.prog) iU (aN Tryz.prog) (Oracle.or (ai (cG [(132,[.str u0],.int .i64 0),(132,[.str u1],.int .i64 0),(132,[.str u2],.int .i64 0)])) (xf [(221,[shA s,.slice b 0 Z.length none],.int .i64 0),(222,[.slice u 0 0 none,.str u0],.bool false),(222,[.slice u 0 1 none,.str u1],.bool false),(222,[.slice u 0 2 none,.str u2],.bool false),(223,[shA s,.slice b 0 Z.length none,.slice r1 0 Z.length none],.tuple [.bool true,.int .i64 0]),(223,[shA s,.slice r1 0 Z.length none,.slice r2 0 Z.length none],.tuple [.bool true,.int .i64 0])] (fun M=>∃ext,M=m++ext))) 5 159 [shA s,.agg (xg nm (.slice b 0 Z.length none) (.slice u 0 3 none) (.slice c 0 2 none))] m=some ⟨.int .i64 0,none,[]⟩:=by
  clear hO
  obtain⟨N,hN⟩:∃N,N=Z.length:=⟨_,rfl⟩
  simp only[←hN] at ec ⊢
  simp[aa,hG,Tryz.f159,Oracle.or,ai,cG,xf,shA,xg,aZ,fA,iU,stC,eu,ec,w1,w2,w3]
 have:=(af ae (aw _) hO (ax _) h).1
 simpa [CallRes.mem] using this
theorem Hy{L:List (List UInt8)}{i:Nat}{s:List UInt8}(h:L[i]? =some s):(stC L)[i]? =some (.str s):=by simp[stC,h]
theorem RU(Q:List Rat):qC Q=stC (Q.map aB):=by simp[qC,stC]
def RowAt(N:Mem) (v:AV) (es n:Nat) (C:List AV):Prop:=(v=.nilslice∧n=0∧C=[])∨∃b o,v=.slice b 0 n none∧0<n∧N[b]? =some (.cells o es C)
theorem RowAt.more{N:Mem}{v:AV}{es n:Nat}{C:List AV}(h:RowAt N v es n C) (Z:Mem):RowAt (N++Z) v es n C:=by
 rcases h with h | ⟨b,o,h1,h2,h3⟩
 ·exact .inl h
 ·exact .inr ⟨b,o,h1,h2,by rw[List.getElem?_append_left (List.getElem?_eq_some_iff.1 h3).1];exact h3⟩
theorem jq:∀l:List (List UInt8×List UInt8),AV.closeds (kC l)=true
 | []=>rfl
 |k::l=>by simp[kC,AV.closeds,AV.closed,jq l]
set_option maxHeartbeats 1600000 in
theorem F9{K:Nat}(L:List (List UInt8)) (hl:L.length≤1000) (hK:L.length<K) {b:Code}(hb:aj Tryz.f240=[b]):
  ∃F:Env→Bool→Env,∀env0 d,(ab env0 0=.slice 0 0 L.length none∧ab env0 1=.slice 1 0 L.length none∧ab env0 12=.int .i64 L.length∧ab env0 13=.int .i64 0)→
   aU (aO Tryz.prog) (fun _=>[13]) bt K 26 2 true (.loop b) ⟨env0,[.cells false 1 (stC L),.cells false 1 (stC L)],d⟩=some (.exit 0,⟨F env0 d,[.cells false 1 (stC L),.cells false 1 (stC L)],d⟩)∧True:=by
 refine bp (L:=[13]) rfl (fun env0=>ab env0 0=.slice 0 0 L.length none∧ab env0 1=.slice 1 0 L.length none∧ab env0 12=.int .i64 L.length∧ab env0 13=.int .i64 0) (fun _ _=>True) ?_
 rintro env0 d ⟨h0,h1,h12,h13⟩
 obtain⟨os,hops⟩:∃os,aV Tryz.f240=os:=⟨_,rfl⟩
 have hbs:=cK hops (ls:=[[0,0,3,7,0,0,48,112,255]]) (by kernel_rfl)
 simp only[aV,cc,Tryz.f240,List.nil_append,List.append_nil] at hops
 subst hops
 simp only[List.map_cons,List.map_nil,List.cons.injEq,and_true] at hbs
 have a0:cU [0,0,3,7,0,0,48,112,255] 8=true:=by decide
 have e:=fun d=>iV d
 simp[aj,aM,Tryz.f240] at hb
 have hn0:az [13] (ad b) env0 ((13,.int .i64 ((0:Nat):Int))::env0)=az [13] (ad b) env0 env0:=by simp[az,h13]
 rw[←hn0]
 refine bK (α:=Nat) (fun n=>⟨az [13] (ad b) env0 ((13,.int .i64 (n:Int))::env0),[.cells false 1 (stC L),.cells false 1 (stC L)],d⟩) (fun n=>L.length-n) (fun n=>n≤L.length) (.exit 0) _ d _ (by simp) ?_ K 0 (by omega) (by omega)
 rintro n hn1
 clear hn0
 subst hb
 by_cases hlt:n<L.length
 ·obtain⟨z,hz⟩:∃z,L[n]? =some z:=⟨L[n],List.getElem?_eq_getElem hlt⟩
  have k1:=Hy hz
  have k2:=jb L
  have w1:IntKind.i64.wrap ((n:Int)+1)=((n+1:Nat):Int):=by rw[ag (by omega) (by omega)];omega
  have k3:n*1+1≤(stC L).length:=by omega
  clear k2
  left
  obtain⟨v,hv⟩:∃v,v=n+1:=⟨_,rfl⟩
  rw[←hv] at w1
  refine⟨v,?_⟩
  simp[-aQ,aA hbs,bN,bF,bL,a0,h0,h1,h12,hlt,k1,w1]
  omega
 ·right
  simp[h12,hlt]
theorem OU(L:List (List UInt8)) (hl:L.length≤1000):
  ACallsTo Tryz.prog 240 [.slice 0 0 L.length none,.slice 1 0 L.length none] [.cells false 1 (stC L),.cells false 1 (stC L)] (.bool true) [.cells false 1 (stC L),.cells false 1 (stC L)]:=by
 have hG:aN Tryz.prog 240=some Tryz.f240:=by kernel_rfl
 obtain⟨b,hb⟩:∃b,aj Tryz.f240=[b]:=⟨_,rfl⟩
 obtain⟨F,hF⟩:=F9 (K:=L.length+1) L hl (by omega) hb
 have hF1:=fun env0 d h1 h2 h3 h4=>(hF env0 d ⟨h1,h2,h3,h4⟩).1
 clear hF
 simp[aj,aM,Tryz.f240] at hb
 subst hb
 have h:aa (aO Tryz.prog) (fun _=>[13]) (aN Tryz.prog) bt (L.length+1) 240 [.slice 0 0 L.length none,.slice 1 0 L.length none] [.cells false 1 (stC L),.cells false 1 (stC L)]=some ⟨.bool true,none,[]⟩:=by
  simp[aa,hG,Tryz.f240,hF1]
 have:=(af ae (aw _) (ak _) (ax _) h).1
 simpa [CallRes.mem] using this
theorem OV(M:Mem):ACallsTo Tryz.prog 240 [.nilslice,.nilslice] M (.bool true) M:=by
 have hG:aN Tryz.prog 240=some Tryz.f240:=by kernel_rfl
 refine aq (ak _) (lv:=fun _=>[13]) (K:=3) rfl rfl ?_ M
 simp[aa,hG,Tryz.f240,aZ,fA]
theorem QH{M:Mem}{x y:AV}{L:List (List UInt8)}(hl:L.length≤1000) (hx:RowAt M x 1 L.length (stC L)) (hy:RowAt M y 1 L.length (stC L)):ACallsTo Tryz.prog 240 [x,y] M (.bool true) M:=by
 rcases hx with⟨rfl,h1,_⟩ | ⟨b,o,rfl,hp,hb⟩
 ·rcases hy with⟨rfl,_,_⟩ | ⟨b',o',_,hp',_⟩
  ·exact OV M
  ·omega
 ·rcases hy with⟨_,h1,_⟩ | ⟨b',o',rfl,_,hb'⟩
  ·omega
  ·exact ACallsTo.rows2R (rest:=[]) (eg L) (eg L) rfl rfl (OU L hl) ⟨b,o,_,rfl,hb,List.take_length⟩ ⟨b',o',_,rfl,hb',List.take_length⟩
set_option maxHeartbeats 1600000 in
theorem Ga{K:Nat}(L:List (List UInt8×List UInt8)) (hl:L.length≤1000) (hK:L.length<K) {b:Code}(hb:aj Tryz.f200=[b]):
  ∃F:Env→Bool→Env,∀env0 d,(ab env0 0=.slice 0 0 L.length none∧ab env0 1=.slice 1 0 L.length none∧ab env0 12=.int .i64 L.length∧ab env0 13=.int .i64 0)→
   aU (aO Tryz.prog) (fun _=>[13]) bt K 26 2 true (.loop b) ⟨env0,[.cells false 2 (kC L),.cells false 2 (kC L)],d⟩=some (.exit 0,⟨F env0 d,[.cells false 2 (kC L),.cells false 2 (kC L)],d⟩)∧True:=by
 refine bp (L:=[13]) rfl (fun env0=>ab env0 0=.slice 0 0 L.length none∧ab env0 1=.slice 1 0 L.length none∧ab env0 12=.int .i64 L.length∧ab env0 13=.int .i64 0) (fun _ _=>True) ?_
 rintro env0 d ⟨h0,h1,h12,h13⟩
 obtain⟨os,hops⟩:∃os,aV Tryz.f200=os:=⟨_,rfl⟩
 have hbs:=cK hops (ls:=[[0,0,3,7,0,0,48,112,255]]) (by kernel_rfl)
 simp only[aV,cc,Tryz.f200,List.nil_append,List.append_nil] at hops
 subst hops
 simp only[List.map_cons,List.map_nil,List.cons.injEq,and_true] at hbs
 have a0:cU [0,0,3,7,0,0,48,112,255] 8=true:=by decide
 have e:=fun d=>Ig d
 simp[aj,aM,Tryz.f200] at hb
 have hn0:az [13] (ad b) env0 ((13,.int .i64 ((0:Nat):Int))::env0)=az [13] (ad b) env0 env0:=by simp[az,h13]
 rw[←hn0]
 refine bK (α:=Nat) (fun n=>⟨az [13] (ad b) env0 ((13,.int .i64 (n:Int))::env0),[.cells false 2 (kC L),.cells false 2 (kC L)],d⟩) (fun n=>L.length-n) (fun n=>n≤L.length) (.exit 0) _ d _ (by simp) ?_ K 0 (by omega) (by omega)
 rintro n hn1
 clear hn0
 subst hb
 by_cases hlt:n<L.length
 ·obtain⟨z,hz⟩:∃z,L[n]? =some z:=⟨L[n],List.getElem?_eq_getElem hlt⟩
  have k1:=(Md hz).1
  have k2:=sU L
  have w1:IntKind.i64.wrap ((n:Int)+1)=((n+1:Nat):Int):=by rw[ag (by omega) (by omega)];omega
  have k3:n*2+2≤(kC L).length:=by omega
  clear k2
  left
  obtain⟨v,hv⟩:∃v,v=n+1:=⟨_,rfl⟩
  rw[←hv] at w1
  refine⟨v,?_⟩
  simp[-aQ,aA hbs,bN,bF,bL,a0,h0,h1,h12,hlt,k1,k3,w1,e]
  omega
 ·right
  simp[h12,hlt]
theorem OX(L:List (List UInt8×List UInt8)) (hl:L.length≤1000):
  ACallsTo Tryz.prog 200 [.slice 0 0 L.length none,.slice 1 0 L.length none] [.cells false 2 (kC L),.cells false 2 (kC L)] (.bool true) [.cells false 2 (kC L),.cells false 2 (kC L)]:=by
 have hG:aN Tryz.prog 200=some Tryz.f200:=by kernel_rfl
 obtain⟨b,hb⟩:∃b,aj Tryz.f200=[b]:=⟨_,rfl⟩
 obtain⟨F,hF⟩:=Ga (K:=L.length+1) L hl (by omega) hb
 have hF1:=fun env0 d h1 h2 h3 h4=>(hF env0 d ⟨h1,h2,h3,h4⟩).1
 clear hF
 simp[aj,aM,Tryz.f200] at hb
 subst hb
 have h:aa (aO Tryz.prog) (fun _=>[13]) (aN Tryz.prog) bt (L.length+1) 200 [.slice 0 0 L.length none,.slice 1 0 L.length none] [.cells false 2 (kC L),.cells false 2 (kC L)]=some ⟨.bool true,none,[]⟩:=by
  simp[aa,hG,Tryz.f200,hF1]
 have:=(af ae (aw _) (ak _) (ax _) h).1
 simpa [CallRes.mem] using this
theorem OY(M:Mem):ACallsTo Tryz.prog 200 [.nilslice,.nilslice] M (.bool true) M:=by
 have hG:aN Tryz.prog 200=some Tryz.f200:=by kernel_rfl
 refine aq (ak _) (lv:=fun _=>[13]) (K:=3) rfl rfl ?_ M
 simp[aa,hG,Tryz.f200,aZ,fA]
theorem QI{M:Mem}{x y:AV}{L:List (List UInt8×List UInt8)}(hl:L.length≤1000) (hx:RowAt M x 2 L.length (kC L)) (hy:RowAt M y 2 L.length (kC L)):ACallsTo Tryz.prog 200 [x,y] M (.bool true) M:=by
 rcases hx with⟨rfl,h1,_⟩ | ⟨b,o,rfl,hp,hb⟩
 ·rcases hy with⟨rfl,_,_⟩ | ⟨b',o',_,hp',_⟩
  ·exact OY M
  ·omega
 ·rcases hy with⟨_,h1,_⟩ | ⟨b',o',rfl,_,hb'⟩
  ·omega
  ·exact ACallsTo.rows2R (rest:=[]) (jq L) (jq L) rfl rfl (OX L hl) ⟨b,o,_,rfl,hb,List.take_length⟩ ⟨b',o',_,rfl,hb',List.take_length⟩
set_option maxHeartbeats 1600000 in
theorem Gb{K:Nat}(L:List (List UInt8)) (hl:L.length≤1000) (hK:L.length<K) {b:Code}(hb:aj Tryz.f198=[b]):
  ∃F:Env→Bool→Env,∀env0 d,(ab env0 0=.slice 0 0 L.length none∧ab env0 1=.slice 1 0 L.length none∧ab env0 12=.int .i64 L.length∧ab env0 13=.int .i64 0)→
   aU (aO Tryz.prog) (fun _=>[13]) bt K 26 2 true (.loop b) ⟨env0,[.cells false 1 (stC L),.cells false 1 (stC L)],d⟩=some (.exit 0,⟨F env0 d,[.cells false 1 (stC L),.cells false 1 (stC L)],d⟩)∧True:=by
 refine bp (L:=[13]) rfl (fun env0=>ab env0 0=.slice 0 0 L.length none∧ab env0 1=.slice 1 0 L.length none∧ab env0 12=.int .i64 L.length∧ab env0 13=.int .i64 0) (fun _ _=>True) ?_
 rintro env0 d ⟨h0,h1,h12,h13⟩
 obtain⟨os,hops⟩:∃os,aV Tryz.f198=os:=⟨_,rfl⟩
 have hbs:=cK hops (ls:=[[0,0,3,7,0,0,48,112,255]]) (by kernel_rfl)
 simp only[aV,cc,Tryz.f198,List.nil_append,List.append_nil] at hops
 subst hops
 simp only[List.map_cons,List.map_nil,List.cons.injEq,and_true] at hbs
 have a0:cU [0,0,3,7,0,0,48,112,255] 8=true:=by decide
 have e:=fun d x y=>yf d x y
 simp[aj,aM,Tryz.f198] at hb
 have hn0:az [13] (ad b) env0 ((13,.int .i64 ((0:Nat):Int))::env0)=az [13] (ad b) env0 env0:=by simp[az,h13]
 rw[←hn0]
 refine bK (α:=Nat) (fun n=>⟨az [13] (ad b) env0 ((13,.int .i64 (n:Int))::env0),[.cells false 1 (stC L),.cells false 1 (stC L)],d⟩) (fun n=>L.length-n) (fun n=>n≤L.length) (.exit 0) _ d _ (by simp) ?_ K 0 (by omega) (by omega)
 rintro n hn1
 clear hn0
 subst hb
 by_cases hlt:n<L.length
 ·obtain⟨z,hz⟩:∃z,L[n]? =some z:=⟨L[n],List.getElem?_eq_getElem hlt⟩
  have k1:=Hy hz
  have k2:=jb L
  have w1:IntKind.i64.wrap ((n:Int)+1)=((n+1:Nat):Int):=by rw[ag (by omega) (by omega)];omega
  have k3:n*1+1≤(stC L).length:=by omega
  clear k2
  left
  obtain⟨v,hv⟩:∃v,v=n+1:=⟨_,rfl⟩
  rw[←hv] at w1
  refine⟨v,?_⟩
  simp[-aQ,aA hbs,bN,bF,bL,a0,h0,h1,h12,hlt,k1,w1]
  omega
 ·right
  simp[h12,hlt]
theorem OZ(L:List (List UInt8)) (hl:L.length≤1000):
  ACallsTo Tryz.prog 198 [.slice 0 0 L.length none,.slice 1 0 L.length none] [.cells false 1 (stC L),.cells false 1 (stC L)] (.bool true) [.cells false 1 (stC L),.cells false 1 (stC L)]:=by
 have hG:aN Tryz.prog 198=some Tryz.f198:=by kernel_rfl
 obtain⟨b,hb⟩:∃b,aj Tryz.f198=[b]:=⟨_,rfl⟩
 obtain⟨F,hF⟩:=Gb (K:=L.length+1) L hl (by omega) hb
 have hF1:=fun env0 d h1 h2 h3 h4=>(hF env0 d ⟨h1,h2,h3,h4⟩).1
 clear hF
 simp[aj,aM,Tryz.f198] at hb
 subst hb
 have h:aa (aO Tryz.prog) (fun _=>[13]) (aN Tryz.prog) bt (L.length+1) 198 [.slice 0 0 L.length none,.slice 1 0 L.length none] [.cells false 1 (stC L),.cells false 1 (stC L)]=some ⟨.bool true,none,[]⟩:=by
  simp[aa,hG,Tryz.f198,hF1]
 have:=(af ae (aw _) (ak _) (ax _) h).1
 simpa [CallRes.mem] using this
theorem O0(M:Mem):ACallsTo Tryz.prog 198 [.nilslice,.nilslice] M (.bool true) M:=by
 have hG:aN Tryz.prog 198=some Tryz.f198:=by kernel_rfl
 refine aq (ak _) (lv:=fun _=>[13]) (K:=3) rfl rfl ?_ M
 simp[aa,hG,Tryz.f198,aZ,fA]
theorem QJ{M:Mem}{x y:AV}{L:List (List UInt8)}(hl:L.length≤1000) (hx:RowAt M x 1 L.length (stC L)) (hy:RowAt M y 1 L.length (stC L)):ACallsTo Tryz.prog 198 [x,y] M (.bool true) M:=by
 rcases hx with⟨rfl,h1,_⟩ | ⟨b,o,rfl,hp,hb⟩
 ·rcases hy with⟨rfl,_,_⟩ | ⟨b',o',_,hp',_⟩
  ·exact O0 M
  ·omega
 ·rcases hy with⟨_,h1,_⟩ | ⟨b',o',rfl,_,hb'⟩
  ·omega
  ·exact ACallsTo.rows2R (rest:=[]) (eg L) (eg L) rfl rfl (OZ L hl) ⟨b,o,_,rfl,hb,List.take_length⟩ ⟨b',o',_,rfl,hb',List.take_length⟩
theorem yu{M:Mem}{x y:AV}{L:List (List UInt8)}(hl:L.length≤1000) (hx:RowAt M x 1 L.length (stC L)) (hy:RowAt M y 1 L.length (stC L)):ACallsTo Tryz.prog 197 [x,y] M (.bool true) M:=by
 have hG:aN Tryz.prog 197=some Tryz.f197:=by kernel_rfl
 have hO:OracleOk Tryz.prog (cJ 240 [x,y] (.bool true) (fun N=>N=M)):=dT fun N hN=>by
  subst hN
  exact QH hl hx hy
 have h:aa (aO Tryz.prog) (fun _=>[]) (aN Tryz.prog) (cJ 240 [x,y] (.bool true) (fun N=>N=M)) 1 197 [x,y] M=some ⟨.bool true,none,[]⟩:=by
  clear hO
  simp[aa,hG,Tryz.f197,cJ]
 have:=(af ae (aw _) hO (ax _) h).1
 simpa [CallRes.mem] using this
def SfAt(N:Mem) (v:AV) (S:List (List (List UInt8))):Prop:=∃vs,vs.length=S.length∧RowAt N v 1 S.length vs∧∀(i:Nat) x L,vs[i]? =some x→S[i]? =some L→RowAt N x 1 L.length (stC L)
theorem SfAt.more{N:Mem}{v:AV}{S:List (List (List UInt8))}(h:SfAt N v S) (Z:Mem):SfAt (N++Z) v S:=by
 obtain⟨vs,h1,h2,h3⟩:=h
 exact⟨vs,h1,h2.more Z,fun i x L a b=>(h3 i x L a b).more Z⟩
noncomputable def xv(vs ws:List AV) (m:Mem):Oracle:=AS fun c a N r=>∃(i:Nat) (x y:AV),vs[i]? =some x∧ws[i]? =some y∧c=.fn 197∧a=[x,y]∧N=m∧r=⟨.bool true,none,[]⟩
theorem IN{vs ws:List AV}{m:Mem}{i:Nat}{x y:AV}(h1:vs[i]? =some x) (h2:ws[i]? =some y):xv vs ws m (.fn 197) [x,y] m=some ⟨.bool true,none,[]⟩:=
 k9 ⟨i,x,y,h1,h2,rfl,rfl,rfl,rfl⟩ fun r' ⟨_,_,_,_,_,_,_,_,h⟩=>h
set_option maxHeartbeats 4000000 in
theorem Gd{m:Mem}{v w:AV}{n:Nat}{vs ws:List AV}(lv:vs.length=n) (lw:ws.length=n) (hv:RowAt m v 1 n vs) (hw:RowAt m w 1 n ws) (hl:n≤1000) {K m0:Nat}(hK:n<K) {b:Code}(hb:aj Tryz.f241=[b]):
  ∃F:Env→Bool→Env,∀env0 d,(ab env0 15=v∧ab env0 1=w∧ab env0 2=.func 197 []∧ab env0 16=.int .i64 n∧ab env0 17=.int .i64 0)→
   aU (aO Tryz.prog) (fun _=>[17,17,17]) (xv vs ws m) K 32 m0 true (.loop b) ⟨env0,m,d⟩=some (.exit 0,⟨F env0 d,m,d⟩)∧True:=by
 refine bp rfl (fun env0=>ab env0 15=v∧ab env0 1=w∧ab env0 2=.func 197 []∧ab env0 16=.int .i64 n∧ab env0 17=.int .i64 0) (fun _ _=>True) ?_
 rintro env0 d ⟨h15,h1,h2,h16,h17⟩
 simp[aj,aM,Tryz.f241] at hb
 have hn:az [17,17,17] (ad b) env0 ((17,.int .i64 ((0:Nat):Int))::env0)=az [17,17,17] (ad b) env0 env0:=by simp[az,h17]
 rw[←hn]
 refine bK (α:=Nat) (fun i=>⟨az [17,17,17] (ad b) env0 ((17,.int .i64 (i:Int))::env0),m,d⟩) (fun i=>n-i) (fun i=>i≤n) (.exit 0) _ d _ (by simp) ?_ K 0 (by omega) (by omega)
 rintro i hi
 clear hn
 by_cases hlt:i<n
 ·obtain⟨x,hx⟩:∃x,vs[i]? =some x:=⟨_,List.getElem?_eq_getElem (by omega)⟩
  obtain⟨y,hy⟩:∃y,ws[i]? =some y:=⟨_,List.getElem?_eq_getElem (by omega)⟩
  have w1:IntKind.i64.wrap ((i:Int)+1)=((i+1:Nat):Int):=by rw[ag (by omega) (by omega)];omega
  have ho:=IN (m:=m) hx hy
  have xl:=(List.getElem?_eq_some_iff.1 hx).1
  have yl:=(List.getElem?_eq_some_iff.1 hy).1
  have hx' :∀h,vs[i]'h=x:=fun h=>by rw[List.getElem?_eq_getElem h] at hx;exact Option.some.inj hx
  have hy' :∀h,ws[i]'h=y:=fun h=>by rw[List.getElem?_eq_getElem h] at hy;exact Option.some.inj hy
  rcases hv with⟨_,h,_⟩ | ⟨b1,o1,rfl,_,e1⟩
  ·omega
  rcases hw with⟨_,h,_⟩ | ⟨b2,o2,rfl,_,e2⟩
  ·omega
  left
  refine⟨i+1,?_⟩
  refine bC (show i+1≤n∧n-(i+1)<n-i from⟨by omega,by omega⟩) ?_
  subst hb
  simp[h15,h1,h2,h16,hlt,e1,e2,hx',hy',xl,yl,ho,w1]
 ·right
  subst hb
  simp[h16,hlt]
theorem OW{m:Mem}{v w:AV}{S:List (List (List UInt8))}(hv:SfAt m v S) (hw:SfAt m w S) (hl:S.length≤1000) (hS:∀L∈S,L.length≤1000):
  ACallsTo Tryz.prog 241 [v,w,.func 197 []] m (.bool true) m:=by
 have hG:aN Tryz.prog 241=some Tryz.f241:=by kernel_rfl
 obtain⟨vs,l1,r1,c1⟩:=hv
 obtain⟨ws,l2,r2,c2⟩:=hw
 have hO:OracleOk Tryz.prog (xv vs ws m):=C9 fun c a N r hr=>by
  obtain⟨i,x,y,hx,hy,rfl,rfl,rfl,rfl⟩:=hr
  have hlt:=(List.getElem?_eq_some_iff.1 hx).1
  obtain⟨L,hL⟩:∃L,S[i]? =some L:=⟨_,List.getElem?_eq_getElem (by omega)⟩
  exact ah (by simpa using yu (hS L (List.mem_of_getElem? hL)) (c1 i x L hx hL) (c2 i y L hy hL))
 obtain⟨b,hb⟩:∃b,aj Tryz.f241=[b]:=⟨_,rfl⟩
 obtain⟨F,hF⟩:=Gd (m0:=m.length) (K:=S.length+1) l1 l2 r1 r2 hl (by omega) hb
 have hF1:=fun env0 d h=>(hF env0 d h).1
 clear hF
 simp[aj,aM,Tryz.f241] at hb
 subst hb
 have hlv:∀N',QN (aO Tryz.prog) 49 N' v=some (.int .i64 S.length):=fun N' =>by
  rcases r1 with⟨rfl,h,_⟩ | ⟨b,o,rfl,_⟩
  ·rw[h];simp
  ·simp
 have hlw:∀N',QN (aO Tryz.prog) 49 N' w=some (.int .i64 S.length):=fun N' =>by
  rcases r2 with⟨rfl,h,_⟩ | ⟨b,o,rfl,_⟩
  ·rw[h];simp
  ·simp
 have h:aa (aO Tryz.prog) (fun _=>[17,17,17]) (aN Tryz.prog) (xv vs ws m) (S.length+1) 241 [v,w,.func 197 []] m=some ⟨.bool true,none,[]⟩:=by
  clear hO
  simp[-QN,hlv,hlw,aa,hG,Tryz.f241,hF1]
 have:=(af ae (aw _) hO (ax _) h).1
 simpa [CallRes.mem] using this
theorem Lt{m:Mem}{v w:AV}{S:List (List (List UInt8))}(hv:SfAt m v S) (hw:SfAt m w S) (hl:S.length≤1000) (hS:∀L∈S,L.length≤1000):ACallsTo Tryz.prog 199 [v,w] m (.bool true) m:=by
 have hG:aN Tryz.prog 199=some Tryz.f199:=by kernel_rfl
 have hO:OracleOk Tryz.prog (cJ 241 [v,w,.func 197 []] (.bool true) (fun N=>N=m)):=dT fun N hN=>by
  subst hN
  exact OW hv hw hl hS
 have h:aa (aO Tryz.prog) (fun _=>[]) (aN Tryz.prog) (cJ 241 [v,w,.func 197 []] (.bool true) (fun N=>N=m)) 1 199 [v,w] m=some ⟨.bool true,none,[]⟩:=by
  clear hO
  simp[aa,hG,Tryz.f199,cJ]
 have:=(af ae (aw _) hO (ax _) h).1
 simpa [CallRes.mem] using this
structure Evc.Ok (c:Evc):Prop where
 B:c.B.length≤1000
 U:c.U.length≤1000
 S:c.S.length≤2
 SL:∀L∈c.S,L.length≤1000
 K:c.K.length≤1000
def EvAt(N:Mem) (ev:List AV) (c:Evc):Prop:=∃b u s kn,ev=c.cells b u s kn∧RowAt N b 1 c.B.length (stC c.B)∧RowAt N u 1 c.U.length (stC c.U)∧SfAt N s c.S∧RowAt N kn 2 c.K.length (kC c.K)
theorem EvAt.more{N:Mem}{ev:List AV}{c:Evc}(h:EvAt N ev c) (Z:Mem):EvAt (N++Z) ev c:=by
 obtain⟨b,u,s,kn,h1,h2,h3,h4,h5⟩:=h
 exact⟨b,u,s,kn,h1,h2.more Z,h3.more Z,h4.more Z,h5.more Z⟩
def sk(b b' u u' s s' kn kn' :AV) (m:Mem) (c:Go.Eng.Callee) (a:List AV) (N:Mem) (r:CallRes):Prop:=(∃Z,N=m++Z)∧((c=.fn 197∧a=[b,b'])∨(c=.fn 198∧a=[u,u'])∨(c=.fn 199∧a=[s,s'])∨(c=.fn 200∧a=[kn,kn']))∧r=⟨.bool true,none,[]⟩
theorem KG{m:Mem}{e e' :List AV}{c:Evc}(hc:c.Ok) (h:EvAt m e c) (h' :EvAt m e' c):ACallsTo Tryz.prog 133 [.agg e,.agg e'] m (.bool true) m:=by
 obtain⟨b,u,s,kn,rfl,h1,h2,h3,h4⟩:=h
 obtain⟨b',u',s',kn',rfl,k1,k2,k3,k4⟩:=h'
 have hO:OracleOk Tryz.prog (AS (sk b b' u u' s s' kn kn' m)):=C9 fun f a N r hr=>by
  obtain⟨⟨Z,rfl⟩,hr,rfl⟩:=hr
  rcases hr with⟨rfl,rfl⟩ | ⟨rfl,rfl⟩ | ⟨rfl,rfl⟩ | ⟨rfl,rfl⟩
  ·exact ah (by simpa using yu hc.B (h1.more Z) (k1.more Z))
  ·exact ah (by simpa using QJ hc.U (h2.more Z) (k2.more Z))
  ·exact ah (by simpa using Lt (h3.more Z) (k3.more Z) (by have:=hc.S;omega) hc.SL)
  ·exact ah (by simpa using QI hc.K (h4.more Z) (k4.more Z))
 exact KH hO (k9 (S:=sk b b' u u' s s' kn kn' m) ⟨⟨_,rfl⟩,.inl ⟨rfl,rfl⟩,rfl⟩ fun r' h=>h.2.2) (k9 (S:=sk b b' u u' s s' kn kn' m) ⟨⟨_,rfl⟩,.inr (.inl ⟨rfl,rfl⟩),rfl⟩ fun r' h=>h.2.2)
  (k9 (S:=sk b b' u u' s s' kn kn' m) ⟨⟨_,rfl⟩,.inr (.inr (.inl ⟨rfl,rfl⟩)),rfl⟩ fun r' h=>h.2.2) (k9 (S:=sk b b' u u' s s' kn kn' m) ⟨⟨_,rfl⟩,.inr (.inr (.inr ⟨rfl,rfl⟩)),rfl⟩ fun r' h=>h.2.2)
theorem xx{c:Evc}(hB:c.B=[]) (hU:c.U=[]) (hS:c.S=[]) (hK:c.K.length≤1000):c.Ok:=⟨by simp[hB],by simp[hU],by simp[hS],by simp[hS],hK⟩
def hT(Z:List Int):List (List UInt8):=(qH Z).map aB
end Go.Proofs
