/- See Q54. -/
import Derived.Test.YtgafjliihahjgaaGreatDoorQ29
set_option linter.all false
namespace Go.Proofs
open Go.Eng
def wU(s:List UInt8):Nat→List (List UInt8)→Int
 |_,[]=> -1
 |i,x::l=>if s=x then (i:Int) else wU s (i+1) l
theorem KP{s:List UInt8}:∀{i:Nat}{l:List (List UInt8)},wU s i l<0↔s∉l
 |i,[]=>by simp[wU]
 |i,x::l=>by
  unfold wU;by_cases h:s=x
  ·rw[if_pos h];simp[h]
  ·rw[if_neg h,KP];simp[h]
theorem Pd{s:List UInt8}:∀{i:Nat}{l:List (List UInt8)},-1≤wU s i l
 |i,[]=>by unfold wU;omega
 |i,x::l=>by
  unfold wU;split
  ·omega
  ·exact Pd
set_option maxHeartbeats 1600000 in
theorem yh{O:Oracle}{K:Nat}(L:List (List UInt8)) (s:List UInt8) (hl:L.length≤1000000000) (hK:L.length<K) {b:Code}(hb:ax Tryz.f37=[b]):
  ∃F:Env→Bool→Env,∀env0 d,(ab env0 0=.slice 0 0 L.length none∧ab env0 1=.str s∧ab env0 7=.int .i64 L.length∧ab env0 8=.int .i64 0)→
   aT (aM Tryz.prog) (fun _=>[8]) O K 19 1 true (.loop b) ⟨env0,[.cells false 1 (stC L)],d⟩=some (if wU s 0 L<0 then .exit 0 else .ret,⟨F env0 d,[.cells false 1 (stC L)],d⟩)∧
    (¬wU s 0 L<0→ab (F env0 d) 4=.int .i64 (wU s 0 L)):=by
 refine cg rfl (fun env0=>ab env0 0=.slice 0 0 L.length none∧ab env0 1=.str s∧ab env0 7=.int .i64 L.length∧ab env0 8=.int .i64 0) (fun _ env' =>¬wU s 0 L<0→ab env' 4=.int .i64 (wU s 0 L)) ?_;rintro env0 d ⟨h0,h1,h7,h8⟩;simp[ax,aV,Tryz.f37] at hb;have hn:aI [8] (ad b) env0 ((8,.int .i64 ((0:Nat):Int))::env0)=aI [8] (ad b) env0 env0:=by simp[aI,h8]
 rw[←hn];have kl:(stC L).length=L.length:=eJ L;refine cG (α:=Nat) (fun n=>⟨aI [8] (ad b) env0 ((8,.int .i64 (n:Int))::env0),[.cells false 1 (stC L)],d⟩) (fun n=>L.length-n) (fun n=>n≤L.length∧wU s 0 L=wU s n (L.drop n)) _ _ d _ (by split<;>simp) ?_ K 0 ⟨by omega,by rw[List.drop_zero]⟩ (by omega);rintro n ⟨hn1,he⟩;clear hn;subst hb;by_cases hlt:n<L.length
 ·obtain⟨x,hx⟩:∃x,L[n]? =some x:=⟨L[n],List.getElem?_eq_getElem hlt⟩
  have k1:∀h,(stC L)[n]'h=.str x:=fun h=>by have:=BI hx;rw[List.getElem?_eq_getElem h] at this;exact Option.some.inj this
  have hd:L.drop n=x::L.drop (n+1):=by rw[List.getElem?_eq_some_iff] at hx;obtain⟨h1,h2⟩:=hx;rw[←h2];exact List.drop_eq_getElem_cons h1
  rw[hd,wU] at he;have w1:IntKind.i64.wrap ((n:Int)+1)=((n+1:Nat):Int):=by rw[aj (by omega) (by omega)];omega
  by_cases hs:s=x
  ·right
   rw[if_pos hs] at he;subst hs;have hng:¬(n:Int)<0:=by omega
   rw[he,if_neg hng];simp[h0,h1,h7,hlt,kl,k1]
  ·left
   rw[if_neg hs] at he;have hb:(s==x)=false:=by simpa using hs
   refine⟨n+1,?_⟩;refine ee (show(n+1≤L.length∧wU s 0 L=wU s (n+1) (L.drop (n+1)))∧L.length-(n+1)<L.length-n from⟨⟨by omega,he⟩,by omega⟩) ?_;simp[h0,h1,h7,hlt,kl,k1,hb,w1]
 ·right
  have e:L.drop n=[]:=List.drop_of_length_le (by omega);rw[e,wU] at he;rw[he,if_pos (by decide)];simp[h7,hlt]
theorem D6(L:List (List UInt8)) (s:List UInt8) (hl:L.length≤1000000000):
  ACallsTo Tryz.prog 37 [.slice 0 0 L.length none,.str s] [.cells false 1 (stC L)] (.int .i64 (wU s 0 L)) [.cells false 1 (stC L)]:=by
 have hG:aL Tryz.prog 37=some Tryz.f37:=by kernel_rfl
 obtain⟨b,hb⟩:∃b,ax Tryz.f37=[b]:=⟨_,rfl⟩
 obtain⟨F,hF⟩:=yh (O:=bJ) (K:=L.length+1) L s hl (by omega) hb;simp[ax,aV,Tryz.f37] at hb;subst hb;refine aZ (lv:=(fun _=>[8])) (K:=(L.length+1)) (ao _) ?_;by_cases hc:wU s 0 L<0
 ·rw[if_pos hc] at hF
  have hF1:=fun env0 d h=>(hF env0 d h).1
  clear hF;have h1:wU s 0 L= -1:=by have:=Pd (s:=s) (i:=0) (l:=L);omega
  rw[h1];simp[aa,hG,Tryz.f37,hF1]
 ·rw[if_neg hc] at hF
  have hF1:=fun env0 d h=>(hF env0 d h).1
  have hF2:=fun env0 d h=>(hF env0 d h).2 hc
  clear hF;simp[aa,hG,Tryz.f37,hF1,hF2]
theorem Aa(s:List UInt8) (M:Mem):ACallsTo Tryz.prog 37 [.nilslice,.str s] M (.int .i64 (-1)) M:=by
 have hG:aL Tryz.prog 37=some Tryz.f37:=by kernel_rfl
 refine aq (ao _) (lv:=fun _=>[8]) (K:=1) rfl rfl ?_ M;simp[aa,hG,Tryz.f37,aB,dV]
theorem uS{M:Mem}{x:AV}{L:List (List UInt8)}(s:List UInt8) (hl:L.length≤1000000000) (hx:sts M x=some L):ACallsTo Tryz.prog 37 [x,.str s] M (.int .i64 (wU s 0 L)) M:=by
 rcases sX hx with h | ⟨rfl,rfl⟩
 ·exact ACallsTo.rows1R (rest:=[.str s]) (jn L) rfl rfl (D6 L s hl) h
 ·exact Aa s M
noncomputable def Cx:Oracle:=fun c args M=>match c,args with
 |.fn 37,[x,.str s]=>match sts M x with
  |some L=>if L.length≤1000000000 then some ⟨.int .i64 (wU s 0 L),none,[]⟩ else none
  |none=>none
 |c,args=>bJ c args M
theorem LV:OracleOk Tryz.prog Cx:=by
 refine cO fun c args M r h=>?_
 unfold Cx at h;split at h
 ·split at h
  ·rename_i L hL
   split at h
   ·rename_i hc
    cases h;refine ag ?_;rw[List.append_nil];exact uS _ hc hL
   ·cases h
  ·cases h
 ·exact iu (ao _) h
theorem nu{M:Mem}{x:AV}{L:List (List UInt8)}(s:List UInt8) (hl:L.length≤1000000000) (hx:sts M x=some L):ACallsTo Tryz.prog 18 [x,.str s] M (.bool (decide (s∈L))) M:=by
 have hG:aL Tryz.prog 18=some Tryz.f18:=by kernel_rfl
 have hi:decide (0≤wU s 0 L)=decide (s∈L):=by
  rw[decide_eq_decide];have:=KP (s:=s) (i:=0) (l:=L);by_cases h:s∈L
  ·simp only[h,iff_true]
   exact Int.not_lt.1 fun e=>this.1 e h
  ·simp only[h,iff_false]
   have:=this.2 h;omega
 refine aZ (K:=1) (lv:=fun _=>[]) LV ?_;rw[←hi];simp[aa,hG,Tryz.f18,Cx,hx,hl]
end Go.Proofs
namespace Go.Proofs
open Go.Eng
open Classical in
noncomputable def gR(L:List (FuncId×List AV×AV)) (p:Mem→Prop):Oracle:=fun c a M=>if p M then af (bG L) c a M else none
theorem kE{P:Program}{L:List (FuncId×List AV×AV)}{p:Mem→Prop}(h:∀x∈L,∀M,p M→ACallsTo P x.1 x.2.1 M x.2.2 M):OracleOk P (gR L p):=by
 have k:∀f a v,bG L f a=some v→∃x∈L,f=x.1∧a=x.2.1∧v=x.2.2:=by
  clear h;intro f a v hv;induction L with
  |nil=>simp[bG] at hv
  |cons x L ih=>
   rw[bG] at hv;split at hv
   ·rename_i hc
    cases hv;exact⟨x,by simp,hc.1,hc.2,rfl⟩
   ·obtain⟨y,hy,h1⟩:=ih hv
    exact⟨y,by simp[hy],h1⟩
 have k2:∀c a M r,gR L p c a M=some r→p M∧∃f,c=.fn f∧∃x∈L,f=x.1∧a=x.2.1∧r=⟨x.2.2,none,[]⟩:=by
  intro c a M r hr;unfold gR at hr;split at hr
  ·rename_i hp
   refine⟨hp,?_⟩;unfold af at hr;split at hr
   ·rename_i f
    split at hr
    ·rename_i v hv
     cases hr;obtain⟨x,hx,h1,h2,h3⟩:=k _ _ _ hv;exact⟨f,rfl,x,hx,h1,h2,by rw[h3]⟩
    ·cases hr
   ·cases hr
  ·cases hr
 refine⟨fun f a M r hr=>?_,fun b a M r hr=>?_,fun c a M r q hr hq=>?_⟩
 ·obtain⟨hp,g,hg,x,hx,h1,rfl,rfl⟩:=k2 _ _ _ _ hr
  cases hg;subst h1;simpa [CallRes.mem] using h x hx M hp
 ·obtain⟨_,g,hg,_⟩:=k2 _ _ _ _ hr
  cases hg
 ·obtain⟨_,g,_,x,_,_,_,rfl⟩:=k2 _ _ _ _ hr
  cases hq
def jh(c:Code):List Nat:=if (ad c).contains 35 then [35] else [10,65]
theorem ez(M:Mem) (u k:Nat) (o:Bool) (U:List (List UInt8)) (s:List UInt8) (hu:M[u]? =some (.cells o 1 (stC U))) (hk:k≤U.length) (hl:U.length≤3) (hs:s∉U.take k):
  ACallsTo Tryz.prog 18 [.slice u 0 k none,.str s] M (.bool false) M:=by
 have h:sts M (.slice u 0 k none)=some (U.take k):=by
  have h1:(stC U).take (k*1)=stC (U.take k):=by simp[stC,List.map_take]
  unfold sts;rw[Hk hu (by rw[eJ];omega) h1];exact zI _
 have:=nu (M:=M) s (by rw[List.length_take];omega) h
 rwa [decide_eq_false hs] at this
set_option maxHeartbeats 4000000 in
theorem DL(s:Sheet) (nm:List UInt8) (u0:List UInt8) (n0:u0∈bl)  (Z:List Int) (hZ:∀z∈Z,z.natAbs<1000) (hl:Z.length≤1000) (hn:Z.length=s.P.length) (m:Mem) (b u:Nat) (o1 o2 o3 o4:Bool)
  (hp:m[0]? =some (.cells o1 2 (pC s.P))) (hq:m[1]? =some (.cells o2 3 (tC s.T))) (hb:m[b]? =some (.cells o3 1 (qC (qH Z)))) (hu:m[u]? =some (.cells o4 1 (stC [u0]))):
  ACallsTo Tryz.prog 186 [shA s,.agg (aU nm (.slice b 0 Z.length none) (.slice u 0 1 none) (.nilslice))] m (.int .i64 0) m:=by
 have hG:aL Tryz.prog 186=some Tryz.f186:=by kernel_rfl
 have lp:=(List.getElem?_eq_some_iff.1 hp).1;have lq:=(List.getElem?_eq_some_iff.1 hq).1;have lb:=(List.getElem?_eq_some_iff.1 hb).1;have lu:=(List.getElem?_eq_some_iff.1 hu).1;have ep:=fun ext:Mem=>(List.getElem?_append_left (l₂:=ext) lp).trans hp
 have eq:=fun ext:Mem=>(List.getElem?_append_left (l₂:=ext) lq).trans hq
 have eb:=fun ext:Mem=>(List.getElem?_append_left (l₂:=ext) lb).trans hb
 have eu:=fun ext:Mem=>(List.getElem?_append_left (l₂:=ext) lu).trans hu
 have hO1:OracleOk Tryz.prog (af (bG [(109,[.str u0],.int .i64 0)])):=cF fun e he M=>by simp only[List.mem_cons,List.not_mem_nil,or_false] at he;rcases he with rfl;exact cL _ n0 M
 have hO2:OracleOk Tryz.prog (gR [(250,[shA s,.slice b 0 Z.length none],.int .i64 0),(18,[.slice u 0 0 none,.str u0],.bool false)] (fun M=>∃ext,M=m++ext)):=kE fun e he M hM=>by
  obtain⟨ext,rfl⟩:=hM;simp only[List.mem_cons,List.not_mem_nil,or_false] at he;rcases he with rfl | rfl
  ·exact nB s Z hZ hl hn _ b o1 o2 o3 (ep ext) (eq ext) (eb ext)
  ·exact ez _ u 0 o4 [u0] u0 (eu ext) (by simp) (by simp) (by simp)
 have hO:=OracleOk.or' hO1 hO2;have w0:IntKind.i64.wrap 0=0:=rfl;have w1:IntKind.i64.wrap 1=1:=rfl;have w2:IntKind.i64.wrap 2=2:=rfl;have w3:IntKind.i64.wrap 3=3:=rfl;clear hO1 hO2;refine aZ (lv:=jh) (K:=5) hO ?_;clear hO;obtain⟨N,hN⟩:∃N,N=Z.length:=⟨_,rfl⟩
 simp only[←hN] at hb ⊢;simp[aa,hG,Tryz.f186,Oracle.or,af,bG,gR,shA,aU,aB,dV,jh,stC,eu,w0,w1]
set_option maxHeartbeats 4000000 in
theorem DM(s:Sheet) (nm:List UInt8) (u0 u1:List UInt8) (n0:u0∈bl) (n1:u1∈bl) (d01:u1≠u0) (Z:List Int) (hZ:∀z∈Z,z.natAbs<1000) (hl:Z.length≤1000) (hn:Z.length=s.P.length) (Y1:List Int) (hY1:∀z∈Y1,z.natAbs<1000) (hl1:Y1.length=s.P.length) (hle1:∀(i:Nat) z y,Z[i]? =some z→Y1[i]? =some y→z≤y) (m:Mem) (b u c r1:Nat) (o1 o2 o3 o4 o5 q1:Bool)
  (hp:m[0]? =some (.cells o1 2 (pC s.P))) (hq:m[1]? =some (.cells o2 3 (tC s.T))) (hb:m[b]? =some (.cells o3 1 (qC (qH Z)))) (hu:m[u]? =some (.cells o4 1 (stC [u0,u1]))) (hc:m[c]? =some (.cells o5 1 [.slice r1 0 Z.length none])) (hr1:m[r1]? =some (.cells q1 1 (qC (qH Y1)))):
  ACallsTo Tryz.prog 186 [shA s,.agg (aU nm (.slice b 0 Z.length none) (.slice u 0 2 none) (.slice c 0 1 none))] m (.int .i64 0) m:=by
 have hG:aL Tryz.prog 186=some Tryz.f186:=by kernel_rfl
 have lp:=(List.getElem?_eq_some_iff.1 hp).1;have lq:=(List.getElem?_eq_some_iff.1 hq).1;have lb:=(List.getElem?_eq_some_iff.1 hb).1;have lu:=(List.getElem?_eq_some_iff.1 hu).1;have lc:=(List.getElem?_eq_some_iff.1 hc).1;have lr1:=(List.getElem?_eq_some_iff.1 hr1).1;have ep:=fun ext:Mem=>(List.getElem?_append_left (l₂:=ext) lp).trans hp
 have eq:=fun ext:Mem=>(List.getElem?_append_left (l₂:=ext) lq).trans hq
 have eb:=fun ext:Mem=>(List.getElem?_append_left (l₂:=ext) lb).trans hb
 have eu:=fun ext:Mem=>(List.getElem?_append_left (l₂:=ext) lu).trans hu
 have ec:=fun ext:Mem=>(List.getElem?_append_left (l₂:=ext) lc).trans hc
 have er1:=fun ext:Mem=>(List.getElem?_append_left (l₂:=ext) lr1).trans hr1
 have hO1:OracleOk Tryz.prog (af (bG [(109,[.str u0],.int .i64 0),(109,[.str u1],.int .i64 0)])):=cF fun e he M=>by
  simp only[List.mem_cons,List.not_mem_nil,or_false] at he;rcases he with rfl | rfl
  ·exact cL _ n0 M
  ·exact cL _ n1 M
 have hO2:OracleOk Tryz.prog (gR [(250,[shA s,.slice b 0 Z.length none],.int .i64 0),(18,[.slice u 0 0 none,.str u0],.bool false),(18,[.slice u 0 1 none,.str u1],.bool false),(251,[shA s,.slice b 0 Z.length none,.slice r1 0 Z.length none],.tuple [.bool true,.int .i64 0])] (fun M=>∃ext,M=m++ext)):=kE fun e he M hM=>by
  obtain⟨ext,rfl⟩:=hM;simp only[List.mem_cons,List.not_mem_nil,or_false] at he;rcases he with rfl | rfl | rfl | rfl
  ·exact nB s Z hZ hl hn _ b o1 o2 o3 (ep ext) (eq ext) (eb ext)
  ·exact ez _ u 0 o4 [u0,u1] u0 (eu ext) (by simp) (by simp) (by simp)
  ·exact ez _ u 1 o4 [u0,u1] u1 (eu ext) (by simp) (by simp) (by simp[d01])
  ·have:=nA s Z Y1 hZ hY1 (by omega) hn hl1 hle1 (m++ext) b r1 o1 o2 o3 q1 (ep ext) (eq ext) (eb ext) (er1 ext)
   rw[show Y1.length=Z.length by omega] at this;exact this
 have hO:=OracleOk.or' hO1 hO2;have w0:IntKind.i64.wrap 0=0:=rfl;have w1:IntKind.i64.wrap 1=1:=rfl;have w2:IntKind.i64.wrap 2=2:=rfl;have w3:IntKind.i64.wrap 3=3:=rfl;clear hO1 hO2;refine aZ (lv:=jh) (K:=5) hO ?_;clear hO;obtain⟨N,hN⟩:∃N,N=Z.length:=⟨_,rfl⟩
 simp only[←hN] at ec ⊢;simp[aa,hG,Tryz.f186,Oracle.or,af,bG,gR,shA,aU,aB,dV,jh,stC,eu,ec,w1,w2]
set_option maxHeartbeats 4000000 in
theorem DN(s:Sheet) (nm:List UInt8) (u0 u1 u2:List UInt8) (n0:u0∈bl) (n1:u1∈bl) (n2:u2∈bl) (d01:u1≠u0) (d02:u2≠u0) (d12:u2≠u1) (Z:List Int) (hZ:∀z∈Z,z.natAbs<1000) (hl:Z.length≤1000) (hn:Z.length=s.P.length) (Y1 Y2:List Int) (hY1:∀z∈Y1,z.natAbs<1000) (hl1:Y1.length=s.P.length) (hle1:∀(i:Nat) z y,Z[i]? =some z→Y1[i]? =some y→z≤y) (hY2:∀z∈Y2,z.natAbs<1000) (hl2:Y2.length=s.P.length) (hle2:∀(i:Nat) z y,Y1[i]? =some z→Y2[i]? =some y→z≤y) (m:Mem) (b u c r1 r2:Nat) (o1 o2 o3 o4 o5 q1 q2:Bool)
  (hp:m[0]? =some (.cells o1 2 (pC s.P))) (hq:m[1]? =some (.cells o2 3 (tC s.T))) (hb:m[b]? =some (.cells o3 1 (qC (qH Z)))) (hu:m[u]? =some (.cells o4 1 (stC [u0,u1,u2]))) (hc:m[c]? =some (.cells o5 1 [.slice r1 0 Z.length none,.slice r2 0 Z.length none])) (hr1:m[r1]? =some (.cells q1 1 (qC (qH Y1)))) (hr2:m[r2]? =some (.cells q2 1 (qC (qH Y2)))):
  ACallsTo Tryz.prog 186 [shA s,.agg (aU nm (.slice b 0 Z.length none) (.slice u 0 3 none) (.slice c 0 2 none))] m (.int .i64 0) m:=by
 have hG:aL Tryz.prog 186=some Tryz.f186:=by kernel_rfl
 have lp:=(List.getElem?_eq_some_iff.1 hp).1;have lq:=(List.getElem?_eq_some_iff.1 hq).1;have lb:=(List.getElem?_eq_some_iff.1 hb).1;have lu:=(List.getElem?_eq_some_iff.1 hu).1;have lc:=(List.getElem?_eq_some_iff.1 hc).1;have lr1:=(List.getElem?_eq_some_iff.1 hr1).1;have lr2:=(List.getElem?_eq_some_iff.1 hr2).1;have ep:=fun ext:Mem=>(List.getElem?_append_left (l₂:=ext) lp).trans hp
 have eq:=fun ext:Mem=>(List.getElem?_append_left (l₂:=ext) lq).trans hq
 have eb:=fun ext:Mem=>(List.getElem?_append_left (l₂:=ext) lb).trans hb
 have eu:=fun ext:Mem=>(List.getElem?_append_left (l₂:=ext) lu).trans hu
 have ec:=fun ext:Mem=>(List.getElem?_append_left (l₂:=ext) lc).trans hc
 have er1:=fun ext:Mem=>(List.getElem?_append_left (l₂:=ext) lr1).trans hr1
 have er2:=fun ext:Mem=>(List.getElem?_append_left (l₂:=ext) lr2).trans hr2
 have hO1:OracleOk Tryz.prog (af (bG [(109,[.str u0],.int .i64 0),(109,[.str u1],.int .i64 0),(109,[.str u2],.int .i64 0)])):=cF fun e he M=>by
  simp only[List.mem_cons,List.not_mem_nil,or_false] at he;rcases he with rfl | rfl | rfl
  ·exact cL _ n0 M
  ·exact cL _ n1 M
  ·exact cL _ n2 M
 have hO2:OracleOk Tryz.prog (gR [(250,[shA s,.slice b 0 Z.length none],.int .i64 0),(18,[.slice u 0 0 none,.str u0],.bool false),(18,[.slice u 0 1 none,.str u1],.bool false),(18,[.slice u 0 2 none,.str u2],.bool false),(251,[shA s,.slice b 0 Z.length none,.slice r1 0 Z.length none],.tuple [.bool true,.int .i64 0]),(251,[shA s,.slice r1 0 Z.length none,.slice r2 0 Z.length none],.tuple [.bool true,.int .i64 0])] (fun M=>∃ext,M=m++ext)):=kE fun e he M hM=>by
  obtain⟨ext,rfl⟩:=hM;simp only[List.mem_cons,List.not_mem_nil,or_false] at he;rcases he with rfl | rfl | rfl | rfl | rfl | rfl
  ·exact nB s Z hZ hl hn _ b o1 o2 o3 (ep ext) (eq ext) (eb ext)
  ·exact ez _ u 0 o4 [u0,u1,u2] u0 (eu ext) (by simp) (by simp) (by simp)
  ·exact ez _ u 1 o4 [u0,u1,u2] u1 (eu ext) (by simp) (by simp) (by simp[d01])
  ·exact ez _ u 2 o4 [u0,u1,u2] u2 (eu ext) (by simp) (by simp) (by simp[d02,d12])
  ·have:=nA s Z Y1 hZ hY1 (by omega) hn hl1 hle1 (m++ext) b r1 o1 o2 o3 q1 (ep ext) (eq ext) (eb ext) (er1 ext)
   rw[show Y1.length=Z.length by omega] at this;exact this
  ·have:=nA s Y1 Y2 hY1 hY2 (by omega) hl1 hl2 hle2 (m++ext) r1 r2 o1 o2 q1 q2 (ep ext) (eq ext) (er1 ext) (er2 ext)
   rw[show Y2.length=Z.length by omega,show Y1.length=Z.length by omega] at this;exact this
 have hO:=OracleOk.or' hO1 hO2;have w0:IntKind.i64.wrap 0=0:=rfl;have w1:IntKind.i64.wrap 1=1:=rfl;have w2:IntKind.i64.wrap 2=2:=rfl;have w3:IntKind.i64.wrap 3=3:=rfl;clear hO1 hO2;refine aZ (lv:=jh) (K:=5) hO ?_;clear hO;obtain⟨N,hN⟩:∃N,N=Z.length:=⟨_,rfl⟩
 simp only[←hN] at ec ⊢;simp[aa,hG,Tryz.f186,Oracle.or,af,bG,gR,shA,aU,aB,dV,jh,stC,eu,ec,w1,w2,w3]
theorem BI{L:List (List UInt8)}{i:Nat}{s:List UInt8}(h:L[i]? =some s):(stC L)[i]? =some (.str s):=by simp[stC,h]
theorem vp(Q:List Rat):qC Q=stC (Q.map ah):=by simp[qC,stC]
set_option maxHeartbeats 1600000 in
theorem Ca{K:Nat}(L:List (List UInt8)) (hl:L.length≤1000) (hK:L.length<K) {b:Code}(hb:ax Tryz.f242=[b]):
  ∃F:Env→Bool→Env,∀env0 d,(ab env0 0=.slice 0 0 L.length none∧ab env0 1=.slice 0 0 L.length none∧ab env0 12=.int .i64 L.length∧ab env0 13=.int .i64 0)→
   aT (aM Tryz.prog) (fun _=>[13]) bJ K 26 1 true (.loop b) ⟨env0,[.cells false 1 (stC L)],d⟩=some (.exit 0,⟨F env0 d,[.cells false 1 (stC L)],d⟩)∧True:=by
 refine cg (L:=[13]) rfl (fun env0=>ab env0 0=.slice 0 0 L.length none∧ab env0 1=.slice 0 0 L.length none∧ab env0 12=.int .i64 L.length∧ab env0 13=.int .i64 0) (fun _ _=>True) ?_;rintro env0 d ⟨h0,h1,h12,h13⟩;obtain⟨os,hops⟩:∃os,aE Tryz.f242=os:=⟨_,rfl⟩
 have hbs:=br hops (ls:=[[0,0,3,7,0,0,48,112,255]]) (by kernel_rfl);simp only[aE,bC,Tryz.f242,List.nil_append,List.append_nil] at hops;subst hops;simp only[List.map_cons,List.map_nil,List.cons.injEq,and_true] at hbs;have a0:aN [0,0,3,7,0,0,48,112,255] 8=true:=by decide
 have e:=fun d x y=>ji d x y
 simp[ax,aV,Tryz.f242] at hb;have hn0:aI [13] (ad b) env0 ((13,.int .i64 ((0:Nat):Int))::env0)=aI [13] (ad b) env0 env0:=by simp[aI,h13]
 rw[←hn0];refine cG (α:=Nat) (fun n=>⟨aI [13] (ad b) env0 ((13,.int .i64 (n:Int))::env0),[.cells false 1 (stC L)],d⟩) (fun n=>L.length-n) (fun n=>n≤L.length) (.exit 0) _ d _ (by simp) ?_ K 0 (by omega) (by omega);rintro n hn1;clear hn0;subst hb;by_cases hlt:n<L.length
 ·obtain⟨z,hz⟩:∃z,L[n]? =some z:=⟨L[n],List.getElem?_eq_getElem hlt⟩
  have k1:=BI hz;have w1:IntKind.i64.wrap ((n:Int)+1)=((n+1:Nat):Int):=by rw[aj (by omega) (by omega)];omega
  left;obtain⟨v,hv⟩:∃v,v=n+1:=⟨_,rfl⟩
  rw[←hv] at w1;refine⟨v,?_⟩;simp[-aD,ai hbs,bc,aW,a8,a0,h0,h1,h12,hlt,k1,w1];omega
 ·right
  simp[h12,hlt]
theorem Lt(L:List (List UInt8)) (hl:L.length≤1000):
  ACallsTo Tryz.prog 242 [.slice 0 0 L.length none,.slice 0 0 L.length none] [.cells false 1 (stC L)] (.bool true) [.cells false 1 (stC L)]:=by
 have hG:aL Tryz.prog 242=some Tryz.f242:=by kernel_rfl
 obtain⟨b,hb⟩:∃b,ax Tryz.f242=[b]:=⟨_,rfl⟩
 obtain⟨F,hF⟩:=Ca (K:=L.length+1) L hl (by omega) hb;have hF1:=fun env0 d h1 h2 h3 h4=>(hF env0 d ⟨h1,h2,h3,h4⟩).1
 clear hF;simp[ax,aV,Tryz.f242] at hb;subst hb;refine aZ (lv:=(fun _=>[13])) (K:=(L.length+1)) (ao _) ?_;simp[aa,hG,Tryz.f242,hF1]
theorem NB(L:List (List UInt8)) (hl:L.length≤1000) (M:Mem) (b:Nat) (o:Bool) (hb:M[b]? =some (.cells o 1 (stC L))):
  ACallsTo Tryz.prog 242 [.slice b 0 L.length none,.slice b 0 L.length none] M (.bool true) M:=by
 have hlt:=(List.getElem?_eq_some_iff.1 hb).1;have:=ACallsTo.frame (M:=M) (new:=[]) [b] rfl (by simpa using hlt) (by rfl) (fun i t hs=>by
  match i with
  |0=>simp at hs;subst hs;exact bI (jn _) hb List.take_length
  |i+1=>simp at hs) rfl (Lt L hl)
 simpa [AV.rens,AV.ren,ar] using this
set_option maxHeartbeats 1600000 in
theorem Cb{K:Nat}(L:List (List UInt8)) (hl:L.length≤1000) (hK:L.length<K) {b:Code}(hb:ax Tryz.f26=[b]):
  ∃F:Env→Bool→Env,∀env0 d,(ab env0 0=.slice 0 0 L.length none∧ab env0 1=.slice 0 0 L.length none∧ab env0 12=.int .i64 L.length∧ab env0 13=.int .i64 0)→
   aT (aM Tryz.prog) (fun _=>[13]) bJ K 26 1 true (.loop b) ⟨env0,[.cells false 1 (stC L)],d⟩=some (.exit 0,⟨F env0 d,[.cells false 1 (stC L)],d⟩)∧True:=by
 refine cg (L:=[13]) rfl (fun env0=>ab env0 0=.slice 0 0 L.length none∧ab env0 1=.slice 0 0 L.length none∧ab env0 12=.int .i64 L.length∧ab env0 13=.int .i64 0) (fun _ _=>True) ?_;rintro env0 d ⟨h0,h1,h12,h13⟩;obtain⟨os,hops⟩:∃os,aE Tryz.f26=os:=⟨_,rfl⟩
 have hbs:=br hops (ls:=[[0,0,3,7,0,0,48,112,255]]) (by kernel_rfl);simp only[aE,bC,Tryz.f26,List.nil_append,List.append_nil] at hops;subst hops;simp only[List.map_cons,List.map_nil,List.cons.injEq,and_true] at hbs;have a0:aN [0,0,3,7,0,0,48,112,255] 8=true:=by decide
 have e:=fun d x y=>yd d x y
 simp[ax,aV,Tryz.f26] at hb;have hn0:aI [13] (ad b) env0 ((13,.int .i64 ((0:Nat):Int))::env0)=aI [13] (ad b) env0 env0:=by simp[aI,h13]
 rw[←hn0];refine cG (α:=Nat) (fun n=>⟨aI [13] (ad b) env0 ((13,.int .i64 (n:Int))::env0),[.cells false 1 (stC L)],d⟩) (fun n=>L.length-n) (fun n=>n≤L.length) (.exit 0) _ d _ (by simp) ?_ K 0 (by omega) (by omega);rintro n hn1;clear hn0;subst hb;by_cases hlt:n<L.length
 ·obtain⟨z,hz⟩:∃z,L[n]? =some z:=⟨L[n],List.getElem?_eq_getElem hlt⟩
  have k1:=BI hz;have w1:IntKind.i64.wrap ((n:Int)+1)=((n+1:Nat):Int):=by rw[aj (by omega) (by omega)];omega
  left;obtain⟨v,hv⟩:∃v,v=n+1:=⟨_,rfl⟩
  rw[←hv] at w1;refine⟨v,?_⟩;simp[-aD,ai hbs,bc,aW,a8,a0,h0,h1,h12,hlt,k1,w1];omega
 ·right
  simp[h12,hlt]
theorem Lu(L:List (List UInt8)) (hl:L.length≤1000):
  ACallsTo Tryz.prog 26 [.slice 0 0 L.length none,.slice 0 0 L.length none] [.cells false 1 (stC L)] (.bool true) [.cells false 1 (stC L)]:=by
 have hG:aL Tryz.prog 26=some Tryz.f26:=by kernel_rfl
 obtain⟨b,hb⟩:∃b,ax Tryz.f26=[b]:=⟨_,rfl⟩
 obtain⟨F,hF⟩:=Cb (K:=L.length+1) L hl (by omega) hb;have hF1:=fun env0 d h1 h2 h3 h4=>(hF env0 d ⟨h1,h2,h3,h4⟩).1
 clear hF;simp[ax,aV,Tryz.f26] at hb;subst hb;refine aZ (lv:=(fun _=>[13])) (K:=(L.length+1)) (ao _) ?_;simp[aa,hG,Tryz.f26,hF1]
theorem xI(L:List (List UInt8)) (hl:L.length≤1000) (M:Mem) (b:Nat) (o:Bool) (hb:M[b]? =some (.cells o 1 (stC L))):
  ACallsTo Tryz.prog 26 [.slice b 0 L.length none,.slice b 0 L.length none] M (.bool true) M:=by
 have hlt:=(List.getElem?_eq_some_iff.1 hb).1;have:=ACallsTo.frame (M:=M) (new:=[]) [b] rfl (by simpa using hlt) (by rfl) (fun i t hs=>by
  match i with
  |0=>simp at hs;subst hs;exact bI (jn _) hb List.take_length
  |i+1=>simp at hs) rfl (Lu L hl)
 simpa [AV.rens,AV.ren,ar] using this
def RowAt(N:Mem) (v:AV) (es n:Nat) (C:List AV):Prop:=(v=.nilslice∧n=0∧C=[])∨∃b o,v=.slice b 0 n none∧0<n∧N[b]? =some (.cells o es C)
theorem RowAt.more{N:Mem}{v:AV}{es n:Nat}{C:List AV}(h:RowAt N v es n C) (Z:Mem):RowAt (N++Z) v es n C:=by
 rcases h with h | ⟨b,o,h1,h2,h3⟩
 ·exact .inl h
 ·exact .inr ⟨b,o,h1,h2,by rw[List.getElem?_append_left (List.getElem?_eq_some_iff.1 h3).1];exact h3⟩
theorem S0(f:Nat→Bool):∀l:List (List UInt8×List UInt8),AV.refsOkL f (kC l)=true
 | []=>rfl
 |k::l=>by simp[kC,AV.refsOkL,AV.refsOk,S0 f l]
def SfAt(N:Mem) (v:AV) (S:List (List (List UInt8))):Prop:=∃vs,vs.length=S.length∧RowAt N v 1 S.length vs∧∀(i:Nat) x L,vs[i]? =some x→S[i]? =some L→RowAt N x 1 L.length (stC L)
theorem SfAt.more{N:Mem}{v:AV}{S:List (List (List UInt8))}(h:SfAt N v S) (Z:Mem):SfAt (N++Z) v S:=by obtain⟨vs,h1,h2,h3⟩:=h;exact⟨vs,h1,h2.more Z,fun i x L a b=>(h3 i x L a b).more Z⟩
structure Evc.Ok (c:Evc):Prop where
 B:c.B.length≤1000
 U:c.U.length≤1000
 S:c.S.length≤2
 SL:∀L∈c.S,L.length≤1000
 K:c.K.length≤1000
def EvAt(N:Mem) (ev:List AV) (c:Evc):Prop:=∃b u s kn,ev=c.cells b u s kn∧RowAt N b 1 c.B.length (stC c.B)∧RowAt N u 1 c.U.length (stC c.U)∧SfAt N s c.S∧RowAt N kn 2 c.K.length (kC c.K)
theorem EvAt.more{N:Mem}{ev:List AV}{c:Evc}(h:EvAt N ev c) (Z:Mem):EvAt (N++Z) ev c:=by obtain⟨b,u,s,kn,h1,h2,h3,h4,h5⟩:=h;exact⟨b,u,s,kn,h1,h2.more Z,h3.more Z,h4.more Z,h5.more Z⟩
def yL(nm:List UInt8) (n:Z3) (o:Int) (s:Z3):Evc:={ k:=2,nm:=nm,x5:=zS n.1,x6:=zS n.2.1,x7:=zS n.2.2,x8:=zS o,x9:=zS s.1,x10:=zS s.2.1,x11:=zS s.2.2 }
def Au(nm:List UInt8) (n:Z3) (K:List (List UInt8×List UInt8)) (s:Z3):Evc:={ k:=3,nm:=nm,x12:=zS n.1,x13:=zS n.2.1,x14:=zS n.2.2,K:=K,x16:=zS s.1,x17:=zS s.2.1,x18:=zS s.2.2 }
def JL(nm:List UInt8) (n:Z3) (o w:Int) (u:List UInt8):Evc:={ k:=4,nm:=nm,x19:=zS n.1,x20:=zS n.2.1,x21:=zS n.2.2,x22:=zS o,x23:=ah (hQ w),x24:=u }
def JM(nm:List UInt8) (t:Int×Int×Int×Int) (c:Z3):Evc:={ k:=5,nm:=nm,t1:=t.1,t2:=t.2.1,t3:=t.2.2.1,t4:=t.2.2.2,x29:=zS c.1,x30:=zS c.2.1,x31:=zS c.2.2 }
def DD(nm:List UInt8) (B U:List (List UInt8)) (S:List (List (List UInt8))):Evc:={ k:=1,nm:=nm,B:=B,U:=U,S:=S }
theorem xb{c:Evc}(hB:c.B=[]) (hU:c.U=[]) (hS:c.S=[]) (hK:c.K.length≤1000):c.Ok:=⟨by simp[hB],by simp[hU],by simp[hS],by simp[hS],hK⟩
theorem xn(N:Mem):SfAt N .nilslice []:=⟨[],rfl,.inl ⟨rfl,rfl,rfl⟩,fun i x L h=>by simp at h⟩
theorem yS{N:Mem}{ev:List AV}{c:Evc}(h:ev=c.cells .nilslice .nilslice .nilslice .nilslice) (hB:c.B=[]) (hU:c.U=[]) (hS:c.S=[]) (hK:c.K=[]):EvAt N ev c:=
 ⟨_,_,_,_,h,.inl ⟨rfl,by simp[hB],by simp[hB,stC]⟩,.inl ⟨rfl,by simp[hU],by simp[hU,stC]⟩,by rw[hS];exact xn N,.inl ⟨rfl,by simp[hK],by simp[hK,kC]⟩⟩
theorem Da{N:Mem}{nm:List UInt8}{B U:List (List UInt8)}{S:List (List (List UInt8))}{b u:Nat}{o o2:Bool}{sv:AV}(hB:0<B.length) (hU:0<U.length) (hb:N[b]? =some (.cells o 1 (stC B))) (hu:N[u]? =some (.cells o2 1 (stC U))) (hs:SfAt N sv S):
  EvAt N (aU nm (.slice b 0 B.length none) (.slice u 0 U.length none) sv) (DD nm B U S):=⟨_,_,_,.nilslice,rfl,.inr ⟨b,o,rfl,hB,hb⟩,.inr ⟨u,o2,rfl,hU,hu⟩,hs,.inl ⟨rfl,rfl,rfl⟩⟩
theorem O2{N:Mem}{nm:List UInt8}{n s:Z3}{L:List P2}{b:Nat}{o:Bool}(hL:0<L.length) (hb:N[b]? =some (.cells o 2 (pC L))):EvAt N (bt nm n (.slice b 0 L.length none) s) (Au nm n (kT L) s):=
 ⟨.nilslice,.nilslice,.nilslice,_,rfl,.inl ⟨rfl,rfl,rfl⟩,.inl ⟨rfl,rfl,rfl⟩,xn N,.inr ⟨b,o,by show AV.slice b 0 L.length none=.slice b 0 (kT L).length none;rw[di],by show 0<(kT L).length;rw[di];exact hL,by show N[b]? =some (.cells o 2 (kC (kT L)));rw[←PN];exact hb⟩⟩
theorem Tg{N:Mem}{c r1:Nat}{o o1:Bool}{L1:List (List UInt8)}(hc:N[c]? =some (.cells o 1 [.slice r1 0 L1.length none])) (h1:N[r1]? =some (.cells o1 1 (stC L1))) (l1:0<L1.length):SfAt N (.slice c 0 1 none) [L1]:=
 ⟨_,rfl,.inr ⟨c,o,rfl,by simp,hc⟩,fun i x L hx hL=>by
  match i,hx,hL with
  |0,hx,hL=>simp at hx hL;subst hx hL;exact .inr ⟨r1,o1,rfl,l1,h1⟩
  |i+1,hx,hL=>simp at hx⟩
theorem Th{N:Mem}{c r1 r2:Nat}{o o1 o2:Bool}{L1 L2:List (List UInt8)}(hc:N[c]? =some (.cells o 1 [.slice r1 0 L1.length none,.slice r2 0 L2.length none])) (h1:N[r1]? =some (.cells o1 1 (stC L1))) (h2:N[r2]? =some (.cells o2 1 (stC L2))) (l1:0<L1.length) (l2:0<L2.length):SfAt N (.slice c 0 2 none) [L1,L2]:=
 ⟨_,rfl,.inr ⟨c,o,rfl,by simp,hc⟩,fun i x L hx hL=>by
  match i,hx,hL with
  |0,hx,hL=>simp at hx hL;subst hx hL;exact .inr ⟨r1,o1,rfl,l1,h1⟩
  |1,hx,hL=>simp at hx hL;subst hx hL;exact .inr ⟨r2,o2,rfl,l2,h2⟩
  |i+2,hx,hL=>simp at hx⟩
def hT(Z:List Int):List (List UInt8):=(qH Z).map ah
theorem cJ(Z:List Int):(hT Z).length=Z.length:=by simp[hT,qH]
theorem ur(Z:List Int):iz Z=.cells true 1 (stC (hT Z)):=by rw[iz,vp];rfl
end Go.Proofs
