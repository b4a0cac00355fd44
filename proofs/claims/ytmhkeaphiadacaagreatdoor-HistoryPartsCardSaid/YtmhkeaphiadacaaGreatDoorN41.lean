/- See N58. -/
import Derived.Test.YtmhkeaphiadacaaGreatDoorN40
import Derived.Test.YtmhkeaphiadacaaGreatDoorN11
import Derived.Test.YtmhkeaphiadacaaGreatDoorN36
import Derived.Test.YtmhkeaphiadacaaGreatDoorN08
import Derived.Test.YtmhkeaphiadacaaGreatDoorN30
set_option linter.all false
namespace Go.Proofs
open Go.Eng
def uQ(s:List UInt8):Nat→List (List UInt8)→Int
 |_,[]=> -1
 |i,x::l=>if s=x then (i:Int) else uQ s (i+1) l
theorem J1{s:List UInt8}:∀{i:Nat}{l:List (List UInt8)},uQ s i l<0↔s∉l
 |i,[]=>by simp[uQ]
 |i,x::l=>by
  unfold uQ
  by_cases h:s=x
  ·rw[if_pos h];simp[h]
  ·rw[if_neg h,J1];simp[h]
theorem No{s:List UInt8}:∀{i:Nat}{l:List (List UInt8)},-1≤uQ s i l
 |i,[]=>by unfold uQ;omega
 |i,x::l=>by
  unfold uQ
  split
  ·omega
  ·exact No
set_option maxHeartbeats 1600000 in
theorem xH{O:Oracle}{K:Nat}(L:List (List UInt8)) (s:List UInt8) (hl:L.length≤1000000000) (hK:L.length<K) {b:Code}(hb:am Tryz.f56=[b]):
  ∃F:Env→Bool→Env,∀env0 d,(ac env0 0=.slice 0 0 L.length none∧ac env0 1=.str s∧ac env0 7=.int .i64 L.length∧ac env0 8=.int .i64 0)→
   aO (az Tryz.prog) (fun _=>[8]) O K 19 1 true (.loop b) ⟨env0,[.cells false 1 (stC L)],d⟩=some (if uQ s 0 L<0 then .exit 0 else .ret,⟨F env0 d,[.cells false 1 (stC L)],d⟩)∧
    (¬uQ s 0 L<0→ac (F env0 d) 4=.int .i64 (uQ s 0 L)):=by
 refine bD rfl (fun env0=>ac env0 0=.slice 0 0 L.length none∧ac env0 1=.str s∧ac env0 7=.int .i64 L.length∧ac env0 8=.int .i64 0) (fun _ env' =>¬uQ s 0 L<0→ac env' 4=.int .i64 (uQ s 0 L)) ?_
 rintro env0 d ⟨h0,h1,h7,h8⟩
 simp[am,aJ,Tryz.f56] at hb
 have hn:ay [8] (ad b) env0 ((8,.int .i64 ((0:Nat):Int))::env0)=ay [8] (ad b) env0 env0:=by simp[ay,h8]
 rw[←hn]
 have kl:(stC L).length=L.length:=br L
 refine bR (α:=Nat) (fun n=>⟨ay [8] (ad b) env0 ((8,.int .i64 (n:Int))::env0),[.cells false 1 (stC L)],d⟩) (fun n=>L.length-n) (fun n=>n≤L.length∧uQ s 0 L=uQ s n (L.drop n)) _ _ d _ (by split<;>simp) ?_ K 0 ⟨by omega,by rw[List.drop_zero]⟩ (by omega)
 rintro n ⟨hn1,he⟩
 clear hn
 subst hb
 by_cases hlt:n<L.length
 ·obtain⟨x,hx⟩:∃x,L[n]? =some x:=⟨L[n],List.getElem?_eq_getElem hlt⟩
  have k1:∀h,(stC L)[n]'h=.str x:=fun h=>by
   have:=vd hx
   rw[List.getElem?_eq_getElem h] at this
   exact Option.some.inj this
  have hd:L.drop n=x::L.drop (n+1):=by
   rw[List.getElem?_eq_some_iff] at hx
   obtain⟨h1,h2⟩:=hx
   rw[←h2];exact List.drop_eq_getElem_cons h1
  rw[hd,uQ] at he
  have w1:IntKind.i64.wrap ((n:Int)+1)=((n+1:Nat):Int):=by rw[al (by omega) (by omega)];omega
  by_cases hs:s=x
  ·right
   rw[if_pos hs] at he
   subst hs
   have hng:¬(n:Int)<0:=by omega
   rw[he,if_neg hng]
   simp[h0,h1,h7,hlt,kl,k1]
  ·left
   rw[if_neg hs] at he
   have hb:(s==x)=false:=by simpa using hs
   refine⟨n+1,?_⟩
   refine cT (show(n+1≤L.length∧uQ s 0 L=uQ s (n+1) (L.drop (n+1)))∧L.length-(n+1)<L.length-n from⟨⟨by omega,he⟩,by omega⟩) ?_
   simp[h0,h1,h7,hlt,kl,k1,hb,w1]
 ·right
  have e:L.drop n=[]:=List.drop_of_length_le (by omega)
  rw[e,uQ] at he
  rw[he,if_pos (by decide)]
  simp[h7,hlt]
theorem CY(L:List (List UInt8)) (s:List UInt8) (hl:L.length≤1000000000):
  ACallsTo Tryz.prog 56 [.slice 0 0 L.length none,.str s] [.cells false 1 (stC L)] (.int .i64 (uQ s 0 L)) [.cells false 1 (stC L)]:=by
 have hG:aI Tryz.prog 56=some Tryz.f56:=by kernel_rfl
 obtain⟨b,hb⟩:∃b,am Tryz.f56=[b]:=⟨_,rfl⟩
 obtain⟨F,hF⟩:=xH (O:=aE) (K:=L.length+1) L s hl (by omega) hb
 simp[am,aJ,Tryz.f56] at hb
 subst hb
 have h:ab (az Tryz.prog) (fun _=>[8]) (aI Tryz.prog) aE (L.length+1) 56 [.slice 0 0 L.length none,.str s] [.cells false 1 (stC L)]=some ⟨.int .i64 (uQ s 0 L),none,[]⟩:=by
  by_cases hc:uQ s 0 L<0
  ·rw[if_pos hc] at hF
   have hF1:=fun env0 d h=>(hF env0 d h).1
   clear hF
   have h1:uQ s 0 L= -1:=by have:=No (s:=s) (i:=0) (l:=L);omega
   rw[h1]
   simp[ab,hG,Tryz.f56,hF1]
  ·rw[if_neg hc] at hF
   have hF1:=fun env0 d h=>(hF env0 d h).1
   have hF2:=fun env0 d h=>(hF env0 d h).2 hc
   clear hF
   simp[ab,hG,Tryz.f56,hF1,hF2]
 have:=(ae aa (ai _) (af _) (aj _) h).1
 simpa [CallRes.mem] using this
theorem zz(s:List UInt8) (M:Mem):ACallsTo Tryz.prog 56 [.nilslice,.str s] M (.int .i64 (-1)) M:=by
 have hG:aI Tryz.prog 56=some Tryz.f56:=by kernel_rfl
 refine aw (af _) (lv:=fun _=>[8]) (K:=1) rfl rfl ?_ M
 simp[ab,hG,Tryz.f56,aC,dS]
theorem uw{M:Mem}{x:AV}{L:List (List UInt8)}(s:List UInt8) (hl:L.length≤1000000000) (hx:sts M x=some L):ACallsTo Tryz.prog 56 [x,.str s] M (.int .i64 (uQ s 0 L)) M:=by
 rcases sN hx with h | ⟨rfl,rfl⟩
 ·exact ACallsTo.rows1R (rest:=[.str s]) (eV L) rfl rfl (CY L s hl) h
 ·exact zz s M
noncomputable def wo:Oracle:=fun c args M=>match c,args with
 |.fn 56,[x,.str s]=>match sts M x with
  |some L=>if L.length≤1000000000 then some ⟨.int .i64 (uQ s 0 L),none,[]⟩ else none
  |none=>none
 |c,args=>aE c args M
theorem KX:OracleOk Tryz.prog wo:=by
 refine cO fun c args M r h=>?_
 unfold wo at h
 split at h
 ·split at h
  ·rename_i L hL
   split at h
   ·rename_i hc
    cases h
    refine ap ?_
    rw[List.append_nil]
    exact uw _ hc hL
   ·cases h
  ·cases h
 ·exact gT (af _) h
theorem nT{M:Mem}{x:AV}{L:List (List UInt8)}(s:List UInt8) (hl:L.length≤1000000000) (hx:sts M x=some L):ACallsTo Tryz.prog 45 [x,.str s] M (.bool (decide (s∈L))) M:=by
 have hG:aI Tryz.prog 45=some Tryz.f45:=by kernel_rfl
 have hi:decide (0≤uQ s 0 L)=decide (s∈L):=by
  rw[decide_eq_decide]
  have:=J1 (s:=s) (i:=0) (l:=L)
  by_cases h:s∈L
  ·simp only[h,iff_true]
   exact Int.not_lt.1 fun e=>this.1 e h
  ·simp only[h,iff_false]
   have:=this.2 h;omega
 have h:ab (az Tryz.prog) (fun _=>[]) (aI Tryz.prog) wo 1 45 [x,.str s] M=some ⟨.bool (decide (s∈L)),none,[]⟩:=by
  rw[←hi]
  simp[ab,hG,Tryz.f45,wo,hx,hl]
 have:=(ae aa (ai _) KX (aj _) h).1
 simpa [CallRes.mem] using this
end Go.Proofs
namespace Go.Proofs
open Go.Eng
open Classical in
noncomputable def fE(L:List (FuncId×List AV×AV)) (p:Mem→Prop):Oracle:=fun c a M=>if p M then ao (cb L) c a M else none
theorem km{P:Program}{L:List (FuncId×List AV×AV)}{p:Mem→Prop}(h:∀x∈L,∀M,p M→ACallsTo P x.1 x.2.1 M x.2.2 M):OracleOk P (fE L p):=by
 have k:∀f a v,cb L f a=some v→∃x∈L,f=x.1∧a=x.2.1∧v=x.2.2:=by
  clear h
  intro f a v hv
  induction L with
  |nil=>simp[cb] at hv
  |cons x L ih=>
   rw[cb] at hv
   split at hv
   ·rename_i hc
    cases hv
    exact⟨x,by simp,hc.1,hc.2,rfl⟩
   ·obtain⟨y,hy,h1⟩:=ih hv
    exact⟨y,by simp[hy],h1⟩
 have k2:∀c a M r,fE L p c a M=some r→p M∧∃f,c=.fn f∧∃x∈L,f=x.1∧a=x.2.1∧r=⟨x.2.2,none,[]⟩:=by
  intro c a M r hr
  unfold fE at hr
  split at hr
  ·rename_i hp
   refine⟨hp,?_⟩
   unfold ao at hr
   split at hr
   ·rename_i f
    split at hr
    ·rename_i v hv
     cases hr
     obtain⟨x,hx,h1,h2,h3⟩:=k _ _ _ hv
     exact⟨f,rfl,x,hx,h1,h2,by rw[h3]⟩
    ·cases hr
   ·cases hr
  ·cases hr
 refine⟨fun f a M r hr=>?_,fun b a M r hr=>?_,fun c a M r q hr hq=>?_⟩
 ·obtain⟨hp,g,hg,x,hx,h1,rfl,rfl⟩:=k2 _ _ _ _ hr
  cases hg
  subst h1
  simpa [CallRes.mem] using h x hx M hp
 ·obtain⟨_,g,hg,_⟩:=k2 _ _ _ _ hr
  cases hg
 ·obtain⟨_,g,_,x,_,_,_,rfl⟩:=k2 _ _ _ _ hr
  cases hq
def iX(c:Code):List Nat:=if (ad c).contains 35 then [35] else [10,65]
theorem dU(M:Mem) (u k:Nat) (o:Bool) (U:List (List UInt8)) (s:List UInt8) (hu:M[u]? =some (.cells o 1 (stC U))) (hk:k≤U.length) (hl:U.length≤3) (hs:s∉U.take k):
  ACallsTo Tryz.prog 45 [.slice u 0 k none,.str s] M (.bool false) M:=by
 have h:sts M (.slice u 0 k none)=some (U.take k):=by
  have h1:(stC U).take (k*1)=stC (U.take k):=by simp[stC,List.map_take]
  unfold sts
  rw[GJ hu (by rw[br];omega) h1]
  exact zc _
 have:=nT (M:=M) s (by rw[List.length_take];omega) h
 rwa [decide_eq_false hs] at this
set_option maxHeartbeats 4000000 in
theorem CN(s:Sheet) (nm:List UInt8) (u0:List UInt8) (n0:u0∈bE)  (Z:List Int) (hZ:∀z∈Z,z.natAbs<1000) (hl:Z.length≤1000) (hn:Z.length=s.P.length) (m:Mem) (b u:Nat) (o1 o2 o3 o4:Bool)
  (hp:m[0]? =some (.cells o1 2 (pC s.P))) (hq:m[1]? =some (.cells o2 3 (tC s.T))) (hb:m[b]? =some (.cells o3 1 (qC (qH Z)))) (hu:m[u]? =some (.cells o4 1 (stC [u0]))):
  ACallsTo Tryz.prog 150 [shA s,.agg (aQ nm (.slice b 0 Z.length none) (.slice u 0 1 none) (.nilslice))] m (.int .i64 0) m:=by
 have hG:aI Tryz.prog 150=some Tryz.f150:=by kernel_rfl
 have lp:=(List.getElem?_eq_some_iff.1 hp).1
 have lq:=(List.getElem?_eq_some_iff.1 hq).1
 have lb:=(List.getElem?_eq_some_iff.1 hb).1
 have lu:=(List.getElem?_eq_some_iff.1 hu).1
 have ep:=fun ext:Mem=>(List.getElem?_append_left (l₂:=ext) lp).trans hp
 have eq:=fun ext:Mem=>(List.getElem?_append_left (l₂:=ext) lq).trans hq
 have eb:=fun ext:Mem=>(List.getElem?_append_left (l₂:=ext) lb).trans hb
 have eu:=fun ext:Mem=>(List.getElem?_append_left (l₂:=ext) lu).trans hu
 have hO1:OracleOk Tryz.prog (ao (cb [(80,[.str u0],.int .i64 0)])):=er fun e he M=>by
  simp only[List.mem_cons,List.not_mem_nil,or_false] at he
  rcases he with rfl
  exact cz _ n0 M
 have hO2:OracleOk Tryz.prog (fE [(203,[shA s,.slice b 0 Z.length none],.int .i64 0),(45,[.slice u 0 0 none,.str u0],.bool false)] (fun M=>∃ext,M=m++ext)):=km fun e he M hM=>by
  obtain⟨ext,rfl⟩:=hM
  simp only[List.mem_cons,List.not_mem_nil,or_false] at he
  rcases he with rfl | rfl
  ·exact nW s Z hZ hl hn _ b o1 o2 o3 (ep ext) (eq ext) (eb ext)
  ·exact dU _ u 0 o4 [u0] u0 (eu ext) (by simp) (by simp) (by simp)
 have hO:=OracleOk.or' hO1 hO2
 have w0:IntKind.i64.wrap 0=0:=rfl
 have w1:IntKind.i64.wrap 1=1:=rfl
 have w2:IntKind.i64.wrap 2=2:=rfl
 have w3:IntKind.i64.wrap 3=3:=rfl
 clear hO1 hO2
 have h:ab (az Tryz.prog) iX (aI Tryz.prog) (Oracle.or (ao (cb [(80,[.str u0],.int .i64 0)])) (fE [(203,[shA s,.slice b 0 Z.length none],.int .i64 0),(45,[.slice u 0 0 none,.str u0],.bool false)] (fun M=>∃ext,M=m++ext))) 5 150 [shA s,.agg (aQ nm (.slice b 0 Z.length none) (.slice u 0 1 none) (.nilslice))] m=some ⟨.int .i64 0,none,[]⟩:=by
  clear hO
  obtain⟨N,hN⟩:∃N,N=Z.length:=⟨_,rfl⟩
  simp only[←hN] at hb ⊢
  simp[ab,hG,Tryz.f150,Oracle.or,ao,cb,fE,shA,aQ,aC,dS,iX,stC,eu,w0,w1,w2,w3]
 have:=(ae aa (ai _) hO (aj _) h).1
 simpa [CallRes.mem] using this
set_option maxHeartbeats 4000000 in
theorem CO(s:Sheet) (nm:List UInt8) (u0 u1:List UInt8) (n0:u0∈bE) (n1:u1∈bE) (d01:u1≠u0) (Z:List Int) (hZ:∀z∈Z,z.natAbs<1000) (hl:Z.length≤1000) (hn:Z.length=s.P.length) (Y1:List Int) (hY1:∀z∈Y1,z.natAbs<1000) (hl1:Y1.length=s.P.length) (hle1:∀(i:Nat) z y,Z[i]? =some z→Y1[i]? =some y→z≤y) (m:Mem) (b u c r1:Nat) (o1 o2 o3 o4 o5 q1:Bool)
  (hp:m[0]? =some (.cells o1 2 (pC s.P))) (hq:m[1]? =some (.cells o2 3 (tC s.T))) (hb:m[b]? =some (.cells o3 1 (qC (qH Z)))) (hu:m[u]? =some (.cells o4 1 (stC [u0,u1]))) (hc:m[c]? =some (.cells o5 1 [.slice r1 0 Z.length none])) (hr1:m[r1]? =some (.cells q1 1 (qC (qH Y1)))):
  ACallsTo Tryz.prog 150 [shA s,.agg (aQ nm (.slice b 0 Z.length none) (.slice u 0 2 none) (.slice c 0 1 none))] m (.int .i64 0) m:=by
 have hG:aI Tryz.prog 150=some Tryz.f150:=by kernel_rfl
 have lp:=(List.getElem?_eq_some_iff.1 hp).1
 have lq:=(List.getElem?_eq_some_iff.1 hq).1
 have lb:=(List.getElem?_eq_some_iff.1 hb).1
 have lu:=(List.getElem?_eq_some_iff.1 hu).1
 have lc:=(List.getElem?_eq_some_iff.1 hc).1
 have lr1:=(List.getElem?_eq_some_iff.1 hr1).1
 have ep:=fun ext:Mem=>(List.getElem?_append_left (l₂:=ext) lp).trans hp
 have eq:=fun ext:Mem=>(List.getElem?_append_left (l₂:=ext) lq).trans hq
 have eb:=fun ext:Mem=>(List.getElem?_append_left (l₂:=ext) lb).trans hb
 have eu:=fun ext:Mem=>(List.getElem?_append_left (l₂:=ext) lu).trans hu
 have ec:=fun ext:Mem=>(List.getElem?_append_left (l₂:=ext) lc).trans hc
 have er1:=fun ext:Mem=>(List.getElem?_append_left (l₂:=ext) lr1).trans hr1
 have hO1:OracleOk Tryz.prog (ao (cb [(80,[.str u0],.int .i64 0),(80,[.str u1],.int .i64 0)])):=er fun e he M=>by
  simp only[List.mem_cons,List.not_mem_nil,or_false] at he
  rcases he with rfl | rfl
  ·exact cz _ n0 M
  ·exact cz _ n1 M
 have hO2:OracleOk Tryz.prog (fE [(203,[shA s,.slice b 0 Z.length none],.int .i64 0),(45,[.slice u 0 0 none,.str u0],.bool false),(45,[.slice u 0 1 none,.str u1],.bool false),(204,[shA s,.slice b 0 Z.length none,.slice r1 0 Z.length none],.tuple [.bool true,.int .i64 0])] (fun M=>∃ext,M=m++ext)):=km fun e he M hM=>by
  obtain⟨ext,rfl⟩:=hM
  simp only[List.mem_cons,List.not_mem_nil,or_false] at he
  rcases he with rfl | rfl | rfl | rfl
  ·exact nW s Z hZ hl hn _ b o1 o2 o3 (ep ext) (eq ext) (eb ext)
  ·exact dU _ u 0 o4 [u0,u1] u0 (eu ext) (by simp) (by simp) (by simp)
  ·exact dU _ u 1 o4 [u0,u1] u1 (eu ext) (by simp) (by simp) (by simp[d01])
  ·have:=nV s Z Y1 hZ hY1 (by omega) hn hl1 hle1 (m++ext) b r1 o1 o2 o3 q1 (ep ext) (eq ext) (eb ext) (er1 ext)
   rw[show Y1.length=Z.length by omega] at this
   exact this
 have hO:=OracleOk.or' hO1 hO2
 have w0:IntKind.i64.wrap 0=0:=rfl
 have w1:IntKind.i64.wrap 1=1:=rfl
 have w2:IntKind.i64.wrap 2=2:=rfl
 have w3:IntKind.i64.wrap 3=3:=rfl
 clear hO1 hO2
 have h:ab (az Tryz.prog) iX (aI Tryz.prog) (Oracle.or (ao (cb [(80,[.str u0],.int .i64 0),(80,[.str u1],.int .i64 0)])) (fE [(203,[shA s,.slice b 0 Z.length none],.int .i64 0),(45,[.slice u 0 0 none,.str u0],.bool false),(45,[.slice u 0 1 none,.str u1],.bool false),(204,[shA s,.slice b 0 Z.length none,.slice r1 0 Z.length none],.tuple [.bool true,.int .i64 0])] (fun M=>∃ext,M=m++ext))) 5 150 [shA s,.agg (aQ nm (.slice b 0 Z.length none) (.slice u 0 2 none) (.slice c 0 1 none))] m=some ⟨.int .i64 0,none,[]⟩:=by
  clear hO
  obtain⟨N,hN⟩:∃N,N=Z.length:=⟨_,rfl⟩
  simp only[←hN] at ec ⊢
  simp[ab,hG,Tryz.f150,Oracle.or,ao,cb,fE,shA,aQ,aC,dS,iX,stC,eu,ec,w0,w1,w2,w3]
 have:=(ae aa (ai _) hO (aj _) h).1
 simpa [CallRes.mem] using this
set_option maxHeartbeats 4000000 in
theorem CP(s:Sheet) (nm:List UInt8) (u0 u1 u2:List UInt8) (n0:u0∈bE) (n1:u1∈bE) (n2:u2∈bE) (d01:u1≠u0) (d02:u2≠u0) (d12:u2≠u1) (Z:List Int) (hZ:∀z∈Z,z.natAbs<1000) (hl:Z.length≤1000) (hn:Z.length=s.P.length) (Y1 Y2:List Int) (hY1:∀z∈Y1,z.natAbs<1000) (hl1:Y1.length=s.P.length) (hle1:∀(i:Nat) z y,Z[i]? =some z→Y1[i]? =some y→z≤y) (hY2:∀z∈Y2,z.natAbs<1000) (hl2:Y2.length=s.P.length) (hle2:∀(i:Nat) z y,Y1[i]? =some z→Y2[i]? =some y→z≤y) (m:Mem) (b u c r1 r2:Nat) (o1 o2 o3 o4 o5 q1 q2:Bool)
  (hp:m[0]? =some (.cells o1 2 (pC s.P))) (hq:m[1]? =some (.cells o2 3 (tC s.T))) (hb:m[b]? =some (.cells o3 1 (qC (qH Z)))) (hu:m[u]? =some (.cells o4 1 (stC [u0,u1,u2]))) (hc:m[c]? =some (.cells o5 1 [.slice r1 0 Z.length none,.slice r2 0 Z.length none])) (hr1:m[r1]? =some (.cells q1 1 (qC (qH Y1)))) (hr2:m[r2]? =some (.cells q2 1 (qC (qH Y2)))):
  ACallsTo Tryz.prog 150 [shA s,.agg (aQ nm (.slice b 0 Z.length none) (.slice u 0 3 none) (.slice c 0 2 none))] m (.int .i64 0) m:=by
 have hG:aI Tryz.prog 150=some Tryz.f150:=by kernel_rfl
 have lp:=(List.getElem?_eq_some_iff.1 hp).1
 have lq:=(List.getElem?_eq_some_iff.1 hq).1
 have lb:=(List.getElem?_eq_some_iff.1 hb).1
 have lu:=(List.getElem?_eq_some_iff.1 hu).1
 have lc:=(List.getElem?_eq_some_iff.1 hc).1
 have lr1:=(List.getElem?_eq_some_iff.1 hr1).1
 have lr2:=(List.getElem?_eq_some_iff.1 hr2).1
 have ep:=fun ext:Mem=>(List.getElem?_append_left (l₂:=ext) lp).trans hp
 have eq:=fun ext:Mem=>(List.getElem?_append_left (l₂:=ext) lq).trans hq
 have eb:=fun ext:Mem=>(List.getElem?_append_left (l₂:=ext) lb).trans hb
 have eu:=fun ext:Mem=>(List.getElem?_append_left (l₂:=ext) lu).trans hu
 have ec:=fun ext:Mem=>(List.getElem?_append_left (l₂:=ext) lc).trans hc
 have er1:=fun ext:Mem=>(List.getElem?_append_left (l₂:=ext) lr1).trans hr1
 have er2:=fun ext:Mem=>(List.getElem?_append_left (l₂:=ext) lr2).trans hr2
 have hO1:OracleOk Tryz.prog (ao (cb [(80,[.str u0],.int .i64 0),(80,[.str u1],.int .i64 0),(80,[.str u2],.int .i64 0)])):=er fun e he M=>by
  simp only[List.mem_cons,List.not_mem_nil,or_false] at he
  rcases he with rfl | rfl | rfl
  ·exact cz _ n0 M
  ·exact cz _ n1 M
  ·exact cz _ n2 M
 have hO2:OracleOk Tryz.prog (fE [(203,[shA s,.slice b 0 Z.length none],.int .i64 0),(45,[.slice u 0 0 none,.str u0],.bool false),(45,[.slice u 0 1 none,.str u1],.bool false),(45,[.slice u 0 2 none,.str u2],.bool false),(204,[shA s,.slice b 0 Z.length none,.slice r1 0 Z.length none],.tuple [.bool true,.int .i64 0]),(204,[shA s,.slice r1 0 Z.length none,.slice r2 0 Z.length none],.tuple [.bool true,.int .i64 0])] (fun M=>∃ext,M=m++ext)):=km fun e he M hM=>by
  obtain⟨ext,rfl⟩:=hM
  simp only[List.mem_cons,List.not_mem_nil,or_false] at he
  rcases he with rfl | rfl | rfl | rfl | rfl | rfl
  ·exact nW s Z hZ hl hn _ b o1 o2 o3 (ep ext) (eq ext) (eb ext)
  ·exact dU _ u 0 o4 [u0,u1,u2] u0 (eu ext) (by simp) (by simp) (by simp)
  ·exact dU _ u 1 o4 [u0,u1,u2] u1 (eu ext) (by simp) (by simp) (by simp[d01])
  ·exact dU _ u 2 o4 [u0,u1,u2] u2 (eu ext) (by simp) (by simp) (by simp[d02,d12])
  ·have:=nV s Z Y1 hZ hY1 (by omega) hn hl1 hle1 (m++ext) b r1 o1 o2 o3 q1 (ep ext) (eq ext) (eb ext) (er1 ext)
   rw[show Y1.length=Z.length by omega] at this
   exact this
  ·have:=nV s Y1 Y2 hY1 hY2 (by omega) hl1 hl2 hle2 (m++ext) r1 r2 o1 o2 q1 q2 (ep ext) (eq ext) (er1 ext) (er2 ext)
   rw[show Y2.length=Z.length by omega,show Y1.length=Z.length by omega] at this
   exact this
 have hO:=OracleOk.or' hO1 hO2
 have w0:IntKind.i64.wrap 0=0:=rfl
 have w1:IntKind.i64.wrap 1=1:=rfl
 have w2:IntKind.i64.wrap 2=2:=rfl
 have w3:IntKind.i64.wrap 3=3:=rfl
 clear hO1 hO2
 have h:ab (az Tryz.prog) iX (aI Tryz.prog) (Oracle.or (ao (cb [(80,[.str u0],.int .i64 0),(80,[.str u1],.int .i64 0),(80,[.str u2],.int .i64 0)])) (fE [(203,[shA s,.slice b 0 Z.length none],.int .i64 0),(45,[.slice u 0 0 none,.str u0],.bool false),(45,[.slice u 0 1 none,.str u1],.bool false),(45,[.slice u 0 2 none,.str u2],.bool false),(204,[shA s,.slice b 0 Z.length none,.slice r1 0 Z.length none],.tuple [.bool true,.int .i64 0]),(204,[shA s,.slice r1 0 Z.length none,.slice r2 0 Z.length none],.tuple [.bool true,.int .i64 0])] (fun M=>∃ext,M=m++ext))) 5 150 [shA s,.agg (aQ nm (.slice b 0 Z.length none) (.slice u 0 3 none) (.slice c 0 2 none))] m=some ⟨.int .i64 0,none,[]⟩:=by
  clear hO
  obtain⟨N,hN⟩:∃N,N=Z.length:=⟨_,rfl⟩
  simp only[←hN] at ec ⊢
  simp[ab,hG,Tryz.f150,Oracle.or,ao,cb,fE,shA,aQ,aC,dS,iX,stC,eu,ec,w0,w1,w2,w3]
 have:=(ae aa (ai _) hO (aj _) h).1
 simpa [CallRes.mem] using this
theorem vd{L:List (List UInt8)}{i:Nat}{s:List UInt8}(h:L[i]? =some s):(stC L)[i]? =some (.str s):=by simp[stC,h]
theorem ph(n:Nat):∀L:List (List UInt8),AV.refsL n (stC L)=[]
 | []=>rfl
 |q::Q=>by
  have:=ph n Q
  simp only[stC] at this
  simp[stC,AV.refsL,AV.refs,this]
theorem uo(f:Nat→Bool):∀L:List (List UInt8),AV.refsOkL f (stC L)=true
 | []=>rfl
 |q::Q=>by
  have:=uo f Q
  simp only[stC] at this
  simp[stC,AV.refsOkL,AV.refsOk,this]
theorem u7(Q:List Rat):qC Q=stC (Q.map aN):=by simp[qC,stC]
set_option maxHeartbeats 1600000 in
theorem Bz{K:Nat}(L:List (List UInt8)) (hl:L.length≤1000) (hK:L.length<K) {b:Code}(hb:am Tryz.f113=[b]):
  ∃F:Env→Bool→Env,∀env0 d,(ac env0 0=.slice 0 0 L.length none∧ac env0 1=.slice 0 0 L.length none∧ac env0 12=.int .i64 L.length∧ac env0 13=.int .i64 0)→
   aO (az Tryz.prog) (fun _=>[13]) aE K 26 1 true (.loop b) ⟨env0,[.cells false 1 (stC L)],d⟩=some (.exit 0,⟨F env0 d,[.cells false 1 (stC L)],d⟩)∧True:=by
 refine bD (L:=[13]) rfl (fun env0=>ac env0 0=.slice 0 0 L.length none∧ac env0 1=.slice 0 0 L.length none∧ac env0 12=.int .i64 L.length∧ac env0 13=.int .i64 0) (fun _ _=>True) ?_
 rintro env0 d ⟨h0,h1,h12,h13⟩
 obtain⟨os,hops⟩:∃os,aG Tryz.f113=os:=⟨_,rfl⟩
 have hbs:=aV hops (ls:=[[0,0,3,7,0,0,48,112,255]]) (by kernel_rfl)
 simp only[aG,bC,Tryz.f113,List.nil_append,List.append_nil,List.cons_append] at hops
 subst hops
 simp only[List.map_cons,List.map_nil,List.cons.injEq,and_true] at hbs
 have a0:aS [0,0,3,7,0,0,48,112,255] 8=true:=by decide
 have e:=fun d x y=>ge d x y
 simp[am,aJ,Tryz.f113] at hb
 have hn0:ay [13] (ad b) env0 ((13,.int .i64 ((0:Nat):Int))::env0)=ay [13] (ad b) env0 env0:=by simp[ay,h13]
 rw[←hn0]
 refine bR (α:=Nat) (fun n=>⟨ay [13] (ad b) env0 ((13,.int .i64 (n:Int))::env0),[.cells false 1 (stC L)],d⟩) (fun n=>L.length-n) (fun n=>n≤L.length) (.exit 0) _ d _ (by simp) ?_ K 0 (by omega) (by omega)
 rintro n hn1
 clear hn0
 subst hb
 by_cases hlt:n<L.length
 ·obtain⟨z,hz⟩:∃z,L[n]? =some z:=⟨L[n],List.getElem?_eq_getElem hlt⟩
  have k1:=vd hz
  have w1:IntKind.i64.wrap ((n:Int)+1)=((n+1:Nat):Int):=by rw[al (by omega) (by omega)];omega
  left
  obtain⟨v,hv⟩:∃v,v=n+1:=⟨_,rfl⟩
  rw[←hv] at w1
  refine⟨v,?_⟩
  simp[-aF,ax hbs,bS,bF,bM,a0,Nat.testBit,h0,h1,h12,hlt,k1,w1,e,ph,uo]
  omega
 ·right
  simp[h12,hlt]
theorem Kw(L:List (List UInt8)) (hl:L.length≤1000):
  ACallsTo Tryz.prog 113 [.slice 0 0 L.length none,.slice 0 0 L.length none] [.cells false 1 (stC L)] (.bool true) [.cells false 1 (stC L)]:=by
 have hG:aI Tryz.prog 113=some Tryz.f113:=by kernel_rfl
 obtain⟨b,hb⟩:∃b,am Tryz.f113=[b]:=⟨_,rfl⟩
 obtain⟨F,hF⟩:=Bz (K:=L.length+1) L hl (by omega) hb
 have hF1:=fun env0 d h1 h2 h3 h4=>(hF env0 d ⟨h1,h2,h3,h4⟩).1
 clear hF
 simp[am,aJ,Tryz.f113] at hb
 subst hb
 have h:ab (az Tryz.prog) (fun _=>[13]) (aI Tryz.prog) aE (L.length+1) 113 [.slice 0 0 L.length none,.slice 0 0 L.length none] [.cells false 1 (stC L)]=some ⟨.bool true,none,[]⟩:=by
  simp[ab,hG,Tryz.f113,hF1]
 have:=(ae aa (ai _) (af _) (aj _) h).1
 simpa [CallRes.mem] using this
theorem Mk(L:List (List UInt8)) (hl:L.length≤1000) (M:Mem) (b:Nat) (o:Bool) (hb:M[b]? =some (.cells o 1 (stC L))):
  ACallsTo Tryz.prog 113 [.slice b 0 L.length none,.slice b 0 L.length none] M (.bool true) M:=by
 have hlt:=(List.getElem?_eq_some_iff.1 hb).1
 have:=ACallsTo.frame (M:=M) (new:=[]) [b] rfl (by simpa using hlt) (by rfl) (fun i t hs=>by
  match i with
  |0=>simp at hs;subst hs;exact bm (eV _) hb List.take_length
  |i+1=>simp at hs) rfl (Kw L hl)
 simpa [AV.rens,AV.ren,da] using this
set_option maxHeartbeats 1600000 in
theorem BA{K:Nat}(L:List (List UInt8)) (hl:L.length≤1000) (hK:L.length<K) {b:Code}(hb:am Tryz.f32=[b]):
  ∃F:Env→Bool→Env,∀env0 d,(ac env0 0=.slice 0 0 L.length none∧ac env0 1=.slice 0 0 L.length none∧ac env0 12=.int .i64 L.length∧ac env0 13=.int .i64 0)→
   aO (az Tryz.prog) (fun _=>[13]) aE K 26 1 true (.loop b) ⟨env0,[.cells false 1 (stC L)],d⟩=some (.exit 0,⟨F env0 d,[.cells false 1 (stC L)],d⟩)∧True:=by
 refine bD (L:=[13]) rfl (fun env0=>ac env0 0=.slice 0 0 L.length none∧ac env0 1=.slice 0 0 L.length none∧ac env0 12=.int .i64 L.length∧ac env0 13=.int .i64 0) (fun _ _=>True) ?_
 rintro env0 d ⟨h0,h1,h12,h13⟩
 obtain⟨os,hops⟩:∃os,aG Tryz.f32=os:=⟨_,rfl⟩
 have hbs:=aV hops (ls:=[[0,0,3,7,0,0,48,112,255]]) (by kernel_rfl)
 simp only[aG,bC,Tryz.f32,List.nil_append,List.append_nil,List.cons_append] at hops
 subst hops
 simp only[List.map_cons,List.map_nil,List.cons.injEq,and_true] at hbs
 have a0:aS [0,0,3,7,0,0,48,112,255] 8=true:=by decide
 have e:=fun d x y=>n9 d x y
 simp[am,aJ,Tryz.f32] at hb
 have hn0:ay [13] (ad b) env0 ((13,.int .i64 ((0:Nat):Int))::env0)=ay [13] (ad b) env0 env0:=by simp[ay,h13]
 rw[←hn0]
 refine bR (α:=Nat) (fun n=>⟨ay [13] (ad b) env0 ((13,.int .i64 (n:Int))::env0),[.cells false 1 (stC L)],d⟩) (fun n=>L.length-n) (fun n=>n≤L.length) (.exit 0) _ d _ (by simp) ?_ K 0 (by omega) (by omega)
 rintro n hn1
 clear hn0
 subst hb
 by_cases hlt:n<L.length
 ·obtain⟨z,hz⟩:∃z,L[n]? =some z:=⟨L[n],List.getElem?_eq_getElem hlt⟩
  have k1:=vd hz
  have w1:IntKind.i64.wrap ((n:Int)+1)=((n+1:Nat):Int):=by rw[al (by omega) (by omega)];omega
  left
  obtain⟨v,hv⟩:∃v,v=n+1:=⟨_,rfl⟩
  rw[←hv] at w1
  refine⟨v,?_⟩
  simp[-aF,ax hbs,bS,bF,bM,a0,Nat.testBit,h0,h1,h12,hlt,k1,w1,e,ph,uo]
  omega
 ·right
  simp[h12,hlt]
theorem Kx(L:List (List UInt8)) (hl:L.length≤1000):
  ACallsTo Tryz.prog 32 [.slice 0 0 L.length none,.slice 0 0 L.length none] [.cells false 1 (stC L)] (.bool true) [.cells false 1 (stC L)]:=by
 have hG:aI Tryz.prog 32=some Tryz.f32:=by kernel_rfl
 obtain⟨b,hb⟩:∃b,am Tryz.f32=[b]:=⟨_,rfl⟩
 obtain⟨F,hF⟩:=BA (K:=L.length+1) L hl (by omega) hb
 have hF1:=fun env0 d h1 h2 h3 h4=>(hF env0 d ⟨h1,h2,h3,h4⟩).1
 clear hF
 simp[am,aJ,Tryz.f32] at hb
 subst hb
 have h:ab (az Tryz.prog) (fun _=>[13]) (aI Tryz.prog) aE (L.length+1) 32 [.slice 0 0 L.length none,.slice 0 0 L.length none] [.cells false 1 (stC L)]=some ⟨.bool true,none,[]⟩:=by
  simp[ab,hG,Tryz.f32,hF1]
 have:=(ae aa (ai _) (af _) (aj _) h).1
 simpa [CallRes.mem] using this
theorem xd(L:List (List UInt8)) (hl:L.length≤1000) (M:Mem) (b:Nat) (o:Bool) (hb:M[b]? =some (.cells o 1 (stC L))):
  ACallsTo Tryz.prog 32 [.slice b 0 L.length none,.slice b 0 L.length none] M (.bool true) M:=by
 have hlt:=(List.getElem?_eq_some_iff.1 hb).1
 have:=ACallsTo.frame (M:=M) (new:=[]) [b] rfl (by simpa using hlt) (by rfl) (fun i t hs=>by
  match i with
  |0=>simp at hs;subst hs;exact bm (eV _) hb List.take_length
  |i+1=>simp at hs) rfl (Kx L hl)
 simpa [AV.rens,AV.ren,da] using this
def RowAt(N:Mem) (v:AV) (es n:Nat) (C:List AV):Prop:=(v=.nilslice∧n=0∧C=[])∨∃b o,v=.slice b 0 n none∧0<n∧N[b]? =some (.cells o es C)
theorem RowAt.more{N:Mem}{v:AV}{es n:Nat}{C:List AV}(h:RowAt N v es n C) (Z:Mem):RowAt (N++Z) v es n C:=by
 rcases h with h | ⟨b,o,h1,h2,h3⟩
 ·exact .inl h
 ·exact .inr ⟨b,o,h1,h2,by rw[List.getElem?_append_left (List.getElem?_eq_some_iff.1 h3).1];exact h3⟩
theorem oP:∀l:List (List UInt8×List UInt8),AV.closeds (kC l)=true
 | []=>rfl
 |k::l=>by simp[kC,AV.closeds,AV.closed,oP l]
theorem Nv(f:Nat→Bool):∀l:List (List UInt8×List UInt8),AV.refsOkL f (kC l)=true
 | []=>rfl
 |k::l=>by simp[kC,AV.refsOkL,AV.refsOk,Nv f l]
set_option maxHeartbeats 1600000 in
theorem Ga{K:Nat}(L:List (List UInt8)) (hl:L.length≤1000) (hK:L.length<K) {b:Code}(hb:am Tryz.f113=[b]):
  ∃F:Env→Bool→Env,∀env0 d,(ac env0 0=.slice 0 0 L.length none∧ac env0 1=.slice 1 0 L.length none∧ac env0 12=.int .i64 L.length∧ac env0 13=.int .i64 0)→
   aO (az Tryz.prog) (fun _=>[13]) aE K 26 2 true (.loop b) ⟨env0,[.cells false 1 (stC L),.cells false 1 (stC L)],d⟩=some (.exit 0,⟨F env0 d,[.cells false 1 (stC L),.cells false 1 (stC L)],d⟩)∧True:=by
 refine bD (L:=[13]) rfl (fun env0=>ac env0 0=.slice 0 0 L.length none∧ac env0 1=.slice 1 0 L.length none∧ac env0 12=.int .i64 L.length∧ac env0 13=.int .i64 0) (fun _ _=>True) ?_
 rintro env0 d ⟨h0,h1,h12,h13⟩
 obtain⟨os,hops⟩:∃os,aG Tryz.f113=os:=⟨_,rfl⟩
 have hbs:=aV hops (ls:=[[0,0,3,7,0,0,48,112,255]]) (by kernel_rfl)
 simp only[aG,bC,Tryz.f113,List.nil_append,List.append_nil,List.cons_append] at hops
 subst hops
 simp only[List.map_cons,List.map_nil,List.cons.injEq,and_true] at hbs
 have a0:aS [0,0,3,7,0,0,48,112,255] 8=true:=by decide
 have e:=fun d=>ge d
 simp[am,aJ,Tryz.f113] at hb
 have hn0:ay [13] (ad b) env0 ((13,.int .i64 ((0:Nat):Int))::env0)=ay [13] (ad b) env0 env0:=by simp[ay,h13]
 rw[←hn0]
 refine bR (α:=Nat) (fun n=>⟨ay [13] (ad b) env0 ((13,.int .i64 (n:Int))::env0),[.cells false 1 (stC L),.cells false 1 (stC L)],d⟩) (fun n=>L.length-n) (fun n=>n≤L.length) (.exit 0) _ d _ (by simp) ?_ K 0 (by omega) (by omega)
 rintro n hn1
 clear hn0
 subst hb
 by_cases hlt:n<L.length
 ·obtain⟨z,hz⟩:∃z,L[n]? =some z:=⟨L[n],List.getElem?_eq_getElem hlt⟩
  have k1:=vd hz
  have k2:=br L
  have w1:IntKind.i64.wrap ((n:Int)+1)=((n+1:Nat):Int):=by rw[al (by omega) (by omega)];omega
  have k3:n*1+1≤(stC L).length:=by omega
  clear k2
  left
  obtain⟨v,hv⟩:∃v,v=n+1:=⟨_,rfl⟩
  rw[←hv] at w1
  refine⟨v,?_⟩
  simp[-aF,ax hbs,bS,bF,bM,a0,Nat.testBit,h0,h1,h12,hlt,k1,k3,w1,e,ph,uo]
  omega
 ·right
  simp[h12,hlt]
theorem Om(L:List (List UInt8)) (hl:L.length≤1000):
  ACallsTo Tryz.prog 113 [.slice 0 0 L.length none,.slice 1 0 L.length none] [.cells false 1 (stC L),.cells false 1 (stC L)] (.bool true) [.cells false 1 (stC L),.cells false 1 (stC L)]:=by
 have hG:aI Tryz.prog 113=some Tryz.f113:=by kernel_rfl
 obtain⟨b,hb⟩:∃b,am Tryz.f113=[b]:=⟨_,rfl⟩
 obtain⟨F,hF⟩:=Ga (K:=L.length+1) L hl (by omega) hb
 have hF1:=fun env0 d h1 h2 h3 h4=>(hF env0 d ⟨h1,h2,h3,h4⟩).1
 clear hF
 simp[am,aJ,Tryz.f113] at hb
 subst hb
 have h:ab (az Tryz.prog) (fun _=>[13]) (aI Tryz.prog) aE (L.length+1) 113 [.slice 0 0 L.length none,.slice 1 0 L.length none] [.cells false 1 (stC L),.cells false 1 (stC L)]=some ⟨.bool true,none,[]⟩:=by
  simp[ab,hG,Tryz.f113,hF1]
 have:=(ae aa (ai _) (af _) (aj _) h).1
 simpa [CallRes.mem] using this
theorem On(M:Mem):ACallsTo Tryz.prog 113 [.nilslice,.nilslice] M (.bool true) M:=by
 have hG:aI Tryz.prog 113=some Tryz.f113:=by kernel_rfl
 refine aw (af _) (lv:=fun _=>[13]) (K:=3) rfl rfl ?_ M
 simp[ab,hG,Tryz.f113,aC,dS]
theorem Qb{M:Mem}{x y:AV}{L:List (List UInt8)}(hl:L.length≤1000) (hx:RowAt M x 1 L.length (stC L)) (hy:RowAt M y 1 L.length (stC L)):ACallsTo Tryz.prog 113 [x,y] M (.bool true) M:=by
 rcases hx with⟨rfl,h1,_⟩ | ⟨b,o,rfl,hp,hb⟩
 ·rcases hy with⟨rfl,_,_⟩ | ⟨b',o',_,hp',_⟩
  ·exact On M
  ·omega
 ·rcases hy with⟨_,h1,_⟩ | ⟨b',o',rfl,_,hb'⟩
  ·omega
  ·exact ACallsTo.rows2R (rest:=[]) (eV L) (eV L) rfl rfl (Om L hl) ⟨b,o,_,rfl,hb,List.take_length⟩ ⟨b',o',_,rfl,hb',List.take_length⟩
set_option maxHeartbeats 1600000 in
theorem Gb{K:Nat}(L:List (List UInt8×List UInt8)) (hl:L.length≤1000) (hK:L.length<K) {b:Code}(hb:am Tryz.f84=[b]):
  ∃F:Env→Bool→Env,∀env0 d,(ac env0 0=.slice 0 0 L.length none∧ac env0 1=.slice 1 0 L.length none∧ac env0 12=.int .i64 L.length∧ac env0 13=.int .i64 0)→
   aO (az Tryz.prog) (fun _=>[13]) aE K 26 2 true (.loop b) ⟨env0,[.cells false 2 (kC L),.cells false 2 (kC L)],d⟩=some (.exit 0,⟨F env0 d,[.cells false 2 (kC L),.cells false 2 (kC L)],d⟩)∧True:=by
 refine bD (L:=[13]) rfl (fun env0=>ac env0 0=.slice 0 0 L.length none∧ac env0 1=.slice 1 0 L.length none∧ac env0 12=.int .i64 L.length∧ac env0 13=.int .i64 0) (fun _ _=>True) ?_
 rintro env0 d ⟨h0,h1,h12,h13⟩
 obtain⟨os,hops⟩:∃os,aG Tryz.f84=os:=⟨_,rfl⟩
 have hbs:=aV hops (ls:=[[0,0,3,7,0,0,48,112,255]]) (by kernel_rfl)
 simp only[aG,bC,Tryz.f84,List.nil_append,List.append_nil,List.cons_append] at hops
 subst hops
 simp only[List.map_cons,List.map_nil,List.cons.injEq,and_true] at hbs
 have a0:aS [0,0,3,7,0,0,48,112,255] 8=true:=by decide
 have e:=fun d=>xA d
 simp[am,aJ,Tryz.f84] at hb
 have hn0:ay [13] (ad b) env0 ((13,.int .i64 ((0:Nat):Int))::env0)=ay [13] (ad b) env0 env0:=by simp[ay,h13]
 rw[←hn0]
 refine bR (α:=Nat) (fun n=>⟨ay [13] (ad b) env0 ((13,.int .i64 (n:Int))::env0),[.cells false 2 (kC L),.cells false 2 (kC L)],d⟩) (fun n=>L.length-n) (fun n=>n≤L.length) (.exit 0) _ d _ (by simp) ?_ K 0 (by omega) (by omega)
 rintro n hn1
 clear hn0
 subst hb
 by_cases hlt:n<L.length
 ·obtain⟨z,hz⟩:∃z,L[n]? =some z:=⟨L[n],List.getElem?_eq_getElem hlt⟩
  have k1:=(Ps hz).1
  have k2:=gr L
  have w1:IntKind.i64.wrap ((n:Int)+1)=((n+1:Nat):Int):=by rw[al (by omega) (by omega)];omega
  have k3:n*2+2≤(kC L).length:=by omega
  clear k2
  left
  obtain⟨v,hv⟩:∃v,v=n+1:=⟨_,rfl⟩
  rw[←hv] at w1
  refine⟨v,?_⟩
  simp[-aF,ax hbs,bS,bF,bM,a0,Nat.testBit,h0,h1,h12,hlt,k1,k3,w1,e,qN,Nv]
  omega
 ·right
  simp[h12,hlt]
theorem Oq(L:List (List UInt8×List UInt8)) (hl:L.length≤1000):
  ACallsTo Tryz.prog 84 [.slice 0 0 L.length none,.slice 1 0 L.length none] [.cells false 2 (kC L),.cells false 2 (kC L)] (.bool true) [.cells false 2 (kC L),.cells false 2 (kC L)]:=by
 have hG:aI Tryz.prog 84=some Tryz.f84:=by kernel_rfl
 obtain⟨b,hb⟩:∃b,am Tryz.f84=[b]:=⟨_,rfl⟩
 obtain⟨F,hF⟩:=Gb (K:=L.length+1) L hl (by omega) hb
 have hF1:=fun env0 d h1 h2 h3 h4=>(hF env0 d ⟨h1,h2,h3,h4⟩).1
 clear hF
 simp[am,aJ,Tryz.f84] at hb
 subst hb
 have h:ab (az Tryz.prog) (fun _=>[13]) (aI Tryz.prog) aE (L.length+1) 84 [.slice 0 0 L.length none,.slice 1 0 L.length none] [.cells false 2 (kC L),.cells false 2 (kC L)]=some ⟨.bool true,none,[]⟩:=by
  simp[ab,hG,Tryz.f84,hF1]
 have:=(ae aa (ai _) (af _) (aj _) h).1
 simpa [CallRes.mem] using this
theorem Ot(M:Mem):ACallsTo Tryz.prog 84 [.nilslice,.nilslice] M (.bool true) M:=by
 have hG:aI Tryz.prog 84=some Tryz.f84:=by kernel_rfl
 refine aw (af _) (lv:=fun _=>[13]) (K:=3) rfl rfl ?_ M
 simp[ab,hG,Tryz.f84,aC,dS]
theorem Qc{M:Mem}{x y:AV}{L:List (List UInt8×List UInt8)}(hl:L.length≤1000) (hx:RowAt M x 2 L.length (kC L)) (hy:RowAt M y 2 L.length (kC L)):ACallsTo Tryz.prog 84 [x,y] M (.bool true) M:=by
 rcases hx with⟨rfl,h1,_⟩ | ⟨b,o,rfl,hp,hb⟩
 ·rcases hy with⟨rfl,_,_⟩ | ⟨b',o',_,hp',_⟩
  ·exact Ot M
  ·omega
 ·rcases hy with⟨_,h1,_⟩ | ⟨b',o',rfl,_,hb'⟩
  ·omega
  ·exact ACallsTo.rows2R (rest:=[]) (oP L) (oP L) rfl rfl (Oq L hl) ⟨b,o,_,rfl,hb,List.take_length⟩ ⟨b',o',_,rfl,hb',List.take_length⟩
set_option maxHeartbeats 1600000 in
theorem Ge{K:Nat}(L:List (List UInt8)) (hl:L.length≤1000) (hK:L.length<K) {b:Code}(hb:am Tryz.f32=[b]):
  ∃F:Env→Bool→Env,∀env0 d,(ac env0 0=.slice 0 0 L.length none∧ac env0 1=.slice 1 0 L.length none∧ac env0 12=.int .i64 L.length∧ac env0 13=.int .i64 0)→
   aO (az Tryz.prog) (fun _=>[13]) aE K 26 2 true (.loop b) ⟨env0,[.cells false 1 (stC L),.cells false 1 (stC L)],d⟩=some (.exit 0,⟨F env0 d,[.cells false 1 (stC L),.cells false 1 (stC L)],d⟩)∧True:=by
 refine bD (L:=[13]) rfl (fun env0=>ac env0 0=.slice 0 0 L.length none∧ac env0 1=.slice 1 0 L.length none∧ac env0 12=.int .i64 L.length∧ac env0 13=.int .i64 0) (fun _ _=>True) ?_
 rintro env0 d ⟨h0,h1,h12,h13⟩
 obtain⟨os,hops⟩:∃os,aG Tryz.f32=os:=⟨_,rfl⟩
 have hbs:=aV hops (ls:=[[0,0,3,7,0,0,48,112,255]]) (by kernel_rfl)
 simp only[aG,bC,Tryz.f32,List.nil_append,List.append_nil,List.cons_append] at hops
 subst hops
 simp only[List.map_cons,List.map_nil,List.cons.injEq,and_true] at hbs
 have a0:aS [0,0,3,7,0,0,48,112,255] 8=true:=by decide
 have e:=fun d x y=>n9 d x y
 simp[am,aJ,Tryz.f32] at hb
 have hn0:ay [13] (ad b) env0 ((13,.int .i64 ((0:Nat):Int))::env0)=ay [13] (ad b) env0 env0:=by simp[ay,h13]
 rw[←hn0]
 refine bR (α:=Nat) (fun n=>⟨ay [13] (ad b) env0 ((13,.int .i64 (n:Int))::env0),[.cells false 1 (stC L),.cells false 1 (stC L)],d⟩) (fun n=>L.length-n) (fun n=>n≤L.length) (.exit 0) _ d _ (by simp) ?_ K 0 (by omega) (by omega)
 rintro n hn1
 clear hn0
 subst hb
 by_cases hlt:n<L.length
 ·obtain⟨z,hz⟩:∃z,L[n]? =some z:=⟨L[n],List.getElem?_eq_getElem hlt⟩
  have k1:=vd hz
  have k2:=br L
  have w1:IntKind.i64.wrap ((n:Int)+1)=((n+1:Nat):Int):=by rw[al (by omega) (by omega)];omega
  have k3:n*1+1≤(stC L).length:=by omega
  clear k2
  left
  obtain⟨v,hv⟩:∃v,v=n+1:=⟨_,rfl⟩
  rw[←hv] at w1
  refine⟨v,?_⟩
  simp[-aF,ax hbs,bS,bF,bM,a0,Nat.testBit,h0,h1,h12,hlt,k1,k3,w1,e,ph,uo]
  omega
 ·right
  simp[h12,hlt]
theorem Ow(L:List (List UInt8)) (hl:L.length≤1000):
  ACallsTo Tryz.prog 32 [.slice 0 0 L.length none,.slice 1 0 L.length none] [.cells false 1 (stC L),.cells false 1 (stC L)] (.bool true) [.cells false 1 (stC L),.cells false 1 (stC L)]:=by
 have hG:aI Tryz.prog 32=some Tryz.f32:=by kernel_rfl
 obtain⟨b,hb⟩:∃b,am Tryz.f32=[b]:=⟨_,rfl⟩
 obtain⟨F,hF⟩:=Ge (K:=L.length+1) L hl (by omega) hb
 have hF1:=fun env0 d h1 h2 h3 h4=>(hF env0 d ⟨h1,h2,h3,h4⟩).1
 clear hF
 simp[am,aJ,Tryz.f32] at hb
 subst hb
 have h:ab (az Tryz.prog) (fun _=>[13]) (aI Tryz.prog) aE (L.length+1) 32 [.slice 0 0 L.length none,.slice 1 0 L.length none] [.cells false 1 (stC L),.cells false 1 (stC L)]=some ⟨.bool true,none,[]⟩:=by
  simp[ab,hG,Tryz.f32,hF1]
 have:=(ae aa (ai _) (af _) (aj _) h).1
 simpa [CallRes.mem] using this
theorem Ox(M:Mem):ACallsTo Tryz.prog 32 [.nilslice,.nilslice] M (.bool true) M:=by
 have hG:aI Tryz.prog 32=some Tryz.f32:=by kernel_rfl
 refine aw (af _) (lv:=fun _=>[13]) (K:=3) rfl rfl ?_ M
 simp[ab,hG,Tryz.f32,aC,dS]
theorem Qe{M:Mem}{x y:AV}{L:List (List UInt8)}(hl:L.length≤1000) (hx:RowAt M x 1 L.length (stC L)) (hy:RowAt M y 1 L.length (stC L)):ACallsTo Tryz.prog 32 [x,y] M (.bool true) M:=by
 rcases hx with⟨rfl,h1,_⟩ | ⟨b,o,rfl,hp,hb⟩
 ·rcases hy with⟨rfl,_,_⟩ | ⟨b',o',_,hp',_⟩
  ·exact Ox M
  ·omega
 ·rcases hy with⟨_,h1,_⟩ | ⟨b',o',rfl,_,hb'⟩
  ·omega
  ·exact ACallsTo.rows2R (rest:=[]) (eV L) (eV L) rfl rfl (Ow L hl) ⟨b,o,_,rfl,hb,List.take_length⟩ ⟨b',o',_,rfl,hb',List.take_length⟩
theorem xQ{M:Mem}{x y:AV}{L:List (List UInt8)}(hl:L.length≤1000) (hx:RowAt M x 1 L.length (stC L)) (hy:RowAt M y 1 L.length (stC L)):ACallsTo Tryz.prog 82 [x,y] M (.bool true) M:=by
 have hG:aI Tryz.prog 82=some Tryz.f82:=by kernel_rfl
 have hO:OracleOk Tryz.prog (iB 113 [x,y] (.bool true) (fun N=>N=M)):=ko fun N hN=>by
  subst hN
  exact Qb hl hx hy
 have h:ab (az Tryz.prog) (fun _=>[]) (aI Tryz.prog) (iB 113 [x,y] (.bool true) (fun N=>N=M)) 1 82 [x,y] M=some ⟨.bool true,none,[]⟩:=by
  clear hO
  simp[ab,hG,Tryz.f82,iB]
 have:=(ae aa (ai _) hO (aj _) h).1
 simpa [CallRes.mem] using this
def SfAt(N:Mem) (v:AV) (S:List (List (List UInt8))):Prop:=∃vs,vs.length=S.length∧RowAt N v 1 S.length vs∧∀(i:Nat) x L,vs[i]? =some x→S[i]? =some L→RowAt N x 1 L.length (stC L)
theorem SfAt.more{N:Mem}{v:AV}{S:List (List (List UInt8))}(h:SfAt N v S) (Z:Mem):SfAt (N++Z) v S:=by
 obtain⟨vs,h1,h2,h3⟩:=h
 exact⟨vs,h1,h2.more Z,fun i x L a b=>(h3 i x L a b).more Z⟩
noncomputable def wq(vs ws:List AV) (m:Mem):Oracle:=dR fun c a N r=>∃(i:Nat) (x y:AV),vs[i]? =some x∧ws[i]? =some y∧c=.fn 82∧a=[x,y]∧N=m∧r=⟨.bool true,none,[]⟩
theorem IY{vs ws:List AV}{m:Mem}{i:Nat}{x y:AV}(h1:vs[i]? =some x) (h2:ws[i]? =some y):wq vs ws m (.fn 82) [x,y] m=some ⟨.bool true,none,[]⟩:=
 cv ⟨i,x,y,h1,h2,rfl,rfl,rfl,rfl⟩ fun r' ⟨_,_,_,_,_,_,_,_,h⟩=>h
set_option maxHeartbeats 4000000 in
theorem Gi{m:Mem}{v w:AV}{n:Nat}{vs ws:List AV}(lv:vs.length=n) (lw:ws.length=n) (hv:RowAt m v 1 n vs) (hw:RowAt m w 1 n ws) (hl:n≤1000) {K m0:Nat}(hK:n<K) {b:Code}(hb:am Tryz.f114=[b]):
  ∃F:Env→Bool→Env,∀env0 d,(ac env0 15=v∧ac env0 1=w∧ac env0 2=.func 82 []∧ac env0 16=.int .i64 n∧ac env0 17=.int .i64 0)→
   aO (az Tryz.prog) (fun _=>[17,17,17]) (wq vs ws m) K 32 m0 true (.loop b) ⟨env0,m,d⟩=some (.exit 0,⟨F env0 d,m,d⟩)∧True:=by
 refine bD rfl (fun env0=>ac env0 15=v∧ac env0 1=w∧ac env0 2=.func 82 []∧ac env0 16=.int .i64 n∧ac env0 17=.int .i64 0) (fun _ _=>True) ?_
 rintro env0 d ⟨h15,h1,h2,h16,h17⟩
 simp[am,aJ,Tryz.f114] at hb
 have hn:ay [17,17,17] (ad b) env0 ((17,.int .i64 ((0:Nat):Int))::env0)=ay [17,17,17] (ad b) env0 env0:=by simp[ay,h17]
 rw[←hn]
 refine bR (α:=Nat) (fun i=>⟨ay [17,17,17] (ad b) env0 ((17,.int .i64 (i:Int))::env0),m,d⟩) (fun i=>n-i) (fun i=>i≤n) (.exit 0) _ d _ (by simp) ?_ K 0 (by omega) (by omega)
 rintro i hi
 clear hn
 by_cases hlt:i<n
 ·obtain⟨x,hx⟩:∃x,vs[i]? =some x:=⟨_,List.getElem?_eq_getElem (by omega)⟩
  obtain⟨y,hy⟩:∃y,ws[i]? =some y:=⟨_,List.getElem?_eq_getElem (by omega)⟩
  have w1:IntKind.i64.wrap ((i:Int)+1)=((i+1:Nat):Int):=by rw[al (by omega) (by omega)];omega
  have ho:=IY (m:=m) hx hy
  have xl:=(List.getElem?_eq_some_iff.1 hx).1
  have yl:=(List.getElem?_eq_some_iff.1 hy).1
  have hx' :∀h,vs[i]'h=x:=fun h=>by rw[List.getElem?_eq_getElem h] at hx;exact Option.some.inj hx
  have hy' :∀h,ws[i]'h=y:=fun h=>by rw[List.getElem?_eq_getElem h] at hy;exact Option.some.inj hy
  rcases hv with⟨_,h,_⟩ | ⟨b1,o1,rfl,_,e1⟩
  ·omega
  rcases hw with⟨_,h,_⟩ | ⟨b2,o2,rfl,_,e2⟩
  ·omega
  left
  refine⟨i+1,?_⟩
  refine cT (show i+1≤n∧n-(i+1)<n-i from⟨by omega,by omega⟩) ?_
  subst hb
  simp[h15,h1,h2,h16,hlt,e1,e2,hx,hy,hx',hy',xl,yl,ho,w1]
 ·right
  subst hb
  simp[h16,hlt]
theorem Oo{m:Mem}{v w:AV}{S:List (List (List UInt8))}(hv:SfAt m v S) (hw:SfAt m w S) (hl:S.length≤1000) (hS:∀L∈S,L.length≤1000):
  ACallsTo Tryz.prog 114 [v,w,.func 82 []] m (.bool true) m:=by
 have hG:aI Tryz.prog 114=some Tryz.f114:=by kernel_rfl
 obtain⟨vs,l1,r1,c1⟩:=hv
 obtain⟨ws,l2,r2,c2⟩:=hw
 have hO:OracleOk Tryz.prog (wq vs ws m):=kH fun c a N r hr=>by
  obtain⟨i,x,y,hx,hy,rfl,rfl,rfl,rfl⟩:=hr
  have hlt:=(List.getElem?_eq_some_iff.1 hx).1
  obtain⟨L,hL⟩:∃L,S[i]? =some L:=⟨_,List.getElem?_eq_getElem (by omega)⟩
  exact ap (by simpa using xQ (hS L (List.mem_of_getElem? hL)) (c1 i x L hx hL) (c2 i y L hy hL))
 obtain⟨b,hb⟩:∃b,am Tryz.f114=[b]:=⟨_,rfl⟩
 obtain⟨F,hF⟩:=Gi (m0:=m.length) (K:=S.length+1) l1 l2 r1 r2 hl (by omega) hb
 have hF1:=fun env0 d h=>(hF env0 d h).1
 clear hF
 simp[am,aJ,Tryz.f114] at hb
 subst hb
 have hlv:∀N',gI (az Tryz.prog) 46 N' v=some (.int .i64 S.length):=fun N' =>by
  rcases r1 with⟨rfl,h,_⟩ | ⟨b,o,rfl,_⟩
  ·rw[h];simp
  ·simp
 have hlw:∀N',gI (az Tryz.prog) 46 N' w=some (.int .i64 S.length):=fun N' =>by
  rcases r2 with⟨rfl,h,_⟩ | ⟨b,o,rfl,_⟩
  ·rw[h];simp
  ·simp
 have h:ab (az Tryz.prog) (fun _=>[17,17,17]) (aI Tryz.prog) (wq vs ws m) (S.length+1) 114 [v,w,.func 82 []] m=some ⟨.bool true,none,[]⟩:=by
  clear hO
  simp[-gI,hlv,hlw,ab,hG,Tryz.f114,hF1]
 have:=(ae aa (ai _) hO (aj _) h).1
 simpa [CallRes.mem] using this
theorem Ll{m:Mem}{v w:AV}{S:List (List (List UInt8))}(hv:SfAt m v S) (hw:SfAt m w S) (hl:S.length≤1000) (hS:∀L∈S,L.length≤1000):ACallsTo Tryz.prog 83 [v,w] m (.bool true) m:=by
 have hG:aI Tryz.prog 83=some Tryz.f83:=by kernel_rfl
 have hO:OracleOk Tryz.prog (iB 114 [v,w,.func 82 []] (.bool true) (fun N=>N=m)):=ko fun N hN=>by
  subst hN
  exact Oo hv hw hl hS
 have h:ab (az Tryz.prog) (fun _=>[]) (aI Tryz.prog) (iB 114 [v,w,.func 82 []] (.bool true) (fun N=>N=m)) 1 83 [v,w] m=some ⟨.bool true,none,[]⟩:=by
  clear hO
  simp[ab,hG,Tryz.f83,iB]
 have:=(ae aa (ai _) hO (aj _) h).1
 simpa [CallRes.mem] using this
structure Evc.Ok (c:Evc):Prop where
 B:c.B.length≤1000
 U:c.U.length≤1000
 S:c.S.length≤2
 SL:∀L∈c.S,L.length≤1000
 K:c.K.length≤1000
def EvAt(N:Mem) (ev:List AV) (c:Evc):Prop:=∃b u s kn,ev=c.cells b u s kn∧RowAt N b 1 c.B.length (stC c.B)∧RowAt N u 1 c.U.length (stC c.U)∧SfAt N s c.S∧RowAt N kn 2 c.K.length (kC c.K)
theorem EvAt.more{N:Mem}{ev:List AV}{c:Evc}(h:EvAt N ev c) (Z:Mem):EvAt (N++Z) ev c:=by
 obtain⟨b,u,s,kn,h1,h2,h3,h4,h5⟩:=h
 exact⟨b,u,s,kn,h1,h2.more Z,h3.more Z,h4.more Z,h5.more Z⟩
def rz(b b' u u' s s' kn kn' :AV) (m:Mem) (c:Go.Eng.Callee) (a:List AV) (N:Mem) (r:CallRes):Prop:=(∃Z,N=m++Z)∧((c=.fn 82∧a=[b,b'])∨(c=.fn 32∧a=[u,u'])∨(c=.fn 83∧a=[s,s'])∨(c=.fn 84∧a=[kn,kn']))∧r=⟨.bool true,none,[]⟩
theorem Ku{m:Mem}{e e' :List AV}{c:Evc}(hc:c.Ok) (h:EvAt m e c) (h' :EvAt m e' c):ACallsTo Tryz.prog 49 [.agg e,.agg e'] m (.bool true) m:=by
 obtain⟨b,u,s,kn,rfl,h1,h2,h3,h4⟩:=h
 obtain⟨b',u',s',kn',rfl,k1,k2,k3,k4⟩:=h'
 have hO:OracleOk Tryz.prog (dR (rz b b' u u' s s' kn kn' m)):=kH fun f a N r hr=>by
  obtain⟨⟨Z,rfl⟩,hr,rfl⟩:=hr
  rcases hr with⟨rfl,rfl⟩ | ⟨rfl,rfl⟩ | ⟨rfl,rfl⟩ | ⟨rfl,rfl⟩
  ·exact ap (by simpa using xQ hc.B (h1.more Z) (k1.more Z))
  ·exact ap (by simpa using Qe hc.U (h2.more Z) (k2.more Z))
  ·exact ap (by simpa using Ll (h3.more Z) (k3.more Z) (by have:=hc.S;omega) hc.SL)
  ·exact ap (by simpa using Qc hc.K (h4.more Z) (k4.more Z))
 exact Kv hO (cv (S:=rz b b' u u' s s' kn kn' m) ⟨⟨_,rfl⟩,.inl ⟨rfl,rfl⟩,rfl⟩ fun r' h=>h.2.2) (cv (S:=rz b b' u u' s s' kn kn' m) ⟨⟨_,rfl⟩,.inr (.inl ⟨rfl,rfl⟩),rfl⟩ fun r' h=>h.2.2)
  (cv (S:=rz b b' u u' s s' kn kn' m) ⟨⟨_,rfl⟩,.inr (.inr (.inl ⟨rfl,rfl⟩)),rfl⟩ fun r' h=>h.2.2) (cv (S:=rz b b' u u' s s' kn kn' m) ⟨⟨_,rfl⟩,.inr (.inr (.inr ⟨rfl,rfl⟩)),rfl⟩ fun r' h=>h.2.2)
def JV(nm:List UInt8) (n:Z3) (o:Int) (s:Z3):Evc:={ k:=2,nm:=nm,x5:=zS n.1,x6:=zS n.2.1,x7:=zS n.2.2,x8:=zS o,x9:=zS s.1,x10:=zS s.2.1,x11:=zS s.2.2 }
def Pc(nm:List UInt8) (n:Z3) (K:List (List UInt8×List UInt8)) (s:Z3):Evc:={ k:=3,nm:=nm,x12:=zS n.1,x13:=zS n.2.1,x14:=zS n.2.2,K:=K,x16:=zS s.1,x17:=zS s.2.1,x18:=zS s.2.2 }
def Pb(nm:List UInt8) (n:Z3) (o w:Int) (u:List UInt8):Evc:={ k:=4,nm:=nm,x19:=zS n.1,x20:=zS n.2.1,x21:=zS n.2.2,x22:=zS o,x23:=aN (hQ w),x24:=u }
def Pd(nm:List UInt8) (t:Int×Int×Int×Int) (c:Z3):Evc:={ k:=5,nm:=nm,t1:=t.1,t2:=t.2.1,t3:=t.2.2.1,t4:=t.2.2.2,x29:=zS c.1,x30:=zS c.2.1,x31:=zS c.2.2 }
def LC(nm:List UInt8) (B U:List (List UInt8)) (S:List (List (List UInt8))):Evc:={ k:=1,nm:=nm,B:=B,U:=U,S:=S }
theorem wA{c:Evc}(hB:c.B=[]) (hU:c.U=[]) (hS:c.S=[]) (hK:c.K.length≤1000):c.Ok:=⟨by simp[hB],by simp[hU],by simp[hS],by simp[hS],hK⟩
theorem wL(N:Mem):SfAt N .nilslice []:=⟨[],rfl,.inl ⟨rfl,rfl,rfl⟩,fun i x L h=>by simp at h⟩
theorem yr{N:Mem}{ev:List AV}{c:Evc}(h:ev=c.cells .nilslice .nilslice .nilslice .nilslice) (hB:c.B=[]) (hU:c.U=[]) (hS:c.S=[]) (hK:c.K=[]):EvAt N ev c:=
 ⟨_,_,_,_,h,.inl ⟨rfl,by simp[hB],by simp[hB,stC]⟩,.inl ⟨rfl,by simp[hU],by simp[hU,stC]⟩,by rw[hS];exact wL N,.inl ⟨rfl,by simp[hK],by simp[hK,kC]⟩⟩
theorem Cq{N:Mem}{nm:List UInt8}{B U:List (List UInt8)}{S:List (List (List UInt8))}{b u:Nat}{o o2:Bool}{sv:AV}(hB:0<B.length) (hU:0<U.length) (hb:N[b]? =some (.cells o 1 (stC B))) (hu:N[u]? =some (.cells o2 1 (stC U))) (hs:SfAt N sv S):
  EvAt N (aQ nm (.slice b 0 B.length none) (.slice u 0 U.length none) sv) (LC nm B U S):=⟨_,_,_,.nilslice,rfl,.inr ⟨b,o,rfl,hB,hb⟩,.inr ⟨u,o2,rfl,hU,hu⟩,hs,.inl ⟨rfl,rfl,rfl⟩⟩
theorem Ng{N:Mem}{nm:List UInt8}{n s:Z3}{L:List P2}{b:Nat}{o:Bool}(hL:0<L.length) (hb:N[b]? =some (.cells o 2 (pC L))):EvAt N (bq nm n (.slice b 0 L.length none) s) (Pc nm n (kT L) s):=
 ⟨.nilslice,.nilslice,.nilslice,_,rfl,.inl ⟨rfl,rfl,rfl⟩,.inl ⟨rfl,rfl,rfl⟩,wL N,.inr ⟨b,o,by show AV.slice b 0 L.length none=.slice b 0 (kT L).length none;rw[iD],by show 0<(kT L).length;rw[iD];exact hL,by show N[b]? =some (.cells o 2 (kC (kT L)));rw[←Hh];exact hb⟩⟩
theorem Q6{N:Mem}{c r1:Nat}{o o1:Bool}{L1:List (List UInt8)}(hc:N[c]? =some (.cells o 1 [.slice r1 0 L1.length none])) (h1:N[r1]? =some (.cells o1 1 (stC L1))) (l1:0<L1.length):SfAt N (.slice c 0 1 none) [L1]:=
 ⟨_,rfl,.inr ⟨c,o,rfl,by simp,hc⟩,fun i x L hx hL=>by
  match i,hx,hL with
  |0,hx,hL=>simp at hx hL;subst hx hL;exact .inr ⟨r1,o1,rfl,l1,h1⟩
  |i+1,hx,hL=>simp at hx⟩
theorem Q7{N:Mem}{c r1 r2:Nat}{o o1 o2:Bool}{L1 L2:List (List UInt8)}(hc:N[c]? =some (.cells o 1 [.slice r1 0 L1.length none,.slice r2 0 L2.length none])) (h1:N[r1]? =some (.cells o1 1 (stC L1))) (h2:N[r2]? =some (.cells o2 1 (stC L2))) (l1:0<L1.length) (l2:0<L2.length):SfAt N (.slice c 0 2 none) [L1,L2]:=
 ⟨_,rfl,.inr ⟨c,o,rfl,by simp,hc⟩,fun i x L hx hL=>by
  match i,hx,hL with
  |0,hx,hL=>simp at hx hL;subst hx hL;exact .inr ⟨r1,o1,rfl,l1,h1⟩
  |1,hx,hL=>simp at hx hL;subst hx hL;exact .inr ⟨r2,o2,rfl,l2,h2⟩
  |i+2,hx,hL=>simp at hx⟩
def hT(Z:List Int):List (List UInt8):=(qH Z).map aN
theorem cV(Z:List Int):(hT Z).length=Z.length:=by simp[hT,qH]
theorem t7(Z:List Int):ib Z=.cells true 1 (stC (hT Z)):=by rw[ib,u7];rfl
end Go.Proofs
