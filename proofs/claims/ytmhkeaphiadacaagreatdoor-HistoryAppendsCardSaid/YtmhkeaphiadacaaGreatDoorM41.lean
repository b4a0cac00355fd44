/- See M58. -/
import Derived.Test.YtmhkeaphiadacaaGreatDoorM40
import Derived.Test.YtmhkeaphiadacaaGreatDoorM11
import Derived.Test.YtmhkeaphiadacaaGreatDoorM36
import Derived.Test.YtmhkeaphiadacaaGreatDoorM08
import Derived.Test.YtmhkeaphiadacaaGreatDoorM30
set_option linter.all false
namespace Go.Proofs
open Go.Eng
def ue(s:List UInt8):Nat→List (List UInt8)→Int
 |_,[]=> -1
 |i,x::l=>if s=x then (i:Int) else ue s (i+1) l
theorem Jj{s:List UInt8}:∀{i:Nat}{l:List (List UInt8)},ue s i l<0↔s∉l
 |i,[]=>by simp[ue]
 |i,x::l=>by
  unfold ue
  by_cases h:s=x
  ·rw[if_pos h];simp[h]
  ·rw[if_neg h,Jj];simp[h]
theorem Nb{s:List UInt8}:∀{i:Nat}{l:List (List UInt8)},-1≤ue s i l
 |i,[]=>by unfold ue;omega
 |i,x::l=>by
  unfold ue
  split
  ·omega
  ·exact Nb
set_option maxHeartbeats 1600000 in
theorem wt{O:Oracle}{K:Nat}(L:List (List UInt8)) (s:List UInt8) (hl:L.length≤1000000000) (hK:L.length<K) {b:Code}(hb:am Tryz.f56=[b]):
  ∃F:Env→Bool→Env,∀env0 d,(ac env0 0=.slice 0 0 L.length none∧ac env0 1=.str s∧ac env0 7=.int .i64 L.length∧ac env0 8=.int .i64 0)→
   aH (aA Tryz.prog) (fun _=>[8]) O K 19 1 true (.loop b) ⟨env0,[.cells false 1 (stC L)],d⟩=some (if ue s 0 L<0 then .exit 0 else .ret,⟨F env0 d,[.cells false 1 (stC L)],d⟩)∧
    (¬ue s 0 L<0→ac (F env0 d) 4=.int .i64 (ue s 0 L)):=by
 refine bo rfl (fun env0=>ac env0 0=.slice 0 0 L.length none∧ac env0 1=.str s∧ac env0 7=.int .i64 L.length∧ac env0 8=.int .i64 0) (fun _ env' =>¬ue s 0 L<0→ac env' 4=.int .i64 (ue s 0 L)) ?_
 rintro env0 d ⟨h0,h1,h7,h8⟩
 simp[am,aB,Tryz.f56] at hb
 have hn:aw [8] (ab b) env0 ((8,.int .i64 ((0:Nat):Int))::env0)=aw [8] (ab b) env0 env0:=by simp[aw,h8]
 rw[←hn]
 have kl:(stC L).length=L.length:=bh L
 refine bD (α:=Nat) (fun n=>⟨aw [8] (ab b) env0 ((8,.int .i64 (n:Int))::env0),[.cells false 1 (stC L)],d⟩) (fun n=>L.length-n) (fun n=>n≤L.length∧ue s 0 L=ue s n (L.drop n)) _ _ d _ (by split<;>simp) ?_ K 0 ⟨by omega,by rw[List.drop_zero]⟩ (by omega)
 rintro n ⟨hn1,he⟩
 clear hn
 subst hb
 by_cases hlt:n<L.length
 ·obtain⟨x,hx⟩:∃x,L[n]? =some x:=⟨L[n],List.getElem?_eq_getElem hlt⟩
  have k1:∀h,(stC L)[n]'h=.str x:=fun h=>by
   have:=pO hx
   rw[List.getElem?_eq_getElem h] at this
   exact Option.some.inj this
  have hd:L.drop n=x::L.drop (n+1):=by
   rw[List.getElem?_eq_some_iff] at hx
   obtain⟨h1,h2⟩:=hx
   rw[←h2];exact List.drop_eq_getElem_cons h1
  rw[hd,ue] at he
  have w1:IntKind.i64.wrap ((n:Int)+1)=((n+1:Nat):Int):=by rw[ai (by omega) (by omega)];omega
  by_cases hs:s=x
  ·right
   rw[if_pos hs] at he
   subst hs
   have hng:¬(n:Int)<0:=by omega
   rw[he,if_neg hng]
   simp[h0,h1,h7,hlt,kl,k1]
  ·left
   rw[if_neg hs] at he
   have hb:(s==x)=false:=by simpa using hs
   refine⟨n+1,?_⟩
   refine bQ (show(n+1≤L.length∧ue s 0 L=ue s (n+1) (L.drop (n+1)))∧L.length-(n+1)<L.length-n from⟨⟨by omega,he⟩,by omega⟩) ?_
   simp[h0,h1,h7,hlt,kl,k1,hb,w1]
 ·right
  have e:L.drop n=[]:=List.drop_of_length_le (by omega)
  rw[e,ue] at he
  rw[he,if_pos (by decide)]
  simp[h7,hlt]
theorem Dl(L:List (List UInt8)) (s:List UInt8) (hl:L.length≤1000000000):
  ACallsTo Tryz.prog 56 [.slice 0 0 L.length none,.str s] [.cells false 1 (stC L)] (.int .i64 (ue s 0 L)) [.cells false 1 (stC L)]:=by
 have hG:aF Tryz.prog 56=some Tryz.f56:=by kernel_rfl
 obtain⟨b,hb⟩:∃b,am Tryz.f56=[b]:=⟨_,rfl⟩
 obtain⟨F,hF⟩:=wt (O:=aD) (K:=L.length+1) L s hl (by omega) hb
 simp[am,aB,Tryz.f56] at hb
 subst hb
 have h:ad (aA Tryz.prog) (fun _=>[8]) (aF Tryz.prog) aD (L.length+1) 56 [.slice 0 0 L.length none,.str s] [.cells false 1 (stC L)]=some ⟨.int .i64 (ue s 0 L),none,[]⟩:=by
  by_cases hc:ue s 0 L<0
  ·rw[if_pos hc] at hF
   have hF1:=fun env0 d h=>(hF env0 d h).1
   clear hF
   have h1:ue s 0 L= -1:=by have:=Nb (s:=s) (i:=0) (l:=L);omega
   rw[h1]
   simp[ad,hG,Tryz.f56,hF1]
  ·rw[if_neg hc] at hF
   have hF1:=fun env0 d h=>(hF env0 d h).1
   have hF2:=fun env0 d h=>(hF env0 d h).2 hc
   clear hF
   simp[ad,hG,Tryz.f56,hF1,hF2]
 have:=(ae aa (aj _) (af _) (al _) h).1
 simpa [CallRes.mem] using this
theorem zg(s:List UInt8) (M:Mem):ACallsTo Tryz.prog 56 [.nilslice,.str s] M (.int .i64 (-1)) M:=by
 have hG:aF Tryz.prog 56=some Tryz.f56:=by kernel_rfl
 refine aq (af _) (lv:=fun _=>[8]) (K:=1) rfl rfl ?_ M
 simp[ad,hG,Tryz.f56,ay,dN]
theorem uL{M:Mem}{x:AV}{L:List (List UInt8)}(s:List UInt8) (hl:L.length≤1000000000) (hx:sts M x=some L):ACallsTo Tryz.prog 56 [x,.str s] M (.int .i64 (ue s 0 L)) M:=by
 rcases mZ hx with h | ⟨rfl,rfl⟩
 ·exact ACallsTo.rows1R (rest:=[.str s]) (eG L) rfl rfl (Dl L s hl) h
 ·exact zg s M
noncomputable def vD:Oracle:=fun c args M=>match c,args with
 |.fn 56,[x,.str s]=>match sts M x with
  |some L=>if L.length≤1000000000 then some ⟨.int .i64 (ue s 0 L),none,[]⟩ else none
  |none=>none
 |c,args=>aD c args M
theorem LA:OracleOk Tryz.prog vD:=by
 refine cH fun c args M r h=>?_
 unfold vD at h
 split at h
 ·split at h
  ·rename_i L hL
   split at h
   ·rename_i hc
    cases h
    refine au ?_
    rw[List.append_nil]
    exact uL _ hc hL
   ·cases h
  ·cases h
 ·exact gJ (af _) h
theorem nF{M:Mem}{x:AV}{L:List (List UInt8)}(s:List UInt8) (hl:L.length≤1000000000) (hx:sts M x=some L):ACallsTo Tryz.prog 45 [x,.str s] M (.bool (decide (s∈L))) M:=by
 have hG:aF Tryz.prog 45=some Tryz.f45:=by kernel_rfl
 have hi:decide (0≤ue s 0 L)=decide (s∈L):=by
  rw[decide_eq_decide]
  have:=Jj (s:=s) (i:=0) (l:=L)
  by_cases h:s∈L
  ·simp only[h,iff_true]
   exact Int.not_lt.1 fun e=>this.1 e h
  ·simp only[h,iff_false]
   have:=this.2 h;omega
 have h:ad (aA Tryz.prog) (fun _=>[]) (aF Tryz.prog) vD 1 45 [x,.str s] M=some ⟨.bool (decide (s∈L)),none,[]⟩:=by
  rw[←hi]
  simp[ad,hG,Tryz.f45,vD,hx,hl]
 have:=(ae aa (aj _) LA (al _) h).1
 simpa [CallRes.mem] using this
end Go.Proofs
namespace Go.Proofs
open Go.Eng
open Classical in
noncomputable def fz(L:List (FuncId×List AV×AV)) (p:Mem→Prop):Oracle:=fun c a M=>if p M then ao (bU L) c a M else none
theorem ka{P:Program}{L:List (FuncId×List AV×AV)}{p:Mem→Prop}(h:∀x∈L,∀M,p M→ACallsTo P x.1 x.2.1 M x.2.2 M):OracleOk P (fz L p):=by
 have k:∀f a v,bU L f a=some v→∃x∈L,f=x.1∧a=x.2.1∧v=x.2.2:=by
  clear h
  intro f a v hv
  induction L with
  |nil=>simp[bU] at hv
  |cons x L ih=>
   rw[bU] at hv
   split at hv
   ·rename_i hc
    cases hv
    exact⟨x,by simp,hc.1,hc.2,rfl⟩
   ·obtain⟨y,hy,h1⟩:=ih hv
    exact⟨y,by simp[hy],h1⟩
 have k2:∀c a M r,fz L p c a M=some r→p M∧∃f,c=.fn f∧∃x∈L,f=x.1∧a=x.2.1∧r=⟨x.2.2,none,[]⟩:=by
  intro c a M r hr
  unfold fz at hr
  split at hr
  ·rename_i hp
   refine⟨hp,?_⟩
   unfold ao at hr
   split at hr
   ·rename_i f
    split at hr
    ·rename_i v hv
     cases hr
     obtain⟨x,hx,h1,h2,h3⟩:=k _ _ _ hv
     exact⟨f,rfl,x,hx,h1,h2,by rw[h3]⟩
    ·cases hr
   ·cases hr
  ·cases hr
 refine⟨fun f a M r hr=>?_,fun b a M r hr=>?_,fun c a M r q hr hq=>?_⟩
 ·obtain⟨hp,g,hg,x,hx,h1,rfl,rfl⟩:=k2 _ _ _ _ hr
  cases hg
  subst h1
  simpa [CallRes.mem] using h x hx M hp
 ·obtain⟨_,g,hg,_⟩:=k2 _ _ _ _ hr
  cases hg
 ·obtain⟨_,g,_,x,_,_,_,rfl⟩:=k2 _ _ _ _ hr
  cases hq
def iM(c:Code):List Nat:=if (ab c).contains 35 then [35] else [10,65]
theorem dR(M:Mem) (u k:Nat) (o:Bool) (U:List (List UInt8)) (s:List UInt8) (hu:M[u]? =some (.cells o 1 (stC U))) (hk:k≤U.length) (hl:U.length≤3) (hs:s∉U.take k):
  ACallsTo Tryz.prog 45 [.slice u 0 k none,.str s] M (.bool false) M:=by
 have h:sts M (.slice u 0 k none)=some (U.take k):=by
  have h1:(stC U).take (k*1)=stC (U.take k):=by simp[stC,List.map_take]
  unfold sts
  rw[Gc hu (by rw[bh];omega) h1]
  exact xr _
 have:=nF (M:=M) s (by rw[List.length_take];omega) h
 rwa [decide_eq_false hs] at this
set_option maxHeartbeats 4000000 in
theorem C7(s:Sheet) (nm:List UInt8) (u0:List UInt8) (n0:u0∈bu)  (Z:List Int) (hZ:∀z∈Z,z.natAbs<1000) (hl:Z.length≤1000) (hn:Z.length=s.P.length) (m:Mem) (b u:Nat) (o1 o2 o3 o4:Bool)
  (hp:m[0]? =some (.cells o1 2 (pC s.P))) (hq:m[1]? =some (.cells o2 3 (tC s.T))) (hb:m[b]? =some (.cells o3 1 (qC (qH Z)))) (hu:m[u]? =some (.cells o4 1 (stC [u0]))):
  ACallsTo Tryz.prog 150 [shA s,.agg (aL nm (.slice b 0 Z.length none) (.slice u 0 1 none) (.nilslice))] m (.int .i64 0) m:=by
 have hG:aF Tryz.prog 150=some Tryz.f150:=by kernel_rfl
 have lp:=(List.getElem?_eq_some_iff.1 hp).1
 have lq:=(List.getElem?_eq_some_iff.1 hq).1
 have lb:=(List.getElem?_eq_some_iff.1 hb).1
 have lu:=(List.getElem?_eq_some_iff.1 hu).1
 have ep:=fun ext:Mem=>(List.getElem?_append_left (l₂:=ext) lp).trans hp
 have eq:=fun ext:Mem=>(List.getElem?_append_left (l₂:=ext) lq).trans hq
 have eb:=fun ext:Mem=>(List.getElem?_append_left (l₂:=ext) lb).trans hb
 have eu:=fun ext:Mem=>(List.getElem?_append_left (l₂:=ext) lu).trans hu
 have hO1:OracleOk Tryz.prog (ao (bU [(80,[.str u0],.int .i64 0)])):=ee fun e he M=>by
  simp only[List.mem_cons,List.not_mem_nil,or_false] at he
  rcases he with rfl
  exact cw _ n0 M
 have hO2:OracleOk Tryz.prog (fz [(203,[shA s,.slice b 0 Z.length none],.int .i64 0),(45,[.slice u 0 0 none,.str u0],.bool false)] (fun M=>∃ext,M=m++ext)):=ka fun e he M hM=>by
  obtain⟨ext,rfl⟩:=hM
  simp only[List.mem_cons,List.not_mem_nil,or_false] at he
  rcases he with rfl | rfl
  ·exact nG s Z hZ hl hn _ b o1 o2 o3 (ep ext) (eq ext) (eb ext)
  ·exact dR _ u 0 o4 [u0] u0 (eu ext) (by simp) (by simp) (by simp)
 have hO:=OracleOk.or' hO1 hO2
 have w0:IntKind.i64.wrap 0=0:=rfl
 have w1:IntKind.i64.wrap 1=1:=rfl
 have w2:IntKind.i64.wrap 2=2:=rfl
 have w3:IntKind.i64.wrap 3=3:=rfl
 clear hO1 hO2
 have h:ad (aA Tryz.prog) iM (aF Tryz.prog) (Oracle.or (ao (bU [(80,[.str u0],.int .i64 0)])) (fz [(203,[shA s,.slice b 0 Z.length none],.int .i64 0),(45,[.slice u 0 0 none,.str u0],.bool false)] (fun M=>∃ext,M=m++ext))) 5 150 [shA s,.agg (aL nm (.slice b 0 Z.length none) (.slice u 0 1 none) (.nilslice))] m=some ⟨.int .i64 0,none,[]⟩:=by
  clear hO
  obtain⟨N,hN⟩:∃N,N=Z.length:=⟨_,rfl⟩
  simp only[←hN] at hb ⊢
  simp[ad,hG,Tryz.f150,Oracle.or,ao,bU,fz,shA,aL,ay,dN,iM,stC,eu,w0,w1,w2,w3]
 have:=(ae aa (aj _) hO (al _) h).1
 simpa [CallRes.mem] using this
set_option maxHeartbeats 4000000 in
theorem D9(s:Sheet) (nm:List UInt8) (u0 u1:List UInt8) (n0:u0∈bu) (n1:u1∈bu) (d01:u1≠u0) (Z:List Int) (hZ:∀z∈Z,z.natAbs<1000) (hl:Z.length≤1000) (hn:Z.length=s.P.length) (Y1:List Int) (hY1:∀z∈Y1,z.natAbs<1000) (hl1:Y1.length=s.P.length) (hle1:∀(i:Nat) z y,Z[i]? =some z→Y1[i]? =some y→z≤y) (m:Mem) (b u c r1:Nat) (o1 o2 o3 o4 o5 q1:Bool)
  (hp:m[0]? =some (.cells o1 2 (pC s.P))) (hq:m[1]? =some (.cells o2 3 (tC s.T))) (hb:m[b]? =some (.cells o3 1 (qC (qH Z)))) (hu:m[u]? =some (.cells o4 1 (stC [u0,u1]))) (hc:m[c]? =some (.cells o5 1 [.slice r1 0 Z.length none])) (hr1:m[r1]? =some (.cells q1 1 (qC (qH Y1)))):
  ACallsTo Tryz.prog 150 [shA s,.agg (aL nm (.slice b 0 Z.length none) (.slice u 0 2 none) (.slice c 0 1 none))] m (.int .i64 0) m:=by
 have hG:aF Tryz.prog 150=some Tryz.f150:=by kernel_rfl
 have lp:=(List.getElem?_eq_some_iff.1 hp).1
 have lq:=(List.getElem?_eq_some_iff.1 hq).1
 have lb:=(List.getElem?_eq_some_iff.1 hb).1
 have lu:=(List.getElem?_eq_some_iff.1 hu).1
 have lc:=(List.getElem?_eq_some_iff.1 hc).1
 have lr1:=(List.getElem?_eq_some_iff.1 hr1).1
 have ep:=fun ext:Mem=>(List.getElem?_append_left (l₂:=ext) lp).trans hp
 have eq:=fun ext:Mem=>(List.getElem?_append_left (l₂:=ext) lq).trans hq
 have eb:=fun ext:Mem=>(List.getElem?_append_left (l₂:=ext) lb).trans hb
 have eu:=fun ext:Mem=>(List.getElem?_append_left (l₂:=ext) lu).trans hu
 have ec:=fun ext:Mem=>(List.getElem?_append_left (l₂:=ext) lc).trans hc
 have er1:=fun ext:Mem=>(List.getElem?_append_left (l₂:=ext) lr1).trans hr1
 have hO1:OracleOk Tryz.prog (ao (bU [(80,[.str u0],.int .i64 0),(80,[.str u1],.int .i64 0)])):=ee fun e he M=>by
  simp only[List.mem_cons,List.not_mem_nil,or_false] at he
  rcases he with rfl | rfl
  ·exact cw _ n0 M
  ·exact cw _ n1 M
 have hO2:OracleOk Tryz.prog (fz [(203,[shA s,.slice b 0 Z.length none],.int .i64 0),(45,[.slice u 0 0 none,.str u0],.bool false),(45,[.slice u 0 1 none,.str u1],.bool false),(204,[shA s,.slice b 0 Z.length none,.slice r1 0 Z.length none],.tuple [.bool true,.int .i64 0])] (fun M=>∃ext,M=m++ext)):=ka fun e he M hM=>by
  obtain⟨ext,rfl⟩:=hM
  simp only[List.mem_cons,List.not_mem_nil,or_false] at he
  rcases he with rfl | rfl | rfl | rfl
  ·exact nG s Z hZ hl hn _ b o1 o2 o3 (ep ext) (eq ext) (eb ext)
  ·exact dR _ u 0 o4 [u0,u1] u0 (eu ext) (by simp) (by simp) (by simp)
  ·exact dR _ u 1 o4 [u0,u1] u1 (eu ext) (by simp) (by simp) (by simp[d01])
  ·have:=oB s Z Y1 hZ hY1 (by omega) hn hl1 hle1 (m++ext) b r1 o1 o2 o3 q1 (ep ext) (eq ext) (eb ext) (er1 ext)
   rw[show Y1.length=Z.length by omega] at this
   exact this
 have hO:=OracleOk.or' hO1 hO2
 have w0:IntKind.i64.wrap 0=0:=rfl
 have w1:IntKind.i64.wrap 1=1:=rfl
 have w2:IntKind.i64.wrap 2=2:=rfl
 have w3:IntKind.i64.wrap 3=3:=rfl
 clear hO1 hO2
 have h:ad (aA Tryz.prog) iM (aF Tryz.prog) (Oracle.or (ao (bU [(80,[.str u0],.int .i64 0),(80,[.str u1],.int .i64 0)])) (fz [(203,[shA s,.slice b 0 Z.length none],.int .i64 0),(45,[.slice u 0 0 none,.str u0],.bool false),(45,[.slice u 0 1 none,.str u1],.bool false),(204,[shA s,.slice b 0 Z.length none,.slice r1 0 Z.length none],.tuple [.bool true,.int .i64 0])] (fun M=>∃ext,M=m++ext))) 5 150 [shA s,.agg (aL nm (.slice b 0 Z.length none) (.slice u 0 2 none) (.slice c 0 1 none))] m=some ⟨.int .i64 0,none,[]⟩:=by
  clear hO
  obtain⟨N,hN⟩:∃N,N=Z.length:=⟨_,rfl⟩
  simp only[←hN] at ec ⊢
  simp[ad,hG,Tryz.f150,Oracle.or,ao,bU,fz,shA,aL,ay,dN,iM,stC,eu,ec,w0,w1,w2,w3]
 have:=(ae aa (aj _) hO (al _) h).1
 simpa [CallRes.mem] using this
set_option maxHeartbeats 4000000 in
theorem F5(s:Sheet) (nm:List UInt8) (u0 u1 u2:List UInt8) (n0:u0∈bu) (n1:u1∈bu) (n2:u2∈bu) (d01:u1≠u0) (d02:u2≠u0) (d12:u2≠u1) (Z:List Int) (hZ:∀z∈Z,z.natAbs<1000) (hl:Z.length≤1000) (hn:Z.length=s.P.length) (Y1 Y2:List Int) (hY1:∀z∈Y1,z.natAbs<1000) (hl1:Y1.length=s.P.length) (hle1:∀(i:Nat) z y,Z[i]? =some z→Y1[i]? =some y→z≤y) (hY2:∀z∈Y2,z.natAbs<1000) (hl2:Y2.length=s.P.length) (hle2:∀(i:Nat) z y,Y1[i]? =some z→Y2[i]? =some y→z≤y) (m:Mem) (b u c r1 r2:Nat) (o1 o2 o3 o4 o5 q1 q2:Bool)
  (hp:m[0]? =some (.cells o1 2 (pC s.P))) (hq:m[1]? =some (.cells o2 3 (tC s.T))) (hb:m[b]? =some (.cells o3 1 (qC (qH Z)))) (hu:m[u]? =some (.cells o4 1 (stC [u0,u1,u2]))) (hc:m[c]? =some (.cells o5 1 [.slice r1 0 Z.length none,.slice r2 0 Z.length none])) (hr1:m[r1]? =some (.cells q1 1 (qC (qH Y1)))) (hr2:m[r2]? =some (.cells q2 1 (qC (qH Y2)))):
  ACallsTo Tryz.prog 150 [shA s,.agg (aL nm (.slice b 0 Z.length none) (.slice u 0 3 none) (.slice c 0 2 none))] m (.int .i64 0) m:=by
 have hG:aF Tryz.prog 150=some Tryz.f150:=by kernel_rfl
 have lp:=(List.getElem?_eq_some_iff.1 hp).1
 have lq:=(List.getElem?_eq_some_iff.1 hq).1
 have lb:=(List.getElem?_eq_some_iff.1 hb).1
 have lu:=(List.getElem?_eq_some_iff.1 hu).1
 have lc:=(List.getElem?_eq_some_iff.1 hc).1
 have lr1:=(List.getElem?_eq_some_iff.1 hr1).1
 have lr2:=(List.getElem?_eq_some_iff.1 hr2).1
 have ep:=fun ext:Mem=>(List.getElem?_append_left (l₂:=ext) lp).trans hp
 have eq:=fun ext:Mem=>(List.getElem?_append_left (l₂:=ext) lq).trans hq
 have eb:=fun ext:Mem=>(List.getElem?_append_left (l₂:=ext) lb).trans hb
 have eu:=fun ext:Mem=>(List.getElem?_append_left (l₂:=ext) lu).trans hu
 have ec:=fun ext:Mem=>(List.getElem?_append_left (l₂:=ext) lc).trans hc
 have er1:=fun ext:Mem=>(List.getElem?_append_left (l₂:=ext) lr1).trans hr1
 have er2:=fun ext:Mem=>(List.getElem?_append_left (l₂:=ext) lr2).trans hr2
 have hO1:OracleOk Tryz.prog (ao (bU [(80,[.str u0],.int .i64 0),(80,[.str u1],.int .i64 0),(80,[.str u2],.int .i64 0)])):=ee fun e he M=>by
  simp only[List.mem_cons,List.not_mem_nil,or_false] at he
  rcases he with rfl | rfl | rfl
  ·exact cw _ n0 M
  ·exact cw _ n1 M
  ·exact cw _ n2 M
 have hO2:OracleOk Tryz.prog (fz [(203,[shA s,.slice b 0 Z.length none],.int .i64 0),(45,[.slice u 0 0 none,.str u0],.bool false),(45,[.slice u 0 1 none,.str u1],.bool false),(45,[.slice u 0 2 none,.str u2],.bool false),(204,[shA s,.slice b 0 Z.length none,.slice r1 0 Z.length none],.tuple [.bool true,.int .i64 0]),(204,[shA s,.slice r1 0 Z.length none,.slice r2 0 Z.length none],.tuple [.bool true,.int .i64 0])] (fun M=>∃ext,M=m++ext)):=ka fun e he M hM=>by
  obtain⟨ext,rfl⟩:=hM
  simp only[List.mem_cons,List.not_mem_nil,or_false] at he
  rcases he with rfl | rfl | rfl | rfl | rfl | rfl
  ·exact nG s Z hZ hl hn _ b o1 o2 o3 (ep ext) (eq ext) (eb ext)
  ·exact dR _ u 0 o4 [u0,u1,u2] u0 (eu ext) (by simp) (by simp) (by simp)
  ·exact dR _ u 1 o4 [u0,u1,u2] u1 (eu ext) (by simp) (by simp) (by simp[d01])
  ·exact dR _ u 2 o4 [u0,u1,u2] u2 (eu ext) (by simp) (by simp) (by simp[d02,d12])
  ·have:=oB s Z Y1 hZ hY1 (by omega) hn hl1 hle1 (m++ext) b r1 o1 o2 o3 q1 (ep ext) (eq ext) (eb ext) (er1 ext)
   rw[show Y1.length=Z.length by omega] at this
   exact this
  ·have:=oB s Y1 Y2 hY1 hY2 (by omega) hl1 hl2 hle2 (m++ext) r1 r2 o1 o2 q1 q2 (ep ext) (eq ext) (er1 ext) (er2 ext)
   rw[show Y2.length=Z.length by omega,show Y1.length=Z.length by omega] at this
   exact this
 have hO:=OracleOk.or' hO1 hO2
 have w0:IntKind.i64.wrap 0=0:=rfl
 have w1:IntKind.i64.wrap 1=1:=rfl
 have w2:IntKind.i64.wrap 2=2:=rfl
 have w3:IntKind.i64.wrap 3=3:=rfl
 clear hO1 hO2
 have h:ad (aA Tryz.prog) iM (aF Tryz.prog) (Oracle.or (ao (bU [(80,[.str u0],.int .i64 0),(80,[.str u1],.int .i64 0),(80,[.str u2],.int .i64 0)])) (fz [(203,[shA s,.slice b 0 Z.length none],.int .i64 0),(45,[.slice u 0 0 none,.str u0],.bool false),(45,[.slice u 0 1 none,.str u1],.bool false),(45,[.slice u 0 2 none,.str u2],.bool false),(204,[shA s,.slice b 0 Z.length none,.slice r1 0 Z.length none],.tuple [.bool true,.int .i64 0]),(204,[shA s,.slice r1 0 Z.length none,.slice r2 0 Z.length none],.tuple [.bool true,.int .i64 0])] (fun M=>∃ext,M=m++ext))) 5 150 [shA s,.agg (aL nm (.slice b 0 Z.length none) (.slice u 0 3 none) (.slice c 0 2 none))] m=some ⟨.int .i64 0,none,[]⟩:=by
  clear hO
  obtain⟨N,hN⟩:∃N,N=Z.length:=⟨_,rfl⟩
  simp only[←hN] at ec ⊢
  simp[ad,hG,Tryz.f150,Oracle.or,ao,bU,fz,shA,aL,ay,dN,iM,stC,eu,ec,w0,w1,w2,w3]
 have:=(ae aa (aj _) hO (al _) h).1
 simpa [CallRes.mem] using this
theorem pO{L:List (List UInt8)}{i:Nat}{s:List UInt8}(h:L[i]? =some s):(stC L)[i]? =some (.str s):=by simp[stC,h]
theorem nP(n:Nat):∀L:List (List UInt8),AV.refsL n (stC L)=[]
 | []=>rfl
 |q::Q=>by
  have:=nP n Q
  simp only[stC] at this
  simp[stC,AV.refsL,AV.refs,this]
theorem th(f:Nat→Bool):∀L:List (List UInt8),AV.refsOkL f (stC L)=true
 | []=>rfl
 |q::Q=>by
  have:=th f Q
  simp only[stC] at this
  simp[stC,AV.refsOkL,AV.refsOk,this]
theorem tP(Q:List Rat):qC Q=stC (Q.map aK):=by simp[qC,stC]
set_option maxHeartbeats 1600000 in
theorem Bo{K:Nat}(L:List (List UInt8)) (hl:L.length≤1000) (hK:L.length<K) {b:Code}(hb:am Tryz.f113=[b]):
  ∃F:Env→Bool→Env,∀env0 d,(ac env0 0=.slice 0 0 L.length none∧ac env0 1=.slice 0 0 L.length none∧ac env0 12=.int .i64 L.length∧ac env0 13=.int .i64 0)→
   aH (aA Tryz.prog) (fun _=>[13]) aD K 26 1 true (.loop b) ⟨env0,[.cells false 1 (stC L)],d⟩=some (.exit 0,⟨F env0 d,[.cells false 1 (stC L)],d⟩)∧True:=by
 refine bo (L:=[13]) rfl (fun env0=>ac env0 0=.slice 0 0 L.length none∧ac env0 1=.slice 0 0 L.length none∧ac env0 12=.int .i64 L.length∧ac env0 13=.int .i64 0) (fun _ _=>True) ?_
 rintro env0 d ⟨h0,h1,h12,h13⟩
 obtain⟨os,hops⟩:∃os,aE Tryz.f113=os:=⟨_,rfl⟩
 have hbs:=aS hops (ls:=[[0,0,3,7,0,0,48,112,255]]) (by kernel_rfl)
 simp only[aE,bw,Tryz.f113,List.nil_append,List.append_nil,List.cons_append] at hops
 subst hops
 simp only[List.map_cons,List.map_nil,List.cons.injEq,and_true] at hbs
 have a0:aN [0,0,3,7,0,0,48,112,255] 8=true:=by decide
 have e:=fun d x y=>gj d x y
 simp[am,aB,Tryz.f113] at hb
 have hn0:aw [13] (ab b) env0 ((13,.int .i64 ((0:Nat):Int))::env0)=aw [13] (ab b) env0 env0:=by simp[aw,h13]
 rw[←hn0]
 refine bD (α:=Nat) (fun n=>⟨aw [13] (ab b) env0 ((13,.int .i64 (n:Int))::env0),[.cells false 1 (stC L)],d⟩) (fun n=>L.length-n) (fun n=>n≤L.length) (.exit 0) _ d _ (by simp) ?_ K 0 (by omega) (by omega)
 rintro n hn1
 clear hn0
 subst hb
 by_cases hlt:n<L.length
 ·obtain⟨z,hz⟩:∃z,L[n]? =some z:=⟨L[n],List.getElem?_eq_getElem hlt⟩
  have k1:=pO hz
  have w1:IntKind.i64.wrap ((n:Int)+1)=((n+1:Nat):Int):=by rw[ai (by omega) (by omega)];omega
  left
  obtain⟨v,hv⟩:∃v,v=n+1:=⟨_,rfl⟩
  rw[←hv] at w1
  refine⟨v,?_⟩
  simp[-aC,ar hbs,bN,bt,bJ,a0,Nat.testBit,h0,h1,h12,hlt,k1,w1,e,nP,th]
  omega
 ·right
  simp[h12,hlt]
theorem LD(L:List (List UInt8)) (hl:L.length≤1000):
  ACallsTo Tryz.prog 113 [.slice 0 0 L.length none,.slice 0 0 L.length none] [.cells false 1 (stC L)] (.bool true) [.cells false 1 (stC L)]:=by
 have hG:aF Tryz.prog 113=some Tryz.f113:=by kernel_rfl
 obtain⟨b,hb⟩:∃b,am Tryz.f113=[b]:=⟨_,rfl⟩
 obtain⟨F,hF⟩:=Bo (K:=L.length+1) L hl (by omega) hb
 have hF1:=fun env0 d h1 h2 h3 h4=>(hF env0 d ⟨h1,h2,h3,h4⟩).1
 clear hF
 simp[am,aB,Tryz.f113] at hb
 subst hb
 have h:ad (aA Tryz.prog) (fun _=>[13]) (aF Tryz.prog) aD (L.length+1) 113 [.slice 0 0 L.length none,.slice 0 0 L.length none] [.cells false 1 (stC L)]=some ⟨.bool true,none,[]⟩:=by
  simp[ad,hG,Tryz.f113,hF1]
 have:=(ae aa (aj _) (af _) (al _) h).1
 simpa [CallRes.mem] using this
theorem NB(L:List (List UInt8)) (hl:L.length≤1000) (M:Mem) (b:Nat) (o:Bool) (hb:M[b]? =some (.cells o 1 (stC L))):
  ACallsTo Tryz.prog 113 [.slice b 0 L.length none,.slice b 0 L.length none] M (.bool true) M:=by
 have hlt:=(List.getElem?_eq_some_iff.1 hb).1
 have:=ACallsTo.frame (M:=M) (new:=[]) [b] rfl (by simpa using hlt) (by rfl) (fun i t hs=>by
  match i with
  |0=>simp at hs;subst hs;exact bf (eG _) hb List.take_length
  |i+1=>simp at hs) rfl (LD L hl)
 simpa [AV.rens,AV.ren,cR] using this
set_option maxHeartbeats 1600000 in
theorem Bt{K:Nat}(L:List (List UInt8)) (hl:L.length≤1000) (hK:L.length<K) {b:Code}(hb:am Tryz.f32=[b]):
  ∃F:Env→Bool→Env,∀env0 d,(ac env0 0=.slice 0 0 L.length none∧ac env0 1=.slice 0 0 L.length none∧ac env0 12=.int .i64 L.length∧ac env0 13=.int .i64 0)→
   aH (aA Tryz.prog) (fun _=>[13]) aD K 26 1 true (.loop b) ⟨env0,[.cells false 1 (stC L)],d⟩=some (.exit 0,⟨F env0 d,[.cells false 1 (stC L)],d⟩)∧True:=by
 refine bo (L:=[13]) rfl (fun env0=>ac env0 0=.slice 0 0 L.length none∧ac env0 1=.slice 0 0 L.length none∧ac env0 12=.int .i64 L.length∧ac env0 13=.int .i64 0) (fun _ _=>True) ?_
 rintro env0 d ⟨h0,h1,h12,h13⟩
 obtain⟨os,hops⟩:∃os,aE Tryz.f32=os:=⟨_,rfl⟩
 have hbs:=aS hops (ls:=[[0,0,3,7,0,0,48,112,255]]) (by kernel_rfl)
 simp only[aE,bw,Tryz.f32,List.nil_append,List.append_nil,List.cons_append] at hops
 subst hops
 simp only[List.map_cons,List.map_nil,List.cons.injEq,and_true] at hbs
 have a0:aN [0,0,3,7,0,0,48,112,255] 8=true:=by decide
 have e:=fun d x y=>oJ d x y
 simp[am,aB,Tryz.f32] at hb
 have hn0:aw [13] (ab b) env0 ((13,.int .i64 ((0:Nat):Int))::env0)=aw [13] (ab b) env0 env0:=by simp[aw,h13]
 rw[←hn0]
 refine bD (α:=Nat) (fun n=>⟨aw [13] (ab b) env0 ((13,.int .i64 (n:Int))::env0),[.cells false 1 (stC L)],d⟩) (fun n=>L.length-n) (fun n=>n≤L.length) (.exit 0) _ d _ (by simp) ?_ K 0 (by omega) (by omega)
 rintro n hn1
 clear hn0
 subst hb
 by_cases hlt:n<L.length
 ·obtain⟨z,hz⟩:∃z,L[n]? =some z:=⟨L[n],List.getElem?_eq_getElem hlt⟩
  have k1:=pO hz
  have w1:IntKind.i64.wrap ((n:Int)+1)=((n+1:Nat):Int):=by rw[ai (by omega) (by omega)];omega
  left
  obtain⟨v,hv⟩:∃v,v=n+1:=⟨_,rfl⟩
  rw[←hv] at w1
  refine⟨v,?_⟩
  simp[-aC,ar hbs,bN,bt,bJ,a0,Nat.testBit,h0,h1,h12,hlt,k1,w1,e,nP,th]
  omega
 ·right
  simp[h12,hlt]
theorem JP(L:List (List UInt8)) (hl:L.length≤1000):
  ACallsTo Tryz.prog 32 [.slice 0 0 L.length none,.slice 0 0 L.length none] [.cells false 1 (stC L)] (.bool true) [.cells false 1 (stC L)]:=by
 have hG:aF Tryz.prog 32=some Tryz.f32:=by kernel_rfl
 obtain⟨b,hb⟩:∃b,am Tryz.f32=[b]:=⟨_,rfl⟩
 obtain⟨F,hF⟩:=Bt (K:=L.length+1) L hl (by omega) hb
 have hF1:=fun env0 d h1 h2 h3 h4=>(hF env0 d ⟨h1,h2,h3,h4⟩).1
 clear hF
 simp[am,aB,Tryz.f32] at hb
 subst hb
 have h:ad (aA Tryz.prog) (fun _=>[13]) (aF Tryz.prog) aD (L.length+1) 32 [.slice 0 0 L.length none,.slice 0 0 L.length none] [.cells false 1 (stC L)]=some ⟨.bool true,none,[]⟩:=by
  simp[ad,hG,Tryz.f32,hF1]
 have:=(ae aa (aj _) (af _) (al _) h).1
 simpa [CallRes.mem] using this
theorem yG(L:List (List UInt8)) (hl:L.length≤1000) (M:Mem) (b:Nat) (o:Bool) (hb:M[b]? =some (.cells o 1 (stC L))):
  ACallsTo Tryz.prog 32 [.slice b 0 L.length none,.slice b 0 L.length none] M (.bool true) M:=by
 have hlt:=(List.getElem?_eq_some_iff.1 hb).1
 have:=ACallsTo.frame (M:=M) (new:=[]) [b] rfl (by simpa using hlt) (by rfl) (fun i t hs=>by
  match i with
  |0=>simp at hs;subst hs;exact bf (eG _) hb List.take_length
  |i+1=>simp at hs) rfl (JP L hl)
 simpa [AV.rens,AV.ren,cR] using this
def RowAt(N:Mem) (v:AV) (es n:Nat) (C:List AV):Prop:=(v=.nilslice∧n=0∧C=[])∨∃b o,v=.slice b 0 n none∧0<n∧N[b]? =some (.cells o es C)
theorem RowAt.more{N:Mem}{v:AV}{es n:Nat}{C:List AV}(h:RowAt N v es n C) (Z:Mem):RowAt (N++Z) v es n C:=by
 rcases h with h | ⟨b,o,h1,h2,h3⟩
 ·exact .inl h
 ·exact .inr ⟨b,o,h1,h2,by rw[List.getElem?_append_left (List.getElem?_eq_some_iff.1 h3).1];exact h3⟩
theorem oI:∀l:List (List UInt8×List UInt8),AV.closeds (kC l)=true
 | []=>rfl
 |k::l=>by simp[kC,AV.closeds,AV.closed,oI l]
theorem Mz(f:Nat→Bool):∀l:List (List UInt8×List UInt8),AV.refsOkL f (kC l)=true
 | []=>rfl
 |k::l=>by simp[kC,AV.refsOkL,AV.refsOk,Mz f l]
set_option maxHeartbeats 1600000 in
theorem Fe{K:Nat}(L:List (List UInt8)) (hl:L.length≤1000) (hK:L.length<K) {b:Code}(hb:am Tryz.f113=[b]):
  ∃F:Env→Bool→Env,∀env0 d,(ac env0 0=.slice 0 0 L.length none∧ac env0 1=.slice 1 0 L.length none∧ac env0 12=.int .i64 L.length∧ac env0 13=.int .i64 0)→
   aH (aA Tryz.prog) (fun _=>[13]) aD K 26 2 true (.loop b) ⟨env0,[.cells false 1 (stC L),.cells false 1 (stC L)],d⟩=some (.exit 0,⟨F env0 d,[.cells false 1 (stC L),.cells false 1 (stC L)],d⟩)∧True:=by
 refine bo (L:=[13]) rfl (fun env0=>ac env0 0=.slice 0 0 L.length none∧ac env0 1=.slice 1 0 L.length none∧ac env0 12=.int .i64 L.length∧ac env0 13=.int .i64 0) (fun _ _=>True) ?_
 rintro env0 d ⟨h0,h1,h12,h13⟩
 obtain⟨os,hops⟩:∃os,aE Tryz.f113=os:=⟨_,rfl⟩
 have hbs:=aS hops (ls:=[[0,0,3,7,0,0,48,112,255]]) (by kernel_rfl)
 simp only[aE,bw,Tryz.f113,List.nil_append,List.append_nil,List.cons_append] at hops
 subst hops
 simp only[List.map_cons,List.map_nil,List.cons.injEq,and_true] at hbs
 have a0:aN [0,0,3,7,0,0,48,112,255] 8=true:=by decide
 have e:=fun d=>gj d
 simp[am,aB,Tryz.f113] at hb
 have hn0:aw [13] (ab b) env0 ((13,.int .i64 ((0:Nat):Int))::env0)=aw [13] (ab b) env0 env0:=by simp[aw,h13]
 rw[←hn0]
 refine bD (α:=Nat) (fun n=>⟨aw [13] (ab b) env0 ((13,.int .i64 (n:Int))::env0),[.cells false 1 (stC L),.cells false 1 (stC L)],d⟩) (fun n=>L.length-n) (fun n=>n≤L.length) (.exit 0) _ d _ (by simp) ?_ K 0 (by omega) (by omega)
 rintro n hn1
 clear hn0
 subst hb
 by_cases hlt:n<L.length
 ·obtain⟨z,hz⟩:∃z,L[n]? =some z:=⟨L[n],List.getElem?_eq_getElem hlt⟩
  have k1:=pO hz
  have k2:=bh L
  have w1:IntKind.i64.wrap ((n:Int)+1)=((n+1:Nat):Int):=by rw[ai (by omega) (by omega)];omega
  have k3:n*1+1≤(stC L).length:=by omega
  clear k2
  left
  obtain⟨v,hv⟩:∃v,v=n+1:=⟨_,rfl⟩
  rw[←hv] at w1
  refine⟨v,?_⟩
  simp[-aC,ar hbs,bN,bt,bJ,a0,Nat.testBit,h0,h1,h12,hlt,k1,k3,w1,e,nP,th]
  omega
 ·right
  simp[h12,hlt]
theorem OP(L:List (List UInt8)) (hl:L.length≤1000):
  ACallsTo Tryz.prog 113 [.slice 0 0 L.length none,.slice 1 0 L.length none] [.cells false 1 (stC L),.cells false 1 (stC L)] (.bool true) [.cells false 1 (stC L),.cells false 1 (stC L)]:=by
 have hG:aF Tryz.prog 113=some Tryz.f113:=by kernel_rfl
 obtain⟨b,hb⟩:∃b,am Tryz.f113=[b]:=⟨_,rfl⟩
 obtain⟨F,hF⟩:=Fe (K:=L.length+1) L hl (by omega) hb
 have hF1:=fun env0 d h1 h2 h3 h4=>(hF env0 d ⟨h1,h2,h3,h4⟩).1
 clear hF
 simp[am,aB,Tryz.f113] at hb
 subst hb
 have h:ad (aA Tryz.prog) (fun _=>[13]) (aF Tryz.prog) aD (L.length+1) 113 [.slice 0 0 L.length none,.slice 1 0 L.length none] [.cells false 1 (stC L),.cells false 1 (stC L)]=some ⟨.bool true,none,[]⟩:=by
  simp[ad,hG,Tryz.f113,hF1]
 have:=(ae aa (aj _) (af _) (al _) h).1
 simpa [CallRes.mem] using this
theorem ND(M:Mem):ACallsTo Tryz.prog 113 [.nilslice,.nilslice] M (.bool true) M:=by
 have hG:aF Tryz.prog 113=some Tryz.f113:=by kernel_rfl
 refine aq (af _) (lv:=fun _=>[13]) (K:=3) rfl rfl ?_ M
 simp[ad,hG,Tryz.f113,ay,dN]
theorem PP{M:Mem}{x y:AV}{L:List (List UInt8)}(hl:L.length≤1000) (hx:RowAt M x 1 L.length (stC L)) (hy:RowAt M y 1 L.length (stC L)):ACallsTo Tryz.prog 113 [x,y] M (.bool true) M:=by
 rcases hx with⟨rfl,h1,_⟩ | ⟨b,o,rfl,hp,hb⟩
 ·rcases hy with⟨rfl,_,_⟩ | ⟨b',o',_,hp',_⟩
  ·exact ND M
  ·omega
 ·rcases hy with⟨_,h1,_⟩ | ⟨b',o',rfl,_,hb'⟩
  ·omega
  ·exact ACallsTo.rows2R (rest:=[]) (eG L) (eG L) rfl rfl (OP L hl) ⟨b,o,_,rfl,hb,List.take_length⟩ ⟨b',o',_,rfl,hb',List.take_length⟩
set_option maxHeartbeats 1600000 in
theorem Dd{K:Nat}(L:List (List UInt8×List UInt8)) (hl:L.length≤1000) (hK:L.length<K) {b:Code}(hb:am Tryz.f84=[b]):
  ∃F:Env→Bool→Env,∀env0 d,(ac env0 0=.slice 0 0 L.length none∧ac env0 1=.slice 1 0 L.length none∧ac env0 12=.int .i64 L.length∧ac env0 13=.int .i64 0)→
   aH (aA Tryz.prog) (fun _=>[13]) aD K 26 2 true (.loop b) ⟨env0,[.cells false 2 (kC L),.cells false 2 (kC L)],d⟩=some (.exit 0,⟨F env0 d,[.cells false 2 (kC L),.cells false 2 (kC L)],d⟩)∧True:=by
 refine bo (L:=[13]) rfl (fun env0=>ac env0 0=.slice 0 0 L.length none∧ac env0 1=.slice 1 0 L.length none∧ac env0 12=.int .i64 L.length∧ac env0 13=.int .i64 0) (fun _ _=>True) ?_
 rintro env0 d ⟨h0,h1,h12,h13⟩
 obtain⟨os,hops⟩:∃os,aE Tryz.f84=os:=⟨_,rfl⟩
 have hbs:=aS hops (ls:=[[0,0,3,7,0,0,48,112,255]]) (by kernel_rfl)
 simp only[aE,bw,Tryz.f84,List.nil_append,List.append_nil,List.cons_append] at hops
 subst hops
 simp only[List.map_cons,List.map_nil,List.cons.injEq,and_true] at hbs
 have a0:aN [0,0,3,7,0,0,48,112,255] 8=true:=by decide
 have e:=fun d=>yC d
 simp[am,aB,Tryz.f84] at hb
 have hn0:aw [13] (ab b) env0 ((13,.int .i64 ((0:Nat):Int))::env0)=aw [13] (ab b) env0 env0:=by simp[aw,h13]
 rw[←hn0]
 refine bD (α:=Nat) (fun n=>⟨aw [13] (ab b) env0 ((13,.int .i64 (n:Int))::env0),[.cells false 2 (kC L),.cells false 2 (kC L)],d⟩) (fun n=>L.length-n) (fun n=>n≤L.length) (.exit 0) _ d _ (by simp) ?_ K 0 (by omega) (by omega)
 rintro n hn1
 clear hn0
 subst hb
 by_cases hlt:n<L.length
 ·obtain⟨z,hz⟩:∃z,L[n]? =some z:=⟨L[n],List.getElem?_eq_getElem hlt⟩
  have k1:=(OI hz).1
  have k2:=gt L
  have w1:IntKind.i64.wrap ((n:Int)+1)=((n+1:Nat):Int):=by rw[ai (by omega) (by omega)];omega
  have k3:n*2+2≤(kC L).length:=by omega
  clear k2
  left
  obtain⟨v,hv⟩:∃v,v=n+1:=⟨_,rfl⟩
  rw[←hv] at w1
  refine⟨v,?_⟩
  simp[-aC,ar hbs,bN,bt,bJ,a0,Nat.testBit,h0,h1,h12,hlt,k1,k3,w1,e,qh,Mz]
  omega
 ·right
  simp[h12,hlt]
theorem O8(L:List (List UInt8×List UInt8)) (hl:L.length≤1000):
  ACallsTo Tryz.prog 84 [.slice 0 0 L.length none,.slice 1 0 L.length none] [.cells false 2 (kC L),.cells false 2 (kC L)] (.bool true) [.cells false 2 (kC L),.cells false 2 (kC L)]:=by
 have hG:aF Tryz.prog 84=some Tryz.f84:=by kernel_rfl
 obtain⟨b,hb⟩:∃b,am Tryz.f84=[b]:=⟨_,rfl⟩
 obtain⟨F,hF⟩:=Dd (K:=L.length+1) L hl (by omega) hb
 have hF1:=fun env0 d h1 h2 h3 h4=>(hF env0 d ⟨h1,h2,h3,h4⟩).1
 clear hF
 simp[am,aB,Tryz.f84] at hb
 subst hb
 have h:ad (aA Tryz.prog) (fun _=>[13]) (aF Tryz.prog) aD (L.length+1) 84 [.slice 0 0 L.length none,.slice 1 0 L.length none] [.cells false 2 (kC L),.cells false 2 (kC L)]=some ⟨.bool true,none,[]⟩:=by
  simp[ad,hG,Tryz.f84,hF1]
 have:=(ae aa (aj _) (af _) (al _) h).1
 simpa [CallRes.mem] using this
theorem O4(M:Mem):ACallsTo Tryz.prog 84 [.nilslice,.nilslice] M (.bool true) M:=by
 have hG:aF Tryz.prog 84=some Tryz.f84:=by kernel_rfl
 refine aq (af _) (lv:=fun _=>[13]) (K:=3) rfl rfl ?_ M
 simp[ad,hG,Tryz.f84,ay,dN]
theorem PB{M:Mem}{x y:AV}{L:List (List UInt8×List UInt8)}(hl:L.length≤1000) (hx:RowAt M x 2 L.length (kC L)) (hy:RowAt M y 2 L.length (kC L)):ACallsTo Tryz.prog 84 [x,y] M (.bool true) M:=by
 rcases hx with⟨rfl,h1,_⟩ | ⟨b,o,rfl,hp,hb⟩
 ·rcases hy with⟨rfl,_,_⟩ | ⟨b',o',_,hp',_⟩
  ·exact O4 M
  ·omega
 ·rcases hy with⟨_,h1,_⟩ | ⟨b',o',rfl,_,hb'⟩
  ·omega
  ·exact ACallsTo.rows2R (rest:=[]) (oI L) (oI L) rfl rfl (O8 L hl) ⟨b,o,_,rfl,hb,List.take_length⟩ ⟨b',o',_,rfl,hb',List.take_length⟩
set_option maxHeartbeats 1600000 in
theorem Fi{K:Nat}(L:List (List UInt8)) (hl:L.length≤1000) (hK:L.length<K) {b:Code}(hb:am Tryz.f32=[b]):
  ∃F:Env→Bool→Env,∀env0 d,(ac env0 0=.slice 0 0 L.length none∧ac env0 1=.slice 1 0 L.length none∧ac env0 12=.int .i64 L.length∧ac env0 13=.int .i64 0)→
   aH (aA Tryz.prog) (fun _=>[13]) aD K 26 2 true (.loop b) ⟨env0,[.cells false 1 (stC L),.cells false 1 (stC L)],d⟩=some (.exit 0,⟨F env0 d,[.cells false 1 (stC L),.cells false 1 (stC L)],d⟩)∧True:=by
 refine bo (L:=[13]) rfl (fun env0=>ac env0 0=.slice 0 0 L.length none∧ac env0 1=.slice 1 0 L.length none∧ac env0 12=.int .i64 L.length∧ac env0 13=.int .i64 0) (fun _ _=>True) ?_
 rintro env0 d ⟨h0,h1,h12,h13⟩
 obtain⟨os,hops⟩:∃os,aE Tryz.f32=os:=⟨_,rfl⟩
 have hbs:=aS hops (ls:=[[0,0,3,7,0,0,48,112,255]]) (by kernel_rfl)
 simp only[aE,bw,Tryz.f32,List.nil_append,List.append_nil,List.cons_append] at hops
 subst hops
 simp only[List.map_cons,List.map_nil,List.cons.injEq,and_true] at hbs
 have a0:aN [0,0,3,7,0,0,48,112,255] 8=true:=by decide
 have e:=fun d x y=>oJ d x y
 simp[am,aB,Tryz.f32] at hb
 have hn0:aw [13] (ab b) env0 ((13,.int .i64 ((0:Nat):Int))::env0)=aw [13] (ab b) env0 env0:=by simp[aw,h13]
 rw[←hn0]
 refine bD (α:=Nat) (fun n=>⟨aw [13] (ab b) env0 ((13,.int .i64 (n:Int))::env0),[.cells false 1 (stC L),.cells false 1 (stC L)],d⟩) (fun n=>L.length-n) (fun n=>n≤L.length) (.exit 0) _ d _ (by simp) ?_ K 0 (by omega) (by omega)
 rintro n hn1
 clear hn0
 subst hb
 by_cases hlt:n<L.length
 ·obtain⟨z,hz⟩:∃z,L[n]? =some z:=⟨L[n],List.getElem?_eq_getElem hlt⟩
  have k1:=pO hz
  have k2:=bh L
  have w1:IntKind.i64.wrap ((n:Int)+1)=((n+1:Nat):Int):=by rw[ai (by omega) (by omega)];omega
  have k3:n*1+1≤(stC L).length:=by omega
  clear k2
  left
  obtain⟨v,hv⟩:∃v,v=n+1:=⟨_,rfl⟩
  rw[←hv] at w1
  refine⟨v,?_⟩
  simp[-aC,ar hbs,bN,bt,bJ,a0,Nat.testBit,h0,h1,h12,hlt,k1,k3,w1,e,nP,th]
  omega
 ·right
  simp[h12,hlt]
theorem Ol(L:List (List UInt8)) (hl:L.length≤1000):
  ACallsTo Tryz.prog 32 [.slice 0 0 L.length none,.slice 1 0 L.length none] [.cells false 1 (stC L),.cells false 1 (stC L)] (.bool true) [.cells false 1 (stC L),.cells false 1 (stC L)]:=by
 have hG:aF Tryz.prog 32=some Tryz.f32:=by kernel_rfl
 obtain⟨b,hb⟩:∃b,am Tryz.f32=[b]:=⟨_,rfl⟩
 obtain⟨F,hF⟩:=Fi (K:=L.length+1) L hl (by omega) hb
 have hF1:=fun env0 d h1 h2 h3 h4=>(hF env0 d ⟨h1,h2,h3,h4⟩).1
 clear hF
 simp[am,aB,Tryz.f32] at hb
 subst hb
 have h:ad (aA Tryz.prog) (fun _=>[13]) (aF Tryz.prog) aD (L.length+1) 32 [.slice 0 0 L.length none,.slice 1 0 L.length none] [.cells false 1 (stC L),.cells false 1 (stC L)]=some ⟨.bool true,none,[]⟩:=by
  simp[ad,hG,Tryz.f32,hF1]
 have:=(ae aa (aj _) (af _) (al _) h).1
 simpa [CallRes.mem] using this
theorem O2(M:Mem):ACallsTo Tryz.prog 32 [.nilslice,.nilslice] M (.bool true) M:=by
 have hG:aF Tryz.prog 32=some Tryz.f32:=by kernel_rfl
 refine aq (af _) (lv:=fun _=>[13]) (K:=3) rfl rfl ?_ M
 simp[ad,hG,Tryz.f32,ay,dN]
theorem Qg{M:Mem}{x y:AV}{L:List (List UInt8)}(hl:L.length≤1000) (hx:RowAt M x 1 L.length (stC L)) (hy:RowAt M y 1 L.length (stC L)):ACallsTo Tryz.prog 32 [x,y] M (.bool true) M:=by
 rcases hx with⟨rfl,h1,_⟩ | ⟨b,o,rfl,hp,hb⟩
 ·rcases hy with⟨rfl,_,_⟩ | ⟨b',o',_,hp',_⟩
  ·exact O2 M
  ·omega
 ·rcases hy with⟨_,h1,_⟩ | ⟨b',o',rfl,_,hb'⟩
  ·omega
  ·exact ACallsTo.rows2R (rest:=[]) (eG L) (eG L) rfl rfl (Ol L hl) ⟨b,o,_,rfl,hb,List.take_length⟩ ⟨b',o',_,rfl,hb',List.take_length⟩
theorem xP{M:Mem}{x y:AV}{L:List (List UInt8)}(hl:L.length≤1000) (hx:RowAt M x 1 L.length (stC L)) (hy:RowAt M y 1 L.length (stC L)):ACallsTo Tryz.prog 82 [x,y] M (.bool true) M:=by
 have hG:aF Tryz.prog 82=some Tryz.f82:=by kernel_rfl
 have hO:OracleOk Tryz.prog (gS 113 [x,y] (.bool true) (fun N=>N=M)):=jM fun N hN=>by
  subst hN
  exact PP hl hx hy
 have h:ad (aA Tryz.prog) (fun _=>[]) (aF Tryz.prog) (gS 113 [x,y] (.bool true) (fun N=>N=M)) 1 82 [x,y] M=some ⟨.bool true,none,[]⟩:=by
  clear hO
  simp[ad,hG,Tryz.f82,gS]
 have:=(ae aa (aj _) hO (al _) h).1
 simpa [CallRes.mem] using this
def SfAt(N:Mem) (v:AV) (S:List (List (List UInt8))):Prop:=∃vs,vs.length=S.length∧RowAt N v 1 S.length vs∧∀(i:Nat) x L,vs[i]? =some x→S[i]? =some L→RowAt N x 1 L.length (stC L)
theorem SfAt.more{N:Mem}{v:AV}{S:List (List (List UInt8))}(h:SfAt N v S) (Z:Mem):SfAt (N++Z) v S:=by
 obtain⟨vs,h1,h2,h3⟩:=h
 exact⟨vs,h1,h2.more Z,fun i x L a b=>(h3 i x L a b).more Z⟩
noncomputable def vM(vs ws:List AV) (m:Mem):Oracle:=dE fun c a N r=>∃(i:Nat) (x y:AV),vs[i]? =some x∧ws[i]? =some y∧c=.fn 82∧a=[x,y]∧N=m∧r=⟨.bool true,none,[]⟩
theorem Ir{vs ws:List AV}{m:Mem}{i:Nat}{x y:AV}(h1:vs[i]? =some x) (h2:ws[i]? =some y):vM vs ws m (.fn 82) [x,y] m=some ⟨.bool true,none,[]⟩:=
 ci ⟨i,x,y,h1,h2,rfl,rfl,rfl,rfl⟩ fun r' ⟨_,_,_,_,_,_,_,_,h⟩=>h
set_option maxHeartbeats 4000000 in
theorem GH{m:Mem}{v w:AV}{n:Nat}{vs ws:List AV}(lv:vs.length=n) (lw:ws.length=n) (hv:RowAt m v 1 n vs) (hw:RowAt m w 1 n ws) (hl:n≤1000) {K m0:Nat}(hK:n<K) {b:Code}(hb:am Tryz.f114=[b]):
  ∃F:Env→Bool→Env,∀env0 d,(ac env0 15=v∧ac env0 1=w∧ac env0 2=.func 82 []∧ac env0 16=.int .i64 n∧ac env0 17=.int .i64 0)→
   aH (aA Tryz.prog) (fun _=>[17,17,17]) (vM vs ws m) K 32 m0 true (.loop b) ⟨env0,m,d⟩=some (.exit 0,⟨F env0 d,m,d⟩)∧True:=by
 refine bo rfl (fun env0=>ac env0 15=v∧ac env0 1=w∧ac env0 2=.func 82 []∧ac env0 16=.int .i64 n∧ac env0 17=.int .i64 0) (fun _ _=>True) ?_
 rintro env0 d ⟨h15,h1,h2,h16,h17⟩
 simp[am,aB,Tryz.f114] at hb
 have hn:aw [17,17,17] (ab b) env0 ((17,.int .i64 ((0:Nat):Int))::env0)=aw [17,17,17] (ab b) env0 env0:=by simp[aw,h17]
 rw[←hn]
 refine bD (α:=Nat) (fun i=>⟨aw [17,17,17] (ab b) env0 ((17,.int .i64 (i:Int))::env0),m,d⟩) (fun i=>n-i) (fun i=>i≤n) (.exit 0) _ d _ (by simp) ?_ K 0 (by omega) (by omega)
 rintro i hi
 clear hn
 by_cases hlt:i<n
 ·obtain⟨x,hx⟩:∃x,vs[i]? =some x:=⟨_,List.getElem?_eq_getElem (by omega)⟩
  obtain⟨y,hy⟩:∃y,ws[i]? =some y:=⟨_,List.getElem?_eq_getElem (by omega)⟩
  have w1:IntKind.i64.wrap ((i:Int)+1)=((i+1:Nat):Int):=by rw[ai (by omega) (by omega)];omega
  have ho:=Ir (m:=m) hx hy
  have xl:=(List.getElem?_eq_some_iff.1 hx).1
  have yl:=(List.getElem?_eq_some_iff.1 hy).1
  have hx' :∀h,vs[i]'h=x:=fun h=>by rw[List.getElem?_eq_getElem h] at hx;exact Option.some.inj hx
  have hy' :∀h,ws[i]'h=y:=fun h=>by rw[List.getElem?_eq_getElem h] at hy;exact Option.some.inj hy
  rcases hv with⟨_,h,_⟩ | ⟨b1,o1,rfl,_,e1⟩
  ·omega
  rcases hw with⟨_,h,_⟩ | ⟨b2,o2,rfl,_,e2⟩
  ·omega
  left
  refine⟨i+1,?_⟩
  refine bQ (show i+1≤n∧n-(i+1)<n-i from⟨by omega,by omega⟩) ?_
  subst hb
  simp[h15,h1,h2,h16,hlt,e1,e2,hx,hy,hx',hy',xl,yl,ho,w1]
 ·right
  subst hb
  simp[h16,hlt]
theorem Om{m:Mem}{v w:AV}{S:List (List (List UInt8))}(hv:SfAt m v S) (hw:SfAt m w S) (hl:S.length≤1000) (hS:∀L∈S,L.length≤1000):
  ACallsTo Tryz.prog 114 [v,w,.func 82 []] m (.bool true) m:=by
 have hG:aF Tryz.prog 114=some Tryz.f114:=by kernel_rfl
 obtain⟨vs,l1,r1,c1⟩:=hv
 obtain⟨ws,l2,r2,c2⟩:=hw
 have hO:OracleOk Tryz.prog (vM vs ws m):=lQ fun c a N r hr=>by
  obtain⟨i,x,y,hx,hy,rfl,rfl,rfl,rfl⟩:=hr
  have hlt:=(List.getElem?_eq_some_iff.1 hx).1
  obtain⟨L,hL⟩:∃L,S[i]? =some L:=⟨_,List.getElem?_eq_getElem (by omega)⟩
  exact au (by simpa using xP (hS L (List.mem_of_getElem? hL)) (c1 i x L hx hL) (c2 i y L hy hL))
 obtain⟨b,hb⟩:∃b,am Tryz.f114=[b]:=⟨_,rfl⟩
 obtain⟨F,hF⟩:=GH (m0:=m.length) (K:=S.length+1) l1 l2 r1 r2 hl (by omega) hb
 have hF1:=fun env0 d h=>(hF env0 d h).1
 clear hF
 simp[am,aB,Tryz.f114] at hb
 subst hb
 have hlv:∀N',nl (aA Tryz.prog) 46 N' v=some (.int .i64 S.length):=fun N' =>by
  rcases r1 with⟨rfl,h,_⟩ | ⟨b,o,rfl,_⟩
  ·rw[h];simp
  ·simp
 have hlw:∀N',nl (aA Tryz.prog) 46 N' w=some (.int .i64 S.length):=fun N' =>by
  rcases r2 with⟨rfl,h,_⟩ | ⟨b,o,rfl,_⟩
  ·rw[h];simp
  ·simp
 have h:ad (aA Tryz.prog) (fun _=>[17,17,17]) (aF Tryz.prog) (vM vs ws m) (S.length+1) 114 [v,w,.func 82 []] m=some ⟨.bool true,none,[]⟩:=by
  clear hO
  simp[-nl,hlv,hlw,ad,hG,Tryz.f114,hF1]
 have:=(ae aa (aj _) hO (al _) h).1
 simpa [CallRes.mem] using this
theorem K5{m:Mem}{v w:AV}{S:List (List (List UInt8))}(hv:SfAt m v S) (hw:SfAt m w S) (hl:S.length≤1000) (hS:∀L∈S,L.length≤1000):ACallsTo Tryz.prog 83 [v,w] m (.bool true) m:=by
 have hG:aF Tryz.prog 83=some Tryz.f83:=by kernel_rfl
 have hO:OracleOk Tryz.prog (gS 114 [v,w,.func 82 []] (.bool true) (fun N=>N=m)):=jM fun N hN=>by
  subst hN
  exact Om hv hw hl hS
 have h:ad (aA Tryz.prog) (fun _=>[]) (aF Tryz.prog) (gS 114 [v,w,.func 82 []] (.bool true) (fun N=>N=m)) 1 83 [v,w] m=some ⟨.bool true,none,[]⟩:=by
  clear hO
  simp[ad,hG,Tryz.f83,gS]
 have:=(ae aa (aj _) hO (al _) h).1
 simpa [CallRes.mem] using this
structure Evc.Ok (c:Evc):Prop where
 B:c.B.length≤1000
 U:c.U.length≤1000
 S:c.S.length≤2
 SL:∀L∈c.S,L.length≤1000
 K:c.K.length≤1000
def EvAt(N:Mem) (ev:List AV) (c:Evc):Prop:=∃b u s kn,ev=c.cells b u s kn∧RowAt N b 1 c.B.length (stC c.B)∧RowAt N u 1 c.U.length (stC c.U)∧SfAt N s c.S∧RowAt N kn 2 c.K.length (kC c.K)
theorem EvAt.more{N:Mem}{ev:List AV}{c:Evc}(h:EvAt N ev c) (Z:Mem):EvAt (N++Z) ev c:=by
 obtain⟨b,u,s,kn,h1,h2,h3,h4,h5⟩:=h
 exact⟨b,u,s,kn,h1,h2.more Z,h3.more Z,h4.more Z,h5.more Z⟩
def qv(b b' u u' s s' kn kn' :AV) (m:Mem) (c:Go.Eng.Callee) (a:List AV) (N:Mem) (r:CallRes):Prop:=(∃Z,N=m++Z)∧((c=.fn 82∧a=[b,b'])∨(c=.fn 32∧a=[u,u'])∨(c=.fn 83∧a=[s,s'])∨(c=.fn 84∧a=[kn,kn']))∧r=⟨.bool true,none,[]⟩
theorem Lu{m:Mem}{e e' :List AV}{c:Evc}(hc:c.Ok) (h:EvAt m e c) (h' :EvAt m e' c):ACallsTo Tryz.prog 49 [.agg e,.agg e'] m (.bool true) m:=by
 obtain⟨b,u,s,kn,rfl,h1,h2,h3,h4⟩:=h
 obtain⟨b',u',s',kn',rfl,k1,k2,k3,k4⟩:=h'
 have hO:OracleOk Tryz.prog (dE (qv b b' u u' s s' kn kn' m)):=lQ fun f a N r hr=>by
  obtain⟨⟨Z,rfl⟩,hr,rfl⟩:=hr
  rcases hr with⟨rfl,rfl⟩ | ⟨rfl,rfl⟩ | ⟨rfl,rfl⟩ | ⟨rfl,rfl⟩
  ·exact au (by simpa using xP hc.B (h1.more Z) (k1.more Z))
  ·exact au (by simpa using Qg hc.U (h2.more Z) (k2.more Z))
  ·exact au (by simpa using K5 (h3.more Z) (k3.more Z) (by have:=hc.S;omega) hc.SL)
  ·exact au (by simpa using PB hc.K (h4.more Z) (k4.more Z))
 exact Ln hO (ci (S:=qv b b' u u' s s' kn kn' m) ⟨⟨_,rfl⟩,.inl ⟨rfl,rfl⟩,rfl⟩ fun r' h=>h.2.2) (ci (S:=qv b b' u u' s s' kn kn' m) ⟨⟨_,rfl⟩,.inr (.inl ⟨rfl,rfl⟩),rfl⟩ fun r' h=>h.2.2)
  (ci (S:=qv b b' u u' s s' kn kn' m) ⟨⟨_,rfl⟩,.inr (.inr (.inl ⟨rfl,rfl⟩)),rfl⟩ fun r' h=>h.2.2) (ci (S:=qv b b' u u' s s' kn kn' m) ⟨⟨_,rfl⟩,.inr (.inr (.inr ⟨rfl,rfl⟩)),rfl⟩ fun r' h=>h.2.2)
def JI(nm:List UInt8) (n:Z3) (o:Int) (s:Z3):Evc:={ k:=2,nm:=nm,x5:=zS n.1,x6:=zS n.2.1,x7:=zS n.2.2,x8:=zS o,x9:=zS s.1,x10:=zS s.2.1,x11:=zS s.2.2 }
def OH(nm:List UInt8) (n:Z3) (K:List (List UInt8×List UInt8)) (s:Z3):Evc:={ k:=3,nm:=nm,x12:=zS n.1,x13:=zS n.2.1,x14:=zS n.2.2,K:=K,x16:=zS s.1,x17:=zS s.2.1,x18:=zS s.2.2 }
def OM(nm:List UInt8) (n:Z3) (o w:Int) (u:List UInt8):Evc:={ k:=4,nm:=nm,x19:=zS n.1,x20:=zS n.2.1,x21:=zS n.2.2,x22:=zS o,x23:=aK (hQ w),x24:=u }
def Oq(nm:List UInt8) (t:Int×Int×Int×Int) (c:Z3):Evc:={ k:=5,nm:=nm,t1:=t.1,t2:=t.2.1,t3:=t.2.2.1,t4:=t.2.2.2,x29:=zS c.1,x30:=zS c.2.1,x31:=zS c.2.2 }
def J6(nm:List UInt8) (B U:List (List UInt8)) (S:List (List (List UInt8))):Evc:={ k:=1,nm:=nm,B:=B,U:=U,S:=S }
theorem vV{c:Evc}(hB:c.B=[]) (hU:c.U=[]) (hS:c.S=[]) (hK:c.K.length≤1000):c.Ok:=⟨by simp[hB],by simp[hU],by simp[hS],by simp[hS],hK⟩
theorem vN(N:Mem):SfAt N .nilslice []:=⟨[],rfl,.inl ⟨rfl,rfl,rfl⟩,fun i x L h=>by simp at h⟩
theorem yi{N:Mem}{ev:List AV}{c:Evc}(h:ev=c.cells .nilslice .nilslice .nilslice .nilslice) (hB:c.B=[]) (hU:c.U=[]) (hS:c.S=[]) (hK:c.K=[]):EvAt N ev c:=
 ⟨_,_,_,_,h,.inl ⟨rfl,by simp[hB],by simp[hB,stC]⟩,.inl ⟨rfl,by simp[hU],by simp[hU,stC]⟩,by rw[hS];exact vN N,.inl ⟨rfl,by simp[hK],by simp[hK,kC]⟩⟩
theorem Bs{N:Mem}{nm:List UInt8}{B U:List (List UInt8)}{S:List (List (List UInt8))}{b u:Nat}{o o2:Bool}{sv:AV}(hB:0<B.length) (hU:0<U.length) (hb:N[b]? =some (.cells o 1 (stC B))) (hu:N[u]? =some (.cells o2 1 (stC U))) (hs:SfAt N sv S):
  EvAt N (aL nm (.slice b 0 B.length none) (.slice u 0 U.length none) sv) (J6 nm B U S):=⟨_,_,_,.nilslice,rfl,.inr ⟨b,o,rfl,hB,hb⟩,.inr ⟨u,o2,rfl,hU,hu⟩,hs,.inl ⟨rfl,rfl,rfl⟩⟩
theorem Nm{N:Mem}{nm:List UInt8}{n s:Z3}{L:List P2}{b:Nat}{o:Bool}(hL:0<L.length) (hb:N[b]? =some (.cells o 2 (pC L))):EvAt N (bp nm n (.slice b 0 L.length none) s) (OH nm n (kT L) s):=
 ⟨.nilslice,.nilslice,.nilslice,_,rfl,.inl ⟨rfl,rfl,rfl⟩,.inl ⟨rfl,rfl,rfl⟩,vN N,.inr ⟨b,o,by show AV.slice b 0 L.length none=.slice b 0 (kT L).length none;rw[ib],by show 0<(kT L).length;rw[ib];exact hL,by show N[b]? =some (.cells o 2 (kC (kT L)));rw[←Gk];exact hb⟩⟩
theorem Ql{N:Mem}{c r1:Nat}{o o1:Bool}{L1:List (List UInt8)}(hc:N[c]? =some (.cells o 1 [.slice r1 0 L1.length none])) (h1:N[r1]? =some (.cells o1 1 (stC L1))) (l1:0<L1.length):SfAt N (.slice c 0 1 none) [L1]:=
 ⟨_,rfl,.inr ⟨c,o,rfl,by simp,hc⟩,fun i x L hx hL=>by
  match i,hx,hL with
  |0,hx,hL=>simp at hx hL;subst hx hL;exact .inr ⟨r1,o1,rfl,l1,h1⟩
  |i+1,hx,hL=>simp at hx⟩
theorem Qt{N:Mem}{c r1 r2:Nat}{o o1 o2:Bool}{L1 L2:List (List UInt8)}(hc:N[c]? =some (.cells o 1 [.slice r1 0 L1.length none,.slice r2 0 L2.length none])) (h1:N[r1]? =some (.cells o1 1 (stC L1))) (h2:N[r2]? =some (.cells o2 1 (stC L2))) (l1:0<L1.length) (l2:0<L2.length):SfAt N (.slice c 0 2 none) [L1,L2]:=
 ⟨_,rfl,.inr ⟨c,o,rfl,by simp,hc⟩,fun i x L hx hL=>by
  match i,hx,hL with
  |0,hx,hL=>simp at hx hL;subst hx hL;exact .inr ⟨r1,o1,rfl,l1,h1⟩
  |1,hx,hL=>simp at hx hL;subst hx hL;exact .inr ⟨r2,o2,rfl,l2,h2⟩
  |i+2,hx,hL=>simp at hx⟩
def hT(Z:List Int):List (List UInt8):=(qH Z).map aK
theorem cQ(Z:List Int):(hT Z).length=Z.length:=by simp[hT,qH]
theorem tL(Z:List Int):gO Z=.cells true 1 (stC (hT Z)):=by rw[gO,tP];rfl
end Go.Proofs
