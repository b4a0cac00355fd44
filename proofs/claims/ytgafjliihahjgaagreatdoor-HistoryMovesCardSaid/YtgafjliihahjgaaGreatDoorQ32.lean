/- See Q54. -/
import Derived.Test.YtgafjliihahjgaaGreatDoorQ31
set_option linter.all false
namespace Go.Proofs
open Go.Eng
theorem K7{ks:List Nat}{M:Mem}{b es:Nat}{o:Bool}{cs cs' :List AV}(hu:AV.unders ks.length cs=true) (h:M[b]? =some (.cells o es cs')) (hr:cs' =AV.rens (ar ks M.length) cs):SubSlot ks M b (.cells false es cs):=by refine⟨hu,o,cs',h,fun j v hv=>?_⟩;rw[hr,fb,List.getElem?_map,hv];rfl
theorem jr(s:Sheet) (nm:List UInt8) (n:Z3) (a:Int) (v:Z3) (hm:nm∈bl) (hn:dO 99 n) (hz:gh n=false) (ho:a.natAbs≤1000) (hs:dO 99 v) (hd:DE v n=0) (M:Mem) (p t:Nat) (o o' :Bool) (hp:M[p]? =some (.cells o 2 (pC s.P))) (ht:M[t]? =some (.cells o' 3 (tC s.T))):
  ACallsTo Tryz.prog 61 [.agg [.slice p 0 s.P.length none,.slice t 0 s.T.length none],.agg (bm nm n a v)] M (.int .i64 0) M:=by
 have l0:=(List.getElem?_eq_some_iff.1 hp).1;have l1:=(List.getElem?_eq_some_iff.1 ht).1;have:=ACallsTo.frame (M:=M) (new:=[]) [p,t] rfl (by simp[l0,l1]) (by rfl) (fun i q hs=>by
  match i with
  |0=>simp at hs;subst hs;exact bI (dr _) hp List.take_length
  |1=>simp at hs;subst hs;exact bI (eK _) ht List.take_length
  |i+2=>simp at hs) rfl (rM s nm n a v hm hn hz ho hs hd)
 simpa [shA,bm,AV.rens,AV.ren,ar] using this
theorem jV(s:Sheet) (nm:List UInt8) (n:Z3) (a w:Int) (u:List UInt8) (hm:nm∈bl) (hn:dO 99 n) (hz:gh n=false) (ho:a.natAbs≤1000) (hw:0<w) (hw2:w<1000) (hu:u∈bl) (M:Mem) (p t:Nat) (o o' :Bool) (hp:M[p]? =some (.cells o 2 (pC s.P))) (ht:M[t]? =some (.cells o' 3 (tC s.T))):
  ACallsTo Tryz.prog 61 [.agg [.slice p 0 s.P.length none,.slice t 0 s.T.length none],.agg (db nm n a w u)] M (.int .i64 0) M:=by
 have l0:=(List.getElem?_eq_some_iff.1 hp).1;have l1:=(List.getElem?_eq_some_iff.1 ht).1;have:=ACallsTo.frame (M:=M) (new:=[]) [p,t] rfl (by simp[l0,l1]) (by rfl) (fun i q hs=>by
  match i with
  |0=>simp at hs;subst hs;exact bI (dr _) hp List.take_length
  |1=>simp at hs;subst hs;exact bI (eK _) ht List.take_length
  |i+2=>simp at hs) rfl (tG s nm n a w u hm hn hz ho hw hw2 hu)
 simpa [shA,db,AV.rens,AV.ren,ar] using this
theorem jX(s:Sheet) (nm:List UInt8) (i:Nat) (c:Z3) (hm:nm∈bl) (hc:dO 99 c) (M:Mem) (p t:Nat) (o o' :Bool) (hp:M[p]? =some (.cells o 2 (pC s.P))) (ht:M[t]? =some (.cells o' 3 (tC s.T))):
  ACallsTo Tryz.prog 61 [.agg [.slice p 0 s.P.length none,.slice t 0 s.T.length none],.agg (cx nm (bn i) c)] M (.int .i64 0) M:=by
 have l0:=(List.getElem?_eq_some_iff.1 hp).1;have l1:=(List.getElem?_eq_some_iff.1 ht).1;have:=ACallsTo.frame (M:=M) (new:=[]) [p,t] rfl (by simp[l0,l1]) (by rfl) (fun i q hs=>by
  match i with
  |0=>simp at hs;subst hs;exact bI (dr _) hp List.take_length
  |1=>simp at hs;subst hs;exact bI (eK _) ht List.take_length
  |i+2=>simp at hs) rfl (tI s nm i c hm hc)
 simpa [shA,cx,AV.rens,AV.ren,ar] using this
theorem jW(s:Sheet) (nm:List UInt8) (n v:Z3) (d:Deed) (c:Nat) (h1:0<c) (hc:c≤3) (hm:nm∈bl) (hn:dO 99 n) (hz:gh n=false) (hs:dO 99 v) (hd:DE v n=0) (M:Mem) (p t:Nat) (o o' :Bool) (hp:M[p]? =some (.cells o 2 (pC s.P))) (ht:M[t]? =some (.cells o' 3 (tC s.T))) (b:Nat) (q:Bool) (hb:M[b]? =some (.cells q 2 (pC (bM d c)))):
  ACallsTo Tryz.prog 61 [.agg [.slice p 0 s.P.length none,.slice t 0 s.T.length none],.agg (bt nm n (.slice b 0 c none) v)] M (.int .i64 0) M:=by
 have l0:=(List.getElem?_eq_some_iff.1 hp).1;have l1:=(List.getElem?_eq_some_iff.1 ht).1;have l2:=(List.getElem?_eq_some_iff.1 hb).1;have:=ACallsTo.frame (M:=M) (new:=[]) [p,t,b] rfl (by simp[l0,l1,l2]) (by rfl) (fun i q hs=>by
  match i with
  |0=>simp[sH] at hs;subst hs;exact bI (dr _) hp List.take_length
  |1=>simp[sH] at hs;subst hs;exact bI (eK _) ht List.take_length
  |2=>simp[sH] at hs;subst hs;exact bI (dr _) hb List.take_length
  |i+3=>simp[sH] at hs) rfl (tH s nm n v d c h1 hc hm hn hz hs hd)
 simpa [shA,bt,AV.rens,AV.ren,ar] using this
theorem jS(s:Sheet) (nm:List UInt8) (u0:List UInt8) (Z:List Int) (hm:nm∈bl) (n0:u0∈bl)  (hZ:∀z∈Z,z.natAbs<1000) (hl:Z.length≤1000) (hn:Z.length=s.P.length) (M:Mem) (p t:Nat) (o o' :Bool) (hp:M[p]? =some (.cells o 2 (pC s.P))) (ht:M[t]? =some (.cells o' 3 (tC s.T))) (b u:Nat) (q1 q2:Bool) (hb:M[b]? =some (.cells q1 1 (qC (qH Z)))) (hu:M[u]? =some (.cells q2 1 [.str u0])):
  ACallsTo Tryz.prog 61 [.agg [.slice p 0 s.P.length none,.slice t 0 s.T.length none],.agg (aU nm (.slice b 0 Z.length none) (.slice u 0 1 none) (.nilslice))] M (.int .i64 0) M:=by
 have lp:=(List.getElem?_eq_some_iff.1 hp).1;have lt:=(List.getElem?_eq_some_iff.1 ht).1;have lb:=(List.getElem?_eq_some_iff.1 hb).1;have lu:=(List.getElem?_eq_some_iff.1 hu).1;have:=ACallsTo.frame (M:=M) (new:=[]) [p,t,b,u] rfl (by simp[lp,lt,lb,lu]) (by rfl) (fun i q hs=>by
  match i with
  |0=>simp[kR] at hs;subst hs;exact bI (dr _) hp List.take_length
  |1=>simp[kR] at hs;subst hs;exact bI (eK _) ht List.take_length
  |2=>simp[kR] at hs;subst hs;exact bI (iJ _) hb List.take_length
  |3=>simp[kR] at hs;subst hs;exact bI (by rfl) hu List.take_length
  |i+4=>simp[kR] at hs) rfl (tB s nm u0 Z hm n0  hZ hl hn)
 simpa [shA,aU,AV.rens,AV.ren,ar] using this
theorem jT(s:Sheet) (nm:List UInt8) (u0 u1:List UInt8) (Z Y1:List Int) (hm:nm∈bl) (n0:u0∈bl) (n1:u1∈bl) (d01:u1≠u0) (hZ:∀z∈Z,z.natAbs<1000) (hl:Z.length≤1000) (hn:Z.length=s.P.length) (hY1:∀z∈Y1,z.natAbs<1000) (hl1:Y1.length=s.P.length) (hle1:∀(i:Nat) z y,Z[i]? =some z→Y1[i]? =some y→z≤y) (M:Mem) (p t:Nat) (o o' :Bool) (hp:M[p]? =some (.cells o 2 (pC s.P))) (ht:M[t]? =some (.cells o' 3 (tC s.T))) (b u:Nat) (q1 q2:Bool) (hb:M[b]? =some (.cells q1 1 (qC (qH Z)))) (hu:M[u]? =some (.cells q2 1 [.str u0,.str u1])) (c r1:Nat) (q3 w1:Bool) (hc:M[c]? =some (.cells q3 1 [.slice r1 0 Z.length none])) (hr1:M[r1]? =some (.cells w1 1 (qC (qH Y1)))):
  ACallsTo Tryz.prog 61 [.agg [.slice p 0 s.P.length none,.slice t 0 s.T.length none],.agg (aU nm (.slice b 0 Z.length none) (.slice u 0 2 none) (.slice c 0 1 none))] M (.int .i64 0) M:=by
 have lp:=(List.getElem?_eq_some_iff.1 hp).1;have lt:=(List.getElem?_eq_some_iff.1 ht).1;have lb:=(List.getElem?_eq_some_iff.1 hb).1;have lu:=(List.getElem?_eq_some_iff.1 hu).1;have lc:=(List.getElem?_eq_some_iff.1 hc).1;have lr1:=(List.getElem?_eq_some_iff.1 hr1).1;have:=ACallsTo.frame (M:=M) (new:=[]) [p,t,b,u,c,r1] rfl (by simp[lp,lt,lb,lu,lc,lr1]) (by rfl) (fun i q hs=>by
  match i with
  |0=>simp[iO] at hs;subst hs;exact bI (dr _) hp List.take_length
  |1=>simp[iO] at hs;subst hs;exact bI (eK _) ht List.take_length
  |2=>simp[iO] at hs;subst hs;exact bI (iJ _) hb List.take_length
  |3=>simp[iO] at hs;subst hs;exact bI (by rfl) hu List.take_length
  |4=>simp[iO] at hs;subst hs;exact K7 (by rfl) hc (by simp[AV.rens,AV.ren,ar])
  |5=>simp[iO] at hs;subst hs;exact bI (iJ _) hr1 List.take_length
  |i+6=>simp[iO] at hs) rfl (tD s nm u0 u1 Z Y1 hm n0 n1 d01 hZ hl hn hY1 hl1 hle1)
 simpa [shA,aU,AV.rens,AV.ren,ar] using this
theorem jU(s:Sheet) (nm:List UInt8) (u0 u1 u2:List UInt8) (Z Y1 Y2:List Int) (hm:nm∈bl) (n0:u0∈bl) (n1:u1∈bl) (n2:u2∈bl) (d01:u1≠u0) (d02:u2≠u0) (d12:u2≠u1) (hZ:∀z∈Z,z.natAbs<1000) (hl:Z.length≤1000) (hn:Z.length=s.P.length) (hY1:∀z∈Y1,z.natAbs<1000) (hl1:Y1.length=s.P.length) (hle1:∀(i:Nat) z y,Z[i]? =some z→Y1[i]? =some y→z≤y) (hY2:∀z∈Y2,z.natAbs<1000) (hl2:Y2.length=s.P.length) (hle2:∀(i:Nat) z y,Y1[i]? =some z→Y2[i]? =some y→z≤y) (M:Mem) (p t:Nat) (o o' :Bool) (hp:M[p]? =some (.cells o 2 (pC s.P))) (ht:M[t]? =some (.cells o' 3 (tC s.T))) (b u:Nat) (q1 q2:Bool) (hb:M[b]? =some (.cells q1 1 (qC (qH Z)))) (hu:M[u]? =some (.cells q2 1 [.str u0,.str u1,.str u2])) (c r1 r2:Nat) (q3 w1 w2:Bool) (hc:M[c]? =some (.cells q3 1 [.slice r1 0 Z.length none,.slice r2 0 Z.length none])) (hr1:M[r1]? =some (.cells w1 1 (qC (qH Y1)))) (hr2:M[r2]? =some (.cells w2 1 (qC (qH Y2)))):
  ACallsTo Tryz.prog 61 [.agg [.slice p 0 s.P.length none,.slice t 0 s.T.length none],.agg (aU nm (.slice b 0 Z.length none) (.slice u 0 3 none) (.slice c 0 2 none))] M (.int .i64 0) M:=by
 have lp:=(List.getElem?_eq_some_iff.1 hp).1;have lt:=(List.getElem?_eq_some_iff.1 ht).1;have lb:=(List.getElem?_eq_some_iff.1 hb).1;have lu:=(List.getElem?_eq_some_iff.1 hu).1;have lc:=(List.getElem?_eq_some_iff.1 hc).1;have lr1:=(List.getElem?_eq_some_iff.1 hr1).1;have lr2:=(List.getElem?_eq_some_iff.1 hr2).1;have:=ACallsTo.frame (M:=M) (new:=[]) [p,t,b,u,c,r1,r2] rfl (by simp[lp,lt,lb,lu,lc,lr1,lr2]) (by rfl) (fun i q hs=>by
  match i with
  |0=>simp[ic] at hs;subst hs;exact bI (dr _) hp List.take_length
  |1=>simp[ic] at hs;subst hs;exact bI (eK _) ht List.take_length
  |2=>simp[ic] at hs;subst hs;exact bI (iJ _) hb List.take_length
  |3=>simp[ic] at hs;subst hs;exact bI (by rfl) hu List.take_length
  |4=>simp[ic] at hs;subst hs;exact K7 (by rfl) hc (by simp[AV.rens,AV.ren,ar])
  |5=>simp[ic] at hs;subst hs;exact bI (iJ _) hr1 List.take_length
  |6=>simp[ic] at hs;subst hs;exact bI (iJ _) hr2 List.take_length
  |i+7=>simp[ic] at hs) rfl (tE s nm u0 u1 u2 Z Y1 Y2 hm n0 n1 n2 d01 d02 d12 hZ hl hn hY1 hl1 hle1 hY2 hl2 hle2)
 simpa [shA,aU,AV.rens,AV.ren,ar] using this
theorem lg(nm:List UInt8) (n:Z3) (a:Int) (v:Z3) (M:Mem):ACallsTo Tryz.prog 62 [.agg (bm nm n a v)] M .nilslice M:=by
 have hG:aL Tryz.prog 62=some Tryz.f62:=by kernel_rfl
 refine aq (ao _) (lv:=fun _=>[]) (K:=1) rfl rfl ?_ M;simp[aa,hG,Tryz.f62,bm]
theorem mV(nm:List UInt8) (q:Int×Int×Int×Int) (c:Z3) (M:Mem):ACallsTo Tryz.prog 62 [.agg (cx nm q c)] M .nilslice M:=by
 have hG:aL Tryz.prog 62=some Tryz.f62:=by kernel_rfl
 refine aq (ao _) (lv:=fun _=>[]) (K:=1) rfl rfl ?_ M;simp[aa,hG,Tryz.f62,cx]
theorem mU(nm:List UInt8) (n v:Z3) (x:AV) (M:Mem):ACallsTo Tryz.prog 62 [.agg (bt nm n x v)] M .nilslice M:=by
 have hG:aL Tryz.prog 62=some Tryz.f62:=by kernel_rfl
 refine aZ (K:=1) (lv:=fun _=>[]) (ao _) ?_;simp[aa,hG,Tryz.f62,bt]
theorem we(nm:List UInt8) (n:Z3) (a w:Int) (u:List UInt8) (M:Mem):ACallsTo Tryz.prog 62 [.agg (db nm n a w u)] M (.slice M.length 0 1 none) (M++[.cells true 1 [.str u]]):=by
 have hG:aL Tryz.prog 62=some Tryz.f62:=by kernel_rfl
 have h:aa (aM Tryz.prog) (fun _=>[]) (aL Tryz.prog) bJ 1 62 [.agg (db nm n a w u)] []=some ⟨.slice 0 0 1 none,none,[.cells true 1 [.str u]]⟩:=by simp[aa,hG,Tryz.f62,db,List.idxOf?_cons]
 have h1:=(al ae (aw _) (ao _) (az _) h).1;have h2:ACallsTo Tryz.prog 62 [.agg (db nm n a w u)] [] (.slice 0 0 1 none) ([]++[.cells true 1 [.str u]]):=by simpa [CallRes.mem] using h1
 have:=ACallsTo.frame (M:=M) (m:=[]) (new:=[.cells true 1 [.str u]]) [] rfl (by simp) (by rfl) (fun i q hs=>by simp at hs) rfl h2;simpa [db,AV.rens,AV.ren,Slot.ren,ar] using this
theorem DR(L:List (List UInt8)) (h1:0<L.length) (h3:L.length≤3):ACallsTo Tryz.prog 66 [.slice 0 0 L.length none] [.cells false 1 (stC L)] (.slice 1 0 L.length none) [.cells false 1 (stC L),.cells true 1 (stC L)]:=by
 have hG:aL Tryz.prog 66=some Tryz.f66:=by kernel_rfl
 have h:aa (aM Tryz.prog) (fun _=>[]) (aL Tryz.prog) bJ 1 66 [.slice 0 0 L.length none] [.cells false 1 (stC L)]=some ⟨.slice 1 0 L.length none,none,[.cells true 1 (stC L)]⟩:=by
  match L,h1,h3 with
  | [u],_,_=>simp[aa,hG,Tryz.f66,stC,JH,List.idxOf?_cons]
  | [u,v],_,_=>simp[aa,hG,Tryz.f66,stC,JH,List.idxOf?_cons]
  | [u,v,w],_,_=>simp[aa,hG,Tryz.f66,stC,JH,List.idxOf?_cons]
 have:=(al ae (aw _) (ao _) (az _) h).1;simpa [CallRes.mem] using this
theorem Iv(L:List (List UInt8)) (h1:0<L.length) (h3:L.length≤3) (M:Mem) (b:Nat) (o:Bool) (hb:M[b]? =some (.cells o 1 (stC L))):ACallsTo Tryz.prog 66 [.slice b 0 L.length none] M (.slice M.length 0 L.length none) (M++[.cells true 1 (stC L)]):=by obtain⟨b',h,_,h2⟩:=ACallsTo.rows1C (rest:=[]) (new:=[.cells true 1 (stC L)]) (jn L) rfl rfl (DR L h1 h3) (M:=M) (x:=.slice b 0 L.length none) ⟨b,o,_,rfl,hb,List.take_length⟩;cases h;simpa [AV.ren,Slot.ren,ar,bH (jn L)] using h2
theorem xO(nm:List UInt8) (x y:AV) (L:List (List UInt8)) (h1:0<L.length) (h3:L.length≤3) (M:Mem) (b:Nat) (o:Bool) (hb:M[b]? =some (.cells o 1 (stC L))):
  ACallsTo Tryz.prog 62 [.agg (aU nm x (.slice b 0 L.length none) y)] M (.slice (M.length+1) 0 L.length none) (M++[.cells true 0 (aU nm x (.slice b 0 L.length none) y),.cells true 1 (stC L)]):=by
 have hG:aL Tryz.prog 62=some Tryz.f62:=by kernel_rfl
 have lb:=(List.getElem?_eq_some_iff.1 hb).1;obtain⟨E,hE⟩:∃E:Mem,E=[.cells true 0 (aU nm x (.slice b 0 L.length none) y)]:=⟨_,rfl⟩
 have hc:=Iv L h1 h3 (M++E) b o (by rw[List.getElem?_append_left lb];exact hb);have hO:OracleOk Tryz.prog (dR [(66,[.slice b 0 L.length none],M++E,⟨.slice (M.length+1) 0 L.length none,none,[.cells true 1 (stC L)]⟩)]):=er fun e he=>by simp only[List.mem_cons,List.not_mem_nil,or_false] at he;subst he;refine⟨?_,by simp⟩;rw[hE] at hc ⊢;simpa [CallRes.mem] using hc
 have h:cf (aM Tryz.prog) (fun _=>[]) (aL Tryz.prog) (dR [(66,[.slice b 0 L.length none],M++E,⟨.slice (M.length+1) 0 L.length none,none,[.cells true 1 (stC L)]⟩)]) 1 62 [.agg (aU nm x (.slice b 0 L.length none) y)] M=some (.slice (M.length+1) 0 L.length none,M++[.cells true 0 (aU nm x (.slice b 0 L.length none) y),.cells true 1 (stC L)]):=by rw[hE];simp[cf,hG,Tryz.f62,aU,dR]
 have:=bZ ae (aw _) hO (az _) h;exact this
def Keeps(b:Nat) (new M' :Mem):Prop:=∀(k:Nat) x,new[k]? =some x→M'[b+k]? =some x
def fq(b:Nat) (new:Mem) (ev:List AV) (U:List (List UInt8)):Prop:=∀M',Keeps b new M' →∃v nw,ACallsTo Tryz.prog 62 [.agg ev] M' v (M' ++nw)∧∀ext,sts (M' ++nw++ext) v=some U
theorem Ks{M:Mem}{b:Nat}{o:Bool}{L:List (List UInt8)}(h:M[b]? =some (.cells o 1 (stC L))):sts M (.slice b 0 L.length none)=some L:=by unfold sts;rw[Hk h (by rw[eJ];omega) (by rw[←eJ,Nat.mul_one,List.take_length])];exact zI _
theorem oc{b:Nat}{new:Mem}{ev:List AV}(h:∀M,ACallsTo Tryz.prog 62 [.agg ev] M .nilslice M):fq b new ev []:=fun M' _=>⟨.nilslice,[],by simpa using h M',fun _=>rfl⟩
theorem sj{b:Nat}{new:Mem}(nm:List UInt8) (n:Z3) (a w:Int) (u:List UInt8):fq b new (db nm n a w u) [u]:=fun M' _=>⟨.slice M'.length 0 1 none,[.cells true 1 [.str u]],we nm n a w u M',fun ext' =>Ks (L:=[u]) (o:=true) (by rw[List.append_assoc,List.getElem?_append_right (by omega),Nat.sub_self];rfl)⟩
theorem gB{b0:Nat}{new:Mem}(nm:List UInt8) (x y:AV) (L:List (List UInt8)) (h1:0<L.length) (h3:L.length≤3) (j:Nat) (o:Bool) (hb:new[j]? =some (.cells o 1 (stC L))):fq b0 new (aU nm x (.slice (b0+j) 0 L.length none) y) L:=fun M' hk=>by have hb' :=hk j _ hb;refine⟨.slice (M'.length+1) 0 L.length none,[.cells true 0 (aU nm x (.slice (b0+j) 0 L.length none) y),.cells true 1 (stC L)],xO nm x y L h1 h3 M' (b0+j) o hb',fun ext' =>Ks (o:=true) ?_⟩;rw[List.append_assoc,List.getElem?_append_right (by omega),show M'.length+1-M'.length=1 by omega];rfl
def nq(M new:Mem):Prop:=(new.all fun x=>(x.own||match x with | .absent=>true | _=>false)&&x.refsOk (fun b=>decide (b<M.length+5)))=true
def pN(ev:List AV):Prop:=∀x∈ev,(match x with | .agg _=>false | .tuple _=>false | .undef=>false | _=>true)=true
def bE(d:Deed) (i:Nat):List (List UInt8):=if d.kind%5=0 then bj i (d.K.1%3) else if d.kind%5=3 then [gj i] else []
theorem RowAt.nil0{N:Mem}{v:AV}{es n:Nat}{C:List AV}(h:RowAt N v es n C) (hn:n=0):v=.nilslice:=by
 rcases h with⟨h,_,_⟩ | ⟨_,_,_,h,_⟩
 ·exact h
 ·omega
theorem RowAt.pos{N:Mem}{v:AV}{es n:Nat}{C:List AV}(h:RowAt N v es n C) (hn:0<n):∃b o,v=.slice b 0 n none∧N[b]? =some (.cells o es C):=by
 rcases h with⟨_,h,_⟩ | ⟨b,o,h1,_,h2⟩
 ·omega
 ·exact⟨b,o,h1,h2⟩
theorem SfAt.nil0{N:Mem}{v:AV}{S:List (List (List UInt8))}(h:SfAt N v S) (hS:S=[]):v=.nilslice:=by obtain⟨vs,_,h,_⟩:=h;exact h.nil0 (by rw[hS];rfl)
theorem RowAt.ck{N:Mem}{v:AV}{es n:Nat}{C:List AV}(h:RowAt N v es n C):v.cellOk=true:=by rcases h with⟨rfl,_⟩ | ⟨b,o,rfl,_⟩<;>rfl
theorem EvAt.l32{N:Mem}{e:List AV}{c:Evc}(h:EvAt N e c):e.length=32:=by obtain⟨b,u,s,kn,rfl,_⟩:=h;rfl
theorem EvAt.cok{N:Mem}{e:List AV}{c:Evc}(h:EvAt N e c):∀x∈e,x.cellOk=true:=by obtain⟨b,u,s,kn,rfl,h1,h2,⟨_,_,h3,_⟩,h4⟩:=h;intro x hx;simp only[Evc.cells,List.mem_cons,List.not_mem_nil,or_false] at hx;rcases hx with rfl | rfl | rfl | rfl | rfl | rfl | rfl | rfl | rfl | rfl | rfl | rfl | rfl | rfl | rfl | rfl | rfl | rfl | rfl | rfl | rfl | rfl | rfl | rfl | rfl | rfl | rfl | rfl | rfl | rfl | rfl | rfl<;>first | rfl | exact h1.ck | exact h2.ck | exact h3.ck | exact h4.ck
theorem RowAt.inj{N:Mem}{v:AV}{es n n' :Nat}{C C' :List AV}(h:RowAt N v es n C) (h' :RowAt N v es n' C'):n=n' ∧C=C' :=by
 rcases h with⟨rfl,rfl,rfl⟩ | ⟨b,o,rfl,hp,hb⟩
 ·rcases h' with⟨_,rfl,rfl⟩ | ⟨b',o',h,_⟩
  ·exact⟨rfl,rfl⟩
  ·cases h
 ·rcases h' with⟨h,_⟩ | ⟨b',o',h,_,hb'⟩
  ·cases h
  ·cases h
   rw[hb] at hb';cases hb';exact⟨rfl,rfl⟩
def unE(c:Evc):List (List UInt8):=if c.k=1 then c.U else if c.k=4 then [c.x24] else []
theorem SF{M:Mem}{ev:List AV}{c d:Evc}(h:EvAt M ev c) (k:EvAt M ev d):unE c=unE d:=by
 obtain⟨b,u,sv,kn,e1,_,h2,_,_⟩:=h;obtain⟨b',u',sv',kn',e2,_,k2,_,_⟩:=k;rw[e1] at e2;simp only[Evc.cells,List.cons.injEq,AV.int.injEq,AV.str.injEq,true_and,and_true] at e2;obtain⟨ek,_,_,eu,_,_,_,_,_,_,_,_,_,_,_,_,_,_,_,_,_,_,_,_,ex,_⟩:=e2;subst eu;have eU:c.U=d.U:=by have:=congrArg stP (h2.inj k2).2;rw[zI,zI] at this;exact Option.some.inj this
 unfold unE;rw[ek,eU,ex]
def rK(s:Sheet) (c:Evc):Prop:=∀(M:Mem) (p t:Nat) (o o' :Bool) (ev:List AV),M[p]? =some (.cells o 2 (pC s.P))→M[t]? =some (.cells o' 3 (tC s.T))→EvAt M ev c→ACallsTo Tryz.prog 61 [.agg [.slice p 0 s.P.length none,.slice t 0 s.T.length none],.agg ev] M (.int .i64 0) M
def Qi(c:Evc):Prop:=∀(M:Mem) (ev:List AV),EvAt M ev c→∃v nw,ACallsTo Tryz.prog 62 [.agg ev] M v (M++nw)∧∀ext,sts (M++nw++ext) v=some (unE c)
def Tx(c:Evc):Prop:=(∃nm B U S,c=DD nm B U S∧B≠[])∨(∃nm n o s,c=yL nm n o s)∨(∃nm n K s,c=Au nm n K s)∨(∃nm n o w u,c=JL nm n o w u)∨∃nm t x,c=JM nm t x
structure Tryz.Good0 (s:Sheet) (c:Evc):Prop where
 ok:c.Ok
 chk:rK s c
 un:Qi c
 le:(unE c).length≤3
inductive EvD where
 |dep (Z:List Int) (us:List (List UInt8)) (Ys:List (List Int))
 |fault (n:Z3) (o:Int) (v:Z3)
 |fold (n:Z3) (d:Deed) (c:Nat) (v:Z3)
 |dike (n:Z3) (o w:Int) (u:List UInt8)
 |tilt (i:Nat) (c:Z3)
def EvD.con(nm:List UInt8):EvD→Evc
 |.dep Z us Ys=>DD nm (hT Z) us (Ys.map hT)
 |.fault n o v=>yL nm n o v
 |.fold n d c v=>Au nm n (kT (bM d c)) v
 |.dike n o w u=>JL nm n o w u
 |.tilt i c=>JM nm (bn i) c
def EvD.Ok(s:Sheet):EvD→Prop
 |.dep Z us Ys=>Z.length=s.P.length∧us.length=Ys.length+1∧Ys.length≤2∧(∀z∈Z,z.natAbs<1000)∧∀Y∈Ys,Y.length=s.P.length∧∀z∈Y,z.natAbs<1000
 |.fault n o v=>dO 2 n∧gh n=false∧o.natAbs≤4∧dO 8 v∧DE v n=0
 |.fold n _ c v=>dO 2 n∧gh n=false∧0<c∧c≤3∧dO 8 v∧DE v n=0
 |.dike n o w _=>dO 2 n∧gh n=false∧o.natAbs≤4∧0<w∧w≤4
 |.tilt i c=>i≤5∧dO 2 c
structure Tryz.Good (s:Sheet) (c:Evc):Prop extends Tryz.Good0 s c where
 form:Tx c
 nmo:c.nm∈bl
 ren:∀nm∈bl,Tryz.Good0 s { c with nm:=nm }
 dk:c.k=4→∀nm∈bl,Tryz.Good0 s { c with nm:=nm,x24:=[122] }
 evd:∃w:EvD,w.Ok s∧c=w.con c.nm
theorem mX(s:Sheet) (nm:List UInt8) (n:Z3) (a:Int) (v:Z3) (hm:nm∈bl) (hn:dO 99 n) (hz:gh n=false) (ho:a.natAbs≤1000) (hs:dO 99 v) (hd:DE v n=0):Tryz.Good0 s (yL nm n a v) where
 ok:=xb rfl rfl rfl (by simp[yL])
 chk:=fun M p t o o' ev hp ht h=>by obtain⟨b,u,sv,kn,rfl,h1,h2,h3,h4⟩:=h;obtain rfl:=h1.nil0 rfl;obtain rfl:=h2.nil0 rfl;obtain rfl:=h3.nil0 rfl;obtain rfl:=h4.nil0 rfl;exact jr s nm n a v hm hn hz ho hs hd M p t o o' hp ht
 un:=fun M ev h=>by obtain⟨b,u,sv,kn,rfl,h1,h2,h3,h4⟩:=h;obtain rfl:=h1.nil0 rfl;obtain rfl:=h2.nil0 rfl;obtain rfl:=h3.nil0 rfl;obtain rfl:=h4.nil0 rfl;exact⟨.nilslice,[],by rw[List.append_nil];exact lg nm n a v M,fun _=>rfl⟩
 le:=by show(0:Nat)≤3;omega
theorem yg(s:Sheet) (nm:List UInt8) (n:Z3) (a:Int) (v:Z3) (hm:nm∈bl) (hn:dO 99 n) (hz:gh n=false) (ho:a.natAbs≤1000) (hs:dO 99 v) (hd:DE v n=0) (h2:dO 2 n) (o4:a.natAbs≤4) (v8:dO 8 v):Tryz.Good s (yL nm n a v) where
 toGood0:=mX s nm n a v hm hn hz ho hs hd
 form:=.inr (.inl ⟨_,_,_,_,rfl⟩)
 nmo:=hm
 ren:=fun nm' hm' =>mX s nm' n a v hm' hn hz ho hs hd
 dk:=fun h=>absurd h (by show¬((2:Int)=4);decide)
 evd:=⟨.fault n a v,⟨h2,hz,o4,v8,hd⟩,rfl⟩
theorem nZ(s:Sheet) (nm:List UInt8) (i:Nat) (c:Z3) (hm:nm∈bl) (hc:dO 99 c):Tryz.Good0 s (JM nm (bn i) c) where
 ok:=xb rfl rfl rfl (by simp[JM])
 chk:=fun M p t o o' ev hp ht h=>by obtain⟨b,u,sv,kn,rfl,h1,h2,h3,h4⟩:=h;obtain rfl:=h1.nil0 rfl;obtain rfl:=h2.nil0 rfl;obtain rfl:=h3.nil0 rfl;obtain rfl:=h4.nil0 rfl;exact jX s nm i c hm hc M p t o o' hp ht
 un:=fun M ev h=>by obtain⟨b,u,sv,kn,rfl,h1,h2,h3,h4⟩:=h;obtain rfl:=h1.nil0 rfl;obtain rfl:=h2.nil0 rfl;obtain rfl:=h3.nil0 rfl;obtain rfl:=h4.nil0 rfl;exact⟨.nilslice,[],by rw[List.append_nil];exact mV nm (bn i) c M,fun _=>rfl⟩
 le:=by show(0:Nat)≤3;omega
theorem Al(s:Sheet) (nm:List UInt8) (i:Nat) (c:Z3) (hm:nm∈bl) (hc:dO 99 c) (i5:i≤5) (c2:dO 2 c):Tryz.Good s (JM nm (bn i) c) where
 toGood0:=nZ s nm i c hm hc
 form:=.inr (.inr (.inr (.inr ⟨_,_,_,rfl⟩)))
 nmo:=hm
 ren:=fun nm' hm' =>nZ s nm' i c hm' hc
 dk:=fun h=>absurd h (by show¬((5:Int)=4);decide)
 evd:=⟨.tilt i c,⟨i5,c2⟩,rfl⟩
theorem jt(s:Sheet) (nm:List UInt8) (n:Z3) (a w:Int) (u:List UInt8) (hm:nm∈bl) (hn:dO 99 n) (hz:gh n=false) (ho:a.natAbs≤1000) (hw:0<w) (hw2:w<1000) (hu:u∈bl):Tryz.Good0 s (JL nm n a w u) where
 ok:=xb rfl rfl rfl (by simp[JL])
 chk:=fun M p t o o' ev hp ht h=>by obtain⟨b,u',sv,kn,rfl,h1,h2,h3,h4⟩:=h;obtain rfl:=h1.nil0 rfl;obtain rfl:=h2.nil0 rfl;obtain rfl:=h3.nil0 rfl;obtain rfl:=h4.nil0 rfl;exact jV s nm n a w u hm hn hz ho hw hw2 hu M p t o o' hp ht
 un:=fun M ev h=>by obtain⟨b,u',sv,kn,rfl,h1,h2,h3,h4⟩:=h;obtain rfl:=h1.nil0 rfl;obtain rfl:=h2.nil0 rfl;obtain rfl:=h3.nil0 rfl;obtain rfl:=h4.nil0 rfl;exact sj (b:=0) (new:=[]) nm n a w u M fun k x h=>by simp at h
 le:=by show(1:Nat)≤3;omega
theorem Aj(s:Sheet) (nm:List UInt8) (n:Z3) (a w:Int) (u:List UInt8) (hm:nm∈bl) (hn:dO 99 n) (hz:gh n=false) (ho:a.natAbs≤1000) (hw:0<w) (hw2:w<1000) (hu:u∈bl) (h2:dO 2 n) (o4:a.natAbs≤4) (w4:w≤4):Tryz.Good s (JL nm n a w u) where
 toGood0:=jt s nm n a w u hm hn hz ho hw hw2 hu
 form:=.inr (.inr (.inr (.inl ⟨_,_,_,_,_,rfl⟩)))
 nmo:=hm
 ren:=fun nm' hm' =>jt s nm' n a w u hm' hn hz ho hw hw2 hu
 dk:=fun _ nm' hm' =>jt s nm' n a w [122] hm' hn hz ho hw hw2 (by decide)
 evd:=⟨.dike n a w u,⟨h2,hz,o4,hw,w4⟩,rfl⟩
theorem nY(s:Sheet) (nm:List UInt8) (n v:Z3) (d:Deed) (c:Nat) (h1:0<c) (hc:c≤3) (hm:nm∈bl) (hn:dO 99 n) (hz:gh n=false) (hs:dO 99 v) (hd:DE v n=0):Tryz.Good0 s (Au nm n (kT (bM d c)) v) where
 ok:=xb rfl rfl rfl (by show(kT (bM d c)).length≤1000;rw[di,cH];omega)
 chk:=fun M p t o o' ev hp ht h=>by
  obtain⟨b,u,sv,kn,rfl,k1,k2,k3,k4⟩:=h;obtain rfl:=k1.nil0 rfl;obtain rfl:=k2.nil0 rfl;obtain rfl:=k3.nil0 rfl;have e:(Au nm n (kT (bM d c)) v).K.length=c:=by show(kT (bM d c)).length=c;rw[di,cH]
  rw[e] at k4;obtain⟨b,q,rfl,hb⟩:=k4.pos h1;have hb' :M[b]? =some (.cells q 2 (pC (bM d c))):=by rw[PN];exact hb
  exact jW s nm n v d c h1 hc hm hn hz hs hd M p t o o' hp ht b q hb'
 un:=fun M ev h=>by obtain⟨b,u,sv,kn,rfl,k1,k2,k3,k4⟩:=h;obtain rfl:=k1.nil0 rfl;obtain rfl:=k2.nil0 rfl;obtain rfl:=k3.nil0 rfl;exact⟨.nilslice,[],by rw[List.append_nil];exact mU nm n v kn M,fun _=>rfl⟩
 le:=by show(0:Nat)≤3;omega
theorem Ak(s:Sheet) (nm:List UInt8) (n v:Z3) (d:Deed) (c:Nat) (h1:0<c) (hc:c≤3) (hm:nm∈bl) (hn:dO 99 n) (hz:gh n=false) (hs:dO 99 v) (hd:DE v n=0) (h2:dO 2 n) (v8:dO 8 v):Tryz.Good s (Au nm n (kT (bM d c)) v) where
 toGood0:=nY s nm n v d c h1 hc hm hn hz hs hd
 form:=.inr (.inr (.inl ⟨_,_,_,_,rfl⟩))
 nmo:=hm
 ren:=fun nm' hm' =>nY s nm' n v d c h1 hc hm' hn hz hs hd
 dk:=fun h=>absurd h (by show¬((3:Int)=4);decide)
 evd:=⟨.fold n d c v,⟨h2,hz,h1,hc,v8,hd⟩,rfl⟩
theorem MT(Z:List Int):stC (hT Z)=qC (qH Z):=by rw[vp];rfl
theorem nV(s:Sheet) (nm:List UInt8) (u0:List UInt8) (Z:List Int) (hm:nm∈bl) (n0:u0∈bl)  (hZ:∀z∈Z,z.natAbs<1000) (hl:Z.length≤1000) (hpos:0<Z.length) (hn:Z.length=s.P.length):Tryz.Good0 s (DD nm (hT Z) [u0] []) where
 ok:=⟨by show(hT Z).length≤1000;rw[cJ];exact hl,by show(1:Nat)≤1000;omega,by show(0:Nat)≤2;omega,fun L hL=>by simp[DD] at hL,by show(0:Nat)≤1000;omega⟩
 chk:=fun M p t o o' ev hp ht h=>by
  obtain⟨b,u,sv,kn,rfl,k1,k2,k3,k4⟩:=h;obtain rfl:=k4.nil0 rfl;have e:(DD nm (hT Z) [u0] []).B.length=Z.length:=cJ Z;rw[e] at k1;obtain⟨b,q1,rfl,hb⟩:=k1.pos hpos;obtain⟨u,q2,rfl,hu⟩:=k2.pos (by show 0<1;omega);have hb' :M[b]? =some (.cells q1 1 (qC (qH Z))):=by rw[←MT];exact hb
  obtain rfl:=k3.nil0 rfl;exact jS s nm u0 Z hm n0  hZ hl hn  M p t o o' hp ht b u q1 q2 hb' hu
 un:=fun M ev h=>by
  obtain⟨b,u,sv,kn,rfl,k1,k2,k3,k4⟩:=h;obtain rfl:=k4.nil0 rfl;obtain⟨u,q2,rfl,hu⟩:=k2.pos (by show 0<1;omega);exact gB (b0:=u) (new:=[.cells q2 1 (stC [u0])]) nm b sv [u0] (by show 0<1;omega) (by show 1≤3;omega) 0 q2 rfl M fun k x hk=>by
   match k,hk with
   |0,hk=>simp only[List.getElem?_cons_zero,Option.some.injEq] at hk;subst hk;exact hu
   |k+1,hk=>simp at hk
 le:=by show(1:Nat)≤3;omega
theorem Ag(s:Sheet) (nm:List UInt8) (u0:List UInt8) (Z:List Int) (hm:nm∈bl) (n0:u0∈bl)  (hZ:∀z∈Z,z.natAbs<1000) (hl:Z.length≤1000) (hpos:0<Z.length) (hn:Z.length=s.P.length):Tryz.Good s (DD nm (hT Z) [u0] []) where
 toGood0:=nV s nm u0 Z hm n0 hZ hl hpos hn
 form:=.inl ⟨_,_,_,_,rfl,fun h=>by have e:(hT Z).length=0:=(by rw[h];rfl);rw[cJ] at e;omega⟩
 nmo:=hm
 ren:=fun nm' hm' =>nV s nm' u0 Z hm' n0 hZ hl hpos hn
 dk:=fun h=>absurd h (by show¬((1:Int)=4);decide)
 evd:=⟨.dep Z [u0] [],⟨hn,rfl,by decide,hZ,fun Y h=>by cases h⟩,rfl⟩
theorem nW(s:Sheet) (nm:List UInt8) (u0 u1:List UInt8) (Z Y1:List Int) (hm:nm∈bl) (n0:u0∈bl) (n1:u1∈bl) (d01:u1≠u0) (hZ:∀z∈Z,z.natAbs<1000) (hl:Z.length≤1000) (hpos:0<Z.length) (hn:Z.length=s.P.length) (hY1:∀z∈Y1,z.natAbs<1000) (hl1:Y1.length=s.P.length) (hle1:∀(i:Nat) z y,Z[i]? =some z→Y1[i]? =some y→z≤y):Tryz.Good0 s (DD nm (hT Z) [u0,u1] [hT Y1]) where
 ok:=⟨by show(hT Z).length≤1000;rw[cJ];exact hl,by show(2:Nat)≤1000;omega,by show(1:Nat)≤2;omega,fun L hL=>by simp only[DD,List.mem_cons,List.not_mem_nil,or_false] at hL;rcases hL with rfl<;>(rw[cJ];omega),by show(0:Nat)≤1000;omega⟩
 chk:=fun M p t o o' ev hp ht h=>by
  obtain⟨b,u,sv,kn,rfl,k1,k2,k3,k4⟩:=h;obtain rfl:=k4.nil0 rfl;have e:(DD nm (hT Z) [u0,u1] [hT Y1]).B.length=Z.length:=cJ Z;rw[e] at k1;obtain⟨b,q1,rfl,hb⟩:=k1.pos hpos;obtain⟨u,q2,rfl,hu⟩:=k2.pos (by show 0<2;omega);have hb' :M[b]? =some (.cells q1 1 (qC (qH Z))):=by rw[←MT];exact hb
  obtain⟨vs,lv,kv,kc⟩:=k3;obtain⟨v1,rfl⟩:∃v1,vs=[v1]:=by
   match vs,lv with
   | [v1],_=>exact⟨v1,rfl⟩
  obtain⟨c,q3,rfl,hc⟩:=kv.pos (by show 0<1;omega);have g1:=kc 0 v1 (hT Y1) rfl rfl;rw[cJ,hl1,←hn] at g1;obtain⟨r1,w1,rfl,hr1⟩:=g1.pos hpos;rw[MT] at hr1;exact jT s nm u0 u1 Z Y1 hm n0 n1 d01 hZ hl hn hY1 hl1 hle1 M p t o o' hp ht b u q1 q2 hb' hu c r1 q3 w1 hc hr1
 un:=fun M ev h=>by
  obtain⟨b,u,sv,kn,rfl,k1,k2,k3,k4⟩:=h;obtain rfl:=k4.nil0 rfl;obtain⟨u,q2,rfl,hu⟩:=k2.pos (by show 0<2;omega);exact gB (b0:=u) (new:=[.cells q2 1 (stC [u0,u1])]) nm b sv [u0,u1] (by show 0<2;omega) (by show 2≤3;omega) 0 q2 rfl M fun k x hk=>by
   match k,hk with
   |0,hk=>simp only[List.getElem?_cons_zero,Option.some.injEq] at hk;subst hk;exact hu
   |k+1,hk=>simp at hk
 le:=by show(2:Nat)≤3;omega
theorem Ah(s:Sheet) (nm:List UInt8) (u0 u1:List UInt8) (Z Y1:List Int) (hm:nm∈bl) (n0:u0∈bl) (n1:u1∈bl) (d01:u1≠u0) (hZ:∀z∈Z,z.natAbs<1000) (hl:Z.length≤1000) (hpos:0<Z.length) (hn:Z.length=s.P.length) (hY1:∀z∈Y1,z.natAbs<1000) (hl1:Y1.length=s.P.length) (hle1:∀(i:Nat) z y,Z[i]? =some z→Y1[i]? =some y→z≤y):Tryz.Good s (DD nm (hT Z) [u0,u1] [hT Y1]) where
 toGood0:=nW s nm u0 u1 Z Y1 hm n0 n1 d01 hZ hl hpos hn hY1 hl1 hle1
 form:=.inl ⟨_,_,_,_,rfl,fun h=>by have e:(hT Z).length=0:=(by rw[h];rfl);rw[cJ] at e;omega⟩
 nmo:=hm
 ren:=fun nm' hm' =>nW s nm' u0 u1 Z Y1 hm' n0 n1 d01 hZ hl hpos hn hY1 hl1 hle1
 dk:=fun h=>absurd h (by show¬((1:Int)=4);decide)
 evd:=⟨.dep Z [u0,u1] [Y1],⟨hn,rfl,by show(1:Nat)≤2;omega,hZ,fun Y h=>by rw[List.mem_singleton] at h;rw[h];exact⟨hl1,hY1⟩⟩,rfl⟩
theorem nX(s:Sheet) (nm:List UInt8) (u0 u1 u2:List UInt8) (Z Y1 Y2:List Int) (hm:nm∈bl) (n0:u0∈bl) (n1:u1∈bl) (n2:u2∈bl) (d01:u1≠u0) (d02:u2≠u0) (d12:u2≠u1) (hZ:∀z∈Z,z.natAbs<1000) (hl:Z.length≤1000) (hpos:0<Z.length) (hn:Z.length=s.P.length) (hY1:∀z∈Y1,z.natAbs<1000) (hl1:Y1.length=s.P.length) (hle1:∀(i:Nat) z y,Z[i]? =some z→Y1[i]? =some y→z≤y) (hY2:∀z∈Y2,z.natAbs<1000) (hl2:Y2.length=s.P.length) (hle2:∀(i:Nat) z y,Y1[i]? =some z→Y2[i]? =some y→z≤y):Tryz.Good0 s (DD nm (hT Z) [u0,u1,u2] [hT Y1,hT Y2]) where
 ok:=⟨by show(hT Z).length≤1000;rw[cJ];exact hl,by show(3:Nat)≤1000;omega,by show(2:Nat)≤2;omega,fun L hL=>by simp only[DD,List.mem_cons,List.not_mem_nil,or_false] at hL;rcases hL with rfl | rfl<;>(rw[cJ];omega),by show(0:Nat)≤1000;omega⟩
 chk:=fun M p t o o' ev hp ht h=>by
  obtain⟨b,u,sv,kn,rfl,k1,k2,k3,k4⟩:=h;obtain rfl:=k4.nil0 rfl;have e:(DD nm (hT Z) [u0,u1,u2] [hT Y1,hT Y2]).B.length=Z.length:=cJ Z;rw[e] at k1;obtain⟨b,q1,rfl,hb⟩:=k1.pos hpos;obtain⟨u,q2,rfl,hu⟩:=k2.pos (by show 0<3;omega);have hb' :M[b]? =some (.cells q1 1 (qC (qH Z))):=by rw[←MT];exact hb
  obtain⟨vs,lv,kv,kc⟩:=k3;obtain⟨v1,v2,rfl⟩:∃v1 v2,vs=[v1,v2]:=by
   match vs,lv with
   | [v1,v2],_=>exact⟨v1,v2,rfl⟩
  obtain⟨c,q3,rfl,hc⟩:=kv.pos (by show 0<2;omega);have g1:=kc 0 v1 (hT Y1) rfl rfl;rw[cJ,hl1,←hn] at g1;obtain⟨r1,w1,rfl,hr1⟩:=g1.pos hpos;rw[MT] at hr1;have g2:=kc 1 v2 (hT Y2) rfl rfl;rw[cJ,hl2,←hn] at g2;obtain⟨r2,w2,rfl,hr2⟩:=g2.pos hpos;rw[MT] at hr2;exact jU s nm u0 u1 u2 Z Y1 Y2 hm n0 n1 n2 d01 d02 d12 hZ hl hn hY1 hl1 hle1 hY2 hl2 hle2 M p t o o' hp ht b u q1 q2 hb' hu c r1 r2 q3 w1 w2 hc hr1 hr2
 un:=fun M ev h=>by
  obtain⟨b,u,sv,kn,rfl,k1,k2,k3,k4⟩:=h;obtain rfl:=k4.nil0 rfl;obtain⟨u,q2,rfl,hu⟩:=k2.pos (by show 0<3;omega);exact gB (b0:=u) (new:=[.cells q2 1 (stC [u0,u1,u2])]) nm b sv [u0,u1,u2] (by show 0<3;omega) (by show 3≤3;omega) 0 q2 rfl M fun k x hk=>by
   match k,hk with
   |0,hk=>simp only[List.getElem?_cons_zero,Option.some.injEq] at hk;subst hk;exact hu
   |k+1,hk=>simp at hk
 le:=by show(3:Nat)≤3;omega
theorem Ai(s:Sheet) (nm:List UInt8) (u0 u1 u2:List UInt8) (Z Y1 Y2:List Int) (hm:nm∈bl) (n0:u0∈bl) (n1:u1∈bl) (n2:u2∈bl) (d01:u1≠u0) (d02:u2≠u0) (d12:u2≠u1) (hZ:∀z∈Z,z.natAbs<1000) (hl:Z.length≤1000) (hpos:0<Z.length) (hn:Z.length=s.P.length) (hY1:∀z∈Y1,z.natAbs<1000) (hl1:Y1.length=s.P.length) (hle1:∀(i:Nat) z y,Z[i]? =some z→Y1[i]? =some y→z≤y) (hY2:∀z∈Y2,z.natAbs<1000) (hl2:Y2.length=s.P.length) (hle2:∀(i:Nat) z y,Y1[i]? =some z→Y2[i]? =some y→z≤y):Tryz.Good s (DD nm (hT Z) [u0,u1,u2] [hT Y1,hT Y2]) where
 toGood0:=nX s nm u0 u1 u2 Z Y1 Y2 hm n0 n1 n2 d01 d02 d12 hZ hl hpos hn hY1 hl1 hle1 hY2 hl2 hle2
 form:=.inl ⟨_,_,_,_,rfl,fun h=>by have e:(hT Z).length=0:=(by rw[h];rfl);rw[cJ] at e;omega⟩
 nmo:=hm
 ren:=fun nm' hm' =>nX s nm' u0 u1 u2 Z Y1 Y2 hm' n0 n1 n2 d01 d02 d12 hZ hl hpos hn hY1 hl1 hle1 hY2 hl2 hle2
 dk:=fun h=>absurd h (by show¬((1:Int)=4);decide)
 evd:=⟨.dep Z [u0,u1,u2] [Y1,Y2],⟨hn,rfl,by show(2:Nat)≤2;omega,hZ,fun Y h=>by
  simp only[List.mem_cons,List.not_mem_nil,or_false] at h;rcases h with rfl | rfl
  ·exact⟨hl1,hY1⟩
  ·exact⟨hl2,hY2⟩⟩,rfl⟩
end Go.Proofs
