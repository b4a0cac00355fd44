/- See N58. -/
import Derived.Test.YtmhkeaphiadacaaGreatDoorN42
import Derived.Test.YtmhkeaphiadacaaGreatDoorN41
set_option linter.all false
namespace Go.Proofs
open Go.Eng
theorem Kf{ks:List Nat}{M:Mem}{b es:Nat}{o:Bool}{cs cs' :List AV}(hu:AV.unders ks.length cs=true) (h:M[b]? =some (.cells o es cs')) (hr:cs' =AV.rens (da ks M.length) cs):SubSlot ks M b (.cells false es cs):=by
 refine⟨hu,o,cs',h,fun j v hv=>?_⟩
 rw[hr,ft,List.getElem?_map,hv]
 rfl
theorem jg(s:Sheet) (nm:List UInt8) (n:Z3) (a:Int) (v:Z3) (hm:nm∈bE) (hn:fI 99 n) (hz:iI n=false) (ho:a.natAbs≤1000) (hs:fI 99 v) (hd:JY v n=0) (M:Mem) (p t:Nat) (o o' :Bool) (hp:M[p]? =some (.cells o 2 (pC s.P))) (ht:M[t]? =some (.cells o' 3 (tC s.T))):
  ACallsTo Tryz.prog 43 [.agg [.slice p 0 s.P.length none,.slice t 0 s.T.length none],.agg (bK nm n a v)] M (.int .i64 0) M:=by
 have l0:=(List.getElem?_eq_some_iff.1 hp).1
 have l1:=(List.getElem?_eq_some_iff.1 ht).1
 have:=ACallsTo.frame (M:=M) (new:=[]) [p,t] rfl (by simp[l0,l1]) (by rfl) (fun i q hs=>by
  match i with
  |0=>simp at hs;subst hs;exact bm (dB _) hp List.take_length
  |1=>simp at hs;subst hs;exact bm (dL _) ht List.take_length
  |i+2=>simp at hs) rfl (rh s nm n a v hm hn hz ho hs hd)
 simpa [shA,bK,AV.rens,AV.ren,da] using this
theorem jI(s:Sheet) (nm:List UInt8) (n:Z3) (a w:Int) (u:List UInt8) (hm:nm∈bE) (hn:fI 99 n) (hz:iI n=false) (ho:a.natAbs≤1000) (hw:0<w) (hw2:w<1000) (hu:u∈bE) (M:Mem) (p t:Nat) (o o' :Bool) (hp:M[p]? =some (.cells o 2 (pC s.P))) (ht:M[t]? =some (.cells o' 3 (tC s.T))):
  ACallsTo Tryz.prog 43 [.agg [.slice p 0 s.P.length none,.slice t 0 s.T.length none],.agg (cn nm n a w u)] M (.int .i64 0) M:=by
 have l0:=(List.getElem?_eq_some_iff.1 hp).1
 have l1:=(List.getElem?_eq_some_iff.1 ht).1
 have:=ACallsTo.frame (M:=M) (new:=[]) [p,t] rfl (by simp[l0,l1]) (by rfl) (fun i q hs=>by
  match i with
  |0=>simp at hs;subst hs;exact bm (dB _) hp List.take_length
  |1=>simp at hs;subst hs;exact bm (dL _) ht List.take_length
  |i+2=>simp at hs) rfl (th s nm n a w u hm hn hz ho hw hw2 hu)
 simpa [shA,cn,AV.rens,AV.ren,da] using this
theorem jK(s:Sheet) (nm:List UInt8) (i:Nat) (c:Z3) (hm:nm∈bE) (hc:fI 99 c) (M:Mem) (p t:Nat) (o o' :Bool) (hp:M[p]? =some (.cells o 2 (pC s.P))) (ht:M[t]? =some (.cells o' 3 (tC s.T))):
  ACallsTo Tryz.prog 43 [.agg [.slice p 0 s.P.length none,.slice t 0 s.T.length none],.agg (cG nm (ed i) c)] M (.int .i64 0) M:=by
 have l0:=(List.getElem?_eq_some_iff.1 hp).1
 have l1:=(List.getElem?_eq_some_iff.1 ht).1
 have:=ACallsTo.frame (M:=M) (new:=[]) [p,t] rfl (by simp[l0,l1]) (by rfl) (fun i q hs=>by
  match i with
  |0=>simp at hs;subst hs;exact bm (dB _) hp List.take_length
  |1=>simp at hs;subst hs;exact bm (dL _) ht List.take_length
  |i+2=>simp at hs) rfl (tq s nm i c hm hc)
 simpa [shA,cG,AV.rens,AV.ren,da] using this
theorem jJ(s:Sheet) (nm:List UInt8) (n v:Z3) (d:Deed) (c:Nat) (h1:0<c) (hc:c≤3) (hm:nm∈bE) (hn:fI 99 n) (hz:iI n=false) (hs:fI 99 v) (hd:JY v n=0) (M:Mem) (p t:Nat) (o o' :Bool) (hp:M[p]? =some (.cells o 2 (pC s.P))) (ht:M[t]? =some (.cells o' 3 (tC s.T))) (b:Nat) (q:Bool) (hb:M[b]? =some (.cells q 2 (pC (co d c)))):
  ACallsTo Tryz.prog 43 [.agg [.slice p 0 s.P.length none,.slice t 0 s.T.length none],.agg (bq nm n (.slice b 0 c none) v)] M (.int .i64 0) M:=by
 have l0:=(List.getElem?_eq_some_iff.1 hp).1
 have l1:=(List.getElem?_eq_some_iff.1 ht).1
 have l2:=(List.getElem?_eq_some_iff.1 hb).1
 have:=ACallsTo.frame (M:=M) (new:=[]) [p,t,b] rfl (by simp[l0,l1,l2]) (by rfl) (fun i q hs=>by
  match i with
  |0=>simp[sm] at hs;subst hs;exact bm (dB _) hp List.take_length
  |1=>simp[sm] at hs;subst hs;exact bm (dL _) ht List.take_length
  |2=>simp[sm] at hs;subst hs;exact bm (dB _) hb List.take_length
  |i+3=>simp[sm] at hs) rfl (tl s nm n v d c h1 hc hm hn hz hs hd)
 simpa [shA,bq,AV.rens,AV.ren,da] using this
theorem jF(s:Sheet) (nm:List UInt8) (u0:List UInt8) (Z:List Int) (hm:nm∈bE) (n0:u0∈bE)  (hZ:∀z∈Z,z.natAbs<1000) (hl:Z.length≤1000) (hn:Z.length=s.P.length) (M:Mem) (p t:Nat) (o o' :Bool) (hp:M[p]? =some (.cells o 2 (pC s.P))) (ht:M[t]? =some (.cells o' 3 (tC s.T))) (b u:Nat) (q1 q2:Bool) (hb:M[b]? =some (.cells q1 1 (qC (qH Z)))) (hu:M[u]? =some (.cells q2 1 [.str u0])):
  ACallsTo Tryz.prog 43 [.agg [.slice p 0 s.P.length none,.slice t 0 s.T.length none],.agg (aQ nm (.slice b 0 Z.length none) (.slice u 0 1 none) (.nilslice))] M (.int .i64 0) M:=by
 have lp:=(List.getElem?_eq_some_iff.1 hp).1
 have lt:=(List.getElem?_eq_some_iff.1 ht).1
 have lb:=(List.getElem?_eq_some_iff.1 hb).1
 have lu:=(List.getElem?_eq_some_iff.1 hu).1
 have:=ACallsTo.frame (M:=M) (new:=[]) [p,t,b,u] rfl (by simp[lp,lt,lb,lu]) (by rfl) (fun i q hs=>by
  match i with
  |0=>simp[kR] at hs;subst hs;exact bm (dB _) hp List.take_length
  |1=>simp[kR] at hs;subst hs;exact bm (dL _) ht List.take_length
  |2=>simp[kR] at hs;subst hs;exact bm (iE _) hb List.take_length
  |3=>simp[kR] at hs;subst hs;exact bm (by rfl) hu List.take_length
  |i+4=>simp[kR] at hs) rfl (sZ s nm u0 Z hm n0  hZ hl hn)
 simpa [shA,aQ,AV.rens,AV.ren,da] using this
theorem jG(s:Sheet) (nm:List UInt8) (u0 u1:List UInt8) (Z Y1:List Int) (hm:nm∈bE) (n0:u0∈bE) (n1:u1∈bE) (d01:u1≠u0) (hZ:∀z∈Z,z.natAbs<1000) (hl:Z.length≤1000) (hn:Z.length=s.P.length) (hY1:∀z∈Y1,z.natAbs<1000) (hl1:Y1.length=s.P.length) (hle1:∀(i:Nat) z y,Z[i]? =some z→Y1[i]? =some y→z≤y) (M:Mem) (p t:Nat) (o o' :Bool) (hp:M[p]? =some (.cells o 2 (pC s.P))) (ht:M[t]? =some (.cells o' 3 (tC s.T))) (b u:Nat) (q1 q2:Bool) (hb:M[b]? =some (.cells q1 1 (qC (qH Z)))) (hu:M[u]? =some (.cells q2 1 [.str u0,.str u1])) (c r1:Nat) (q3 w1:Bool) (hc:M[c]? =some (.cells q3 1 [.slice r1 0 Z.length none])) (hr1:M[r1]? =some (.cells w1 1 (qC (qH Y1)))):
  ACallsTo Tryz.prog 43 [.agg [.slice p 0 s.P.length none,.slice t 0 s.T.length none],.agg (aQ nm (.slice b 0 Z.length none) (.slice u 0 2 none) (.slice c 0 1 none))] M (.int .i64 0) M:=by
 have lp:=(List.getElem?_eq_some_iff.1 hp).1
 have lt:=(List.getElem?_eq_some_iff.1 ht).1
 have lb:=(List.getElem?_eq_some_iff.1 hb).1
 have lu:=(List.getElem?_eq_some_iff.1 hu).1
 have lc:=(List.getElem?_eq_some_iff.1 hc).1
 have lr1:=(List.getElem?_eq_some_iff.1 hr1).1
 have:=ACallsTo.frame (M:=M) (new:=[]) [p,t,b,u,c,r1] rfl (by simp[lp,lt,lb,lu,lc,lr1]) (by rfl) (fun i q hs=>by
  match i with
  |0=>simp[iJ] at hs;subst hs;exact bm (dB _) hp List.take_length
  |1=>simp[iJ] at hs;subst hs;exact bm (dL _) ht List.take_length
  |2=>simp[iJ] at hs;subst hs;exact bm (iE _) hb List.take_length
  |3=>simp[iJ] at hs;subst hs;exact bm (by rfl) hu List.take_length
  |4=>simp[iJ] at hs;subst hs;exact Kf (by rfl) hc (by simp[AV.rens,AV.ren,da])
  |5=>simp[iJ] at hs;subst hs;exact bm (iE _) hr1 List.take_length
  |i+6=>simp[iJ] at hs) rfl (tf s nm u0 u1 Z Y1 hm n0 n1 d01 hZ hl hn hY1 hl1 hle1)
 simpa [shA,aQ,AV.rens,AV.ren,da] using this
theorem jH(s:Sheet) (nm:List UInt8) (u0 u1 u2:List UInt8) (Z Y1 Y2:List Int) (hm:nm∈bE) (n0:u0∈bE) (n1:u1∈bE) (n2:u2∈bE) (d01:u1≠u0) (d02:u2≠u0) (d12:u2≠u1) (hZ:∀z∈Z,z.natAbs<1000) (hl:Z.length≤1000) (hn:Z.length=s.P.length) (hY1:∀z∈Y1,z.natAbs<1000) (hl1:Y1.length=s.P.length) (hle1:∀(i:Nat) z y,Z[i]? =some z→Y1[i]? =some y→z≤y) (hY2:∀z∈Y2,z.natAbs<1000) (hl2:Y2.length=s.P.length) (hle2:∀(i:Nat) z y,Y1[i]? =some z→Y2[i]? =some y→z≤y) (M:Mem) (p t:Nat) (o o' :Bool) (hp:M[p]? =some (.cells o 2 (pC s.P))) (ht:M[t]? =some (.cells o' 3 (tC s.T))) (b u:Nat) (q1 q2:Bool) (hb:M[b]? =some (.cells q1 1 (qC (qH Z)))) (hu:M[u]? =some (.cells q2 1 [.str u0,.str u1,.str u2])) (c r1 r2:Nat) (q3 w1 w2:Bool) (hc:M[c]? =some (.cells q3 1 [.slice r1 0 Z.length none,.slice r2 0 Z.length none])) (hr1:M[r1]? =some (.cells w1 1 (qC (qH Y1)))) (hr2:M[r2]? =some (.cells w2 1 (qC (qH Y2)))):
  ACallsTo Tryz.prog 43 [.agg [.slice p 0 s.P.length none,.slice t 0 s.T.length none],.agg (aQ nm (.slice b 0 Z.length none) (.slice u 0 3 none) (.slice c 0 2 none))] M (.int .i64 0) M:=by
 have lp:=(List.getElem?_eq_some_iff.1 hp).1
 have lt:=(List.getElem?_eq_some_iff.1 ht).1
 have lb:=(List.getElem?_eq_some_iff.1 hb).1
 have lu:=(List.getElem?_eq_some_iff.1 hu).1
 have lc:=(List.getElem?_eq_some_iff.1 hc).1
 have lr1:=(List.getElem?_eq_some_iff.1 hr1).1
 have lr2:=(List.getElem?_eq_some_iff.1 hr2).1
 have:=ACallsTo.frame (M:=M) (new:=[]) [p,t,b,u,c,r1,r2] rfl (by simp[lp,lt,lb,lu,lc,lr1,lr2]) (by rfl) (fun i q hs=>by
  match i with
  |0=>simp[gJ] at hs;subst hs;exact bm (dB _) hp List.take_length
  |1=>simp[gJ] at hs;subst hs;exact bm (dL _) ht List.take_length
  |2=>simp[gJ] at hs;subst hs;exact bm (iE _) hb List.take_length
  |3=>simp[gJ] at hs;subst hs;exact bm (by rfl) hu List.take_length
  |4=>simp[gJ] at hs;subst hs;exact Kf (by rfl) hc (by simp[AV.rens,AV.ren,da])
  |5=>simp[gJ] at hs;subst hs;exact bm (iE _) hr1 List.take_length
  |6=>simp[gJ] at hs;subst hs;exact bm (iE _) hr2 List.take_length
  |i+7=>simp[gJ] at hs) rfl (tg s nm u0 u1 u2 Z Y1 Y2 hm n0 n1 n2 d01 d02 d12 hZ hl hn hY1 hl1 hle1 hY2 hl2 hle2)
 simpa [shA,aQ,AV.rens,AV.ren,da] using this
theorem kZ(nm:List UInt8) (n:Z3) (a:Int) (v:Z3) (M:Mem):ACallsTo Tryz.prog 44 [.agg (bK nm n a v)] M .nilslice M:=by
 have hG:aI Tryz.prog 44=some Tryz.f44:=by kernel_rfl
 refine aw (af _) (lv:=fun _=>[]) (K:=1) rfl rfl ?_ M
 simp[ab,hG,Tryz.f44,bK]
theorem nC(nm:List UInt8) (q:Int×Int×Int×Int) (c:Z3) (M:Mem):ACallsTo Tryz.prog 44 [.agg (cG nm q c)] M .nilslice M:=by
 have hG:aI Tryz.prog 44=some Tryz.f44:=by kernel_rfl
 refine aw (af _) (lv:=fun _=>[]) (K:=1) rfl rfl ?_ M
 simp[ab,hG,Tryz.f44,cG]
theorem nB(nm:List UInt8) (n v:Z3) (x:AV) (M:Mem):ACallsTo Tryz.prog 44 [.agg (bq nm n x v)] M .nilslice M:=by
 have hG:aI Tryz.prog 44=some Tryz.f44:=by kernel_rfl
 have h:ab (az Tryz.prog) (fun _=>[]) (aI Tryz.prog) aE 1 44 [.agg (bq nm n x v)] M=some ⟨.nilslice,none,[]⟩:=by
  simp[ab,hG,Tryz.f44,bq]
 have:=(ae aa (ai _) (af _) (aj _) h).1
 simpa [CallRes.mem] using this
theorem vz(nm:List UInt8) (n:Z3) (a w:Int) (u:List UInt8) (M:Mem):ACallsTo Tryz.prog 44 [.agg (cn nm n a w u)] M (.slice M.length 0 1 none) (M++[.cells true 1 [.str u]]):=by
 have hG:aI Tryz.prog 44=some Tryz.f44:=by kernel_rfl
 have h:ab (az Tryz.prog) (fun _=>[]) (aI Tryz.prog) aE 1 44 [.agg (cn nm n a w u)] []=some ⟨.slice 0 0 1 none,none,[.cells true 1 [.str u]]⟩:=by
  simp[ab,hG,Tryz.f44,cn,List.idxOf?_cons]
 have h1:=(ae aa (ai _) (af _) (aj _) h).1
 have h2:ACallsTo Tryz.prog 44 [.agg (cn nm n a w u)] [] (.slice 0 0 1 none) ([]++[.cells true 1 [.str u]]):=by simpa [CallRes.mem] using h1
 have:=ACallsTo.frame (M:=M) (m:=[]) (new:=[.cells true 1 [.str u]]) [] rfl (by simp) (by rfl) (fun i q hs=>by simp at hs) rfl h2
 simpa [cn,AV.rens,AV.ren,Slot.ren,da] using this
theorem CT(L:List (List UInt8)) (h1:0<L.length) (h3:L.length≤3):ACallsTo Tryz.prog 72 [.slice 0 0 L.length none] [.cells false 1 (stC L)] (.slice 1 0 L.length none) [.cells false 1 (stC L),.cells true 1 (stC L)]:=by
 have hG:aI Tryz.prog 72=some Tryz.f72:=by kernel_rfl
 have h:ab (az Tryz.prog) (fun _=>[]) (aI Tryz.prog) aE 1 72 [.slice 0 0 L.length none] [.cells false 1 (stC L)]=some ⟨.slice 1 0 L.length none,none,[.cells true 1 (stC L)]⟩:=by
  match L,h1,h3 with
  | [u],_,_=>simp[ab,hG,Tryz.f72,stC,zf,List.idxOf?_cons]
  | [u,v],_,_=>simp[ab,hG,Tryz.f72,stC,zf,List.idxOf?_cons]
  | [u,v,w],_,_=>simp[ab,hG,Tryz.f72,stC,zf,List.idxOf?_cons]
 have:=(ae aa (ai _) (af _) (aj _) h).1
 simpa [CallRes.mem] using this
theorem HL(L:List (List UInt8)) (h1:0<L.length) (h3:L.length≤3) (M:Mem) (b:Nat) (o:Bool) (hb:M[b]? =some (.cells o 1 (stC L))):ACallsTo Tryz.prog 72 [.slice b 0 L.length none] M (.slice M.length 0 L.length none) (M++[.cells true 1 (stC L)]):=by
 obtain⟨b',h,_,h2⟩:=ACallsTo.rows1C (rest:=[]) (new:=[.cells true 1 (stC L)]) (eV L) rfl rfl (CT L h1 h3) (M:=M) (x:=.slice b 0 L.length none) ⟨b,o,_,rfl,hb,List.take_length⟩
 cases h
 simpa [AV.ren,Slot.ren,da,bu (eV L)] using h2
theorem xj(nm:List UInt8) (x y:AV) (L:List (List UInt8)) (h1:0<L.length) (h3:L.length≤3) (M:Mem) (b:Nat) (o:Bool) (hb:M[b]? =some (.cells o 1 (stC L))):
  ACallsTo Tryz.prog 44 [.agg (aQ nm x (.slice b 0 L.length none) y)] M (.slice (M.length+1) 0 L.length none) (M++[.cells true 0 (aQ nm x (.slice b 0 L.length none) y),.cells true 1 (stC L)]):=by
 have hG:aI Tryz.prog 44=some Tryz.f44:=by kernel_rfl
 have lb:=(List.getElem?_eq_some_iff.1 hb).1
 obtain⟨E,hE⟩:∃E:Mem,E=[.cells true 0 (aQ nm x (.slice b 0 L.length none) y)]:=⟨_,rfl⟩
 have hc:=HL L h1 h3 (M++E) b o (by rw[List.getElem?_append_left lb];exact hb)
 have hO:OracleOk Tryz.prog (cg [(72,[.slice b 0 L.length none],M++E,⟨.slice (M.length+1) 0 L.length none,none,[.cells true 1 (stC L)]⟩)]):=dn fun e he=>by
  simp only[List.mem_cons,List.not_mem_nil,or_false] at he
  subst he
  refine⟨?_,by simp⟩
  rw[hE] at hc ⊢
  simpa [CallRes.mem] using hc
 have h:aT (az Tryz.prog) (fun _=>[]) (aI Tryz.prog) (cg [(72,[.slice b 0 L.length none],M++E,⟨.slice (M.length+1) 0 L.length none,none,[.cells true 1 (stC L)]⟩)]) 1 44 [.agg (aQ nm x (.slice b 0 L.length none) y)] M=some (.slice (M.length+1) 0 L.length none,M++[.cells true 0 (aQ nm x (.slice b 0 L.length none) y),.cells true 1 (stC L)]):=by
  rw[hE]
  simp[aT,hG,Tryz.f44,aQ,cg]
 have:=aP aa (ai _) hO (aj _) h
 exact this
def Keeps(b:Nat) (new M' :Mem):Prop:=∀(k:Nat) x,new[k]? =some x→M'[b+k]? =some x
def fb(b:Nat) (new:Mem) (ev:List AV) (U:List (List UInt8)):Prop:=∀M',Keeps b new M' →∃v nw,ACallsTo Tryz.prog 44 [.agg ev] M' v (M' ++nw)∧∀ext,sts (M' ++nw++ext) v=some U
theorem JH{M:Mem}{b:Nat}{o:Bool}{L:List (List UInt8)}(h:M[b]? =some (.cells o 1 (stC L))):sts M (.slice b 0 L.length none)=some L:=by
 unfold sts
 rw[GJ h (by rw[br];omega) (by rw[←br,Nat.mul_one,List.take_length])]
 exact zc _
theorem oB{b:Nat}{new:Mem}{ev:List AV}(h:∀M,ACallsTo Tryz.prog 44 [.agg ev] M .nilslice M):fb b new ev []:=fun M' _=>⟨.nilslice,[],by simpa using h M',fun _=>rfl⟩
theorem rQ{b:Nat}{new:Mem}(nm:List UInt8) (n:Z3) (a w:Int) (u:List UInt8):fb b new (cn nm n a w u) [u]:=fun M' _=>⟨.slice M'.length 0 1 none,[.cells true 1 [.str u]],vz nm n a w u M',fun ext' =>JH (L:=[u]) (o:=true) (by rw[List.append_assoc,List.getElem?_append_right (by omega),Nat.sub_self];rfl)⟩
theorem gg{b0:Nat}{new:Mem}(nm:List UInt8) (x y:AV) (L:List (List UInt8)) (h1:0<L.length) (h3:L.length≤3) (j:Nat) (o:Bool) (hb:new[j]? =some (.cells o 1 (stC L))):fb b0 new (aQ nm x (.slice (b0+j) 0 L.length none) y) L:=fun M' hk=>by
 have hb' :=hk j _ hb
 refine⟨.slice (M'.length+1) 0 L.length none,[.cells true 0 (aQ nm x (.slice (b0+j) 0 L.length none) y),.cells true 1 (stC L)],xj nm x y L h1 h3 M' (b0+j) o hb',fun ext' =>JH (o:=true) ?_⟩
 rw[List.append_assoc,List.getElem?_append_right (by omega),show M'.length+1-M'.length=1 by omega]
 rfl
def nP(M new:Mem):Prop:=(new.all fun x=>(x.own||match x with | .absent=>true | _=>false)&&x.refsOk (fun b=>decide (b<M.length+5)))=true
def pV(ev:List AV):Prop:=∀x∈ev,(match x with | .agg _=>false | .tuple _=>false | .undef=>false | _=>true)=true
def bl(d:Deed) (i:Nat):List (List UInt8):=if d.kind%5=0 then aY i (d.K.1%3) else if d.kind%5=3 then [fw i] else []
theorem RowAt.nil0{N:Mem}{v:AV}{es n:Nat}{C:List AV}(h:RowAt N v es n C) (hn:n=0):v=.nilslice:=by
 rcases h with⟨h,_,_⟩ | ⟨_,_,_,h,_⟩
 ·exact h
 ·omega
theorem RowAt.pos{N:Mem}{v:AV}{es n:Nat}{C:List AV}(h:RowAt N v es n C) (hn:0<n):∃b o,v=.slice b 0 n none∧N[b]? =some (.cells o es C):=by
 rcases h with⟨_,h,_⟩ | ⟨b,o,h1,_,h2⟩
 ·omega
 ·exact⟨b,o,h1,h2⟩
theorem SfAt.nil0{N:Mem}{v:AV}{S:List (List (List UInt8))}(h:SfAt N v S) (hS:S=[]):v=.nilslice:=by
 obtain⟨vs,_,h,_⟩:=h
 exact h.nil0 (by rw[hS];rfl)
theorem RowAt.ck{N:Mem}{v:AV}{es n:Nat}{C:List AV}(h:RowAt N v es n C):v.cellOk=true:=by
 rcases h with⟨rfl,_⟩ | ⟨b,o,rfl,_⟩<;>rfl
theorem EvAt.l32{N:Mem}{e:List AV}{c:Evc}(h:EvAt N e c):e.length=32:=by
 obtain⟨b,u,s,kn,rfl,_⟩:=h;rfl
theorem EvAt.cok{N:Mem}{e:List AV}{c:Evc}(h:EvAt N e c):∀x∈e,x.cellOk=true:=by
 obtain⟨b,u,s,kn,rfl,h1,h2,⟨_,_,h3,_⟩,h4⟩:=h
 intro x hx
 simp only[Evc.cells,List.mem_cons,List.not_mem_nil,or_false] at hx
 rcases hx with rfl | rfl | rfl | rfl | rfl | rfl | rfl | rfl | rfl | rfl | rfl | rfl | rfl | rfl | rfl | rfl | rfl | rfl | rfl | rfl | rfl | rfl | rfl | rfl | rfl | rfl | rfl | rfl | rfl | rfl | rfl | rfl<;>first | rfl | exact h1.ck | exact h2.ck | exact h3.ck | exact h4.ck
theorem RowAt.inj{N:Mem}{v:AV}{es n n' :Nat}{C C' :List AV}(h:RowAt N v es n C) (h' :RowAt N v es n' C'):n=n' ∧C=C' :=by
 rcases h with⟨rfl,rfl,rfl⟩ | ⟨b,o,rfl,hp,hb⟩
 ·rcases h' with⟨_,rfl,rfl⟩ | ⟨b',o',h,_⟩
  ·exact⟨rfl,rfl⟩
  ·cases h
 ·rcases h' with⟨h,_⟩ | ⟨b',o',h,_,hb'⟩
  ·cases h
  ·cases h
   rw[hb] at hb'
   cases hb'
   exact⟨rfl,rfl⟩
def unE(c:Evc):List (List UInt8):=if c.k=1 then c.U else if c.k=4 then [c.x24] else []
theorem QN{M:Mem}{ev:List AV}{c d:Evc}(h:EvAt M ev c) (k:EvAt M ev d):unE c=unE d:=by
 obtain⟨b,u,sv,kn,e1,_,h2,_,_⟩:=h
 obtain⟨b',u',sv',kn',e2,_,k2,_,_⟩:=k
 rw[e1] at e2
 simp only[Evc.cells,List.cons.injEq,AV.int.injEq,AV.str.injEq,true_and,and_true] at e2
 obtain⟨ek,_,_,eu,_,_,_,_,_,_,_,_,_,_,_,_,_,_,_,_,_,_,_,_,ex,_⟩:=e2
 subst eu
 have eU:c.U=d.U:=by
  have:=congrArg stP (h2.inj k2).2
  rw[zc,zc] at this
  exact Option.some.inj this
 unfold unE
 rw[ek,eU,ex]
def Ob(s:Sheet) (c:Evc):Prop:=∀(M:Mem) (p t:Nat) (o o' :Bool) (ev:List AV),M[p]? =some (.cells o 2 (pC s.P))→M[t]? =some (.cells o' 3 (tC s.T))→EvAt M ev c→ACallsTo Tryz.prog 43 [.agg [.slice p 0 s.P.length none,.slice t 0 s.T.length none],.agg ev] M (.int .i64 0) M
def Od(c:Evc):Prop:=∀(M:Mem) (ev:List AV),EvAt M ev c→∃v nw,ACallsTo Tryz.prog 44 [.agg ev] M v (M++nw)∧∀ext,sts (M++nw++ext) v=some (unE c)
structure Tryz.Good (s:Sheet) (c:Evc):Prop where
 ok:c.Ok
 chk:Ob s c
 un:Od c
 le:(unE c).length≤3
theorem xD(s:Sheet) (nm:List UInt8) (n:Z3) (a:Int) (v:Z3) (hm:nm∈bE) (hn:fI 99 n) (hz:iI n=false) (ho:a.natAbs≤1000) (hs:fI 99 v) (hd:JY v n=0):Tryz.Good s (JV nm n a v) where
 ok:=wA rfl rfl rfl (by simp[JV])
 chk:=fun M p t o o' ev hp ht h=>by
  obtain⟨b,u,sv,kn,rfl,h1,h2,h3,h4⟩:=h
  obtain rfl:=h1.nil0 rfl;obtain rfl:=h2.nil0 rfl;obtain rfl:=h3.nil0 rfl;obtain rfl:=h4.nil0 rfl
  exact jg s nm n a v hm hn hz ho hs hd M p t o o' hp ht
 un:=fun M ev h=>by
  obtain⟨b,u,sv,kn,rfl,h1,h2,h3,h4⟩:=h
  obtain rfl:=h1.nil0 rfl;obtain rfl:=h2.nil0 rfl;obtain rfl:=h3.nil0 rfl;obtain rfl:=h4.nil0 rfl
  exact⟨.nilslice,[],by rw[List.append_nil];exact kZ nm n a v M,fun _=>rfl⟩
 le:=by show(0:Nat)≤3;omega
theorem zL(s:Sheet) (nm:List UInt8) (i:Nat) (c:Z3) (hm:nm∈bE) (hc:fI 99 c):Tryz.Good s (Pd nm (ed i) c) where
 ok:=wA rfl rfl rfl (by simp[Pd])
 chk:=fun M p t o o' ev hp ht h=>by
  obtain⟨b,u,sv,kn,rfl,h1,h2,h3,h4⟩:=h
  obtain rfl:=h1.nil0 rfl;obtain rfl:=h2.nil0 rfl;obtain rfl:=h3.nil0 rfl;obtain rfl:=h4.nil0 rfl
  exact jK s nm i c hm hc M p t o o' hp ht
 un:=fun M ev h=>by
  obtain⟨b,u,sv,kn,rfl,h1,h2,h3,h4⟩:=h
  obtain rfl:=h1.nil0 rfl;obtain rfl:=h2.nil0 rfl;obtain rfl:=h3.nil0 rfl;obtain rfl:=h4.nil0 rfl
  exact⟨.nilslice,[],by rw[List.append_nil];exact nC nm (ed i) c M,fun _=>rfl⟩
 le:=by show(0:Nat)≤3;omega
theorem zJ(s:Sheet) (nm:List UInt8) (n:Z3) (a w:Int) (u:List UInt8) (hm:nm∈bE) (hn:fI 99 n) (hz:iI n=false) (ho:a.natAbs≤1000) (hw:0<w) (hw2:w<1000) (hu:u∈bE):Tryz.Good s (Pb nm n a w u) where
 ok:=wA rfl rfl rfl (by simp[Pb])
 chk:=fun M p t o o' ev hp ht h=>by
  obtain⟨b,u',sv,kn,rfl,h1,h2,h3,h4⟩:=h
  obtain rfl:=h1.nil0 rfl;obtain rfl:=h2.nil0 rfl;obtain rfl:=h3.nil0 rfl;obtain rfl:=h4.nil0 rfl
  exact jI s nm n a w u hm hn hz ho hw hw2 hu M p t o o' hp ht
 un:=fun M ev h=>by
  obtain⟨b,u',sv,kn,rfl,h1,h2,h3,h4⟩:=h
  obtain rfl:=h1.nil0 rfl;obtain rfl:=h2.nil0 rfl;obtain rfl:=h3.nil0 rfl;obtain rfl:=h4.nil0 rfl
  exact rQ (b:=0) (new:=[]) nm n a w u M fun k x h=>by simp at h
 le:=by show(1:Nat)≤3;omega
theorem zK(s:Sheet) (nm:List UInt8) (n v:Z3) (d:Deed) (c:Nat) (h1:0<c) (hc:c≤3) (hm:nm∈bE) (hn:fI 99 n) (hz:iI n=false) (hs:fI 99 v) (hd:JY v n=0):Tryz.Good s (Pc nm n (kT (co d c)) v) where
 ok:=wA rfl rfl rfl (by show(kT (co d c)).length≤1000;rw[iD,eC];omega)
 chk:=fun M p t o o' ev hp ht h=>by
  obtain⟨b,u,sv,kn,rfl,k1,k2,k3,k4⟩:=h
  obtain rfl:=k1.nil0 rfl;obtain rfl:=k2.nil0 rfl;obtain rfl:=k3.nil0 rfl
  have e:(Pc nm n (kT (co d c)) v).K.length=c:=by show(kT (co d c)).length=c;rw[iD,eC]
  rw[e] at k4
  obtain⟨b,q,rfl,hb⟩:=k4.pos h1
  have hb' :M[b]? =some (.cells q 2 (pC (co d c))):=by rw[Hh];exact hb
  exact jJ s nm n v d c h1 hc hm hn hz hs hd M p t o o' hp ht b q hb'
 un:=fun M ev h=>by
  obtain⟨b,u,sv,kn,rfl,k1,k2,k3,k4⟩:=h
  obtain rfl:=k1.nil0 rfl;obtain rfl:=k2.nil0 rfl;obtain rfl:=k3.nil0 rfl
  exact⟨.nilslice,[],by rw[List.append_nil];exact nB nm n v kn M,fun _=>rfl⟩
 le:=by show(0:Nat)≤3;omega
theorem LL(Z:List Int):stC (hT Z)=qC (qH Z):=by rw[u7];rfl
theorem zG(s:Sheet) (nm:List UInt8) (u0:List UInt8) (Z:List Int) (hm:nm∈bE) (n0:u0∈bE)  (hZ:∀z∈Z,z.natAbs<1000) (hl:Z.length≤1000) (hpos:0<Z.length) (hn:Z.length=s.P.length):Tryz.Good s (LC nm (hT Z) [u0] []) where
 ok:=⟨by show(hT Z).length≤1000;rw[cV];exact hl,by show(1:Nat)≤1000;omega,by show(0:Nat)≤2;omega,fun L hL=>by
  simp[LC] at hL,by show(0:Nat)≤1000;omega⟩
 chk:=fun M p t o o' ev hp ht h=>by
  obtain⟨b,u,sv,kn,rfl,k1,k2,k3,k4⟩:=h
  obtain rfl:=k4.nil0 rfl
  have e:(LC nm (hT Z) [u0] []).B.length=Z.length:=cV Z
  rw[e] at k1
  obtain⟨b,q1,rfl,hb⟩:=k1.pos hpos
  obtain⟨u,q2,rfl,hu⟩:=k2.pos (by show 0<1;omega)
  have hb' :M[b]? =some (.cells q1 1 (qC (qH Z))):=by rw[←LL];exact hb
  obtain rfl:=k3.nil0 rfl
  exact jF s nm u0 Z hm n0  hZ hl hn  M p t o o' hp ht b u q1 q2 hb' hu
 un:=fun M ev h=>by
  obtain⟨b,u,sv,kn,rfl,k1,k2,k3,k4⟩:=h
  obtain rfl:=k4.nil0 rfl
  obtain⟨u,q2,rfl,hu⟩:=k2.pos (by show 0<1;omega)
  exact gg (b0:=u) (new:=[.cells q2 1 (stC [u0])]) nm b sv [u0] (by show 0<1;omega) (by show 1≤3;omega) 0 q2 rfl M fun k x hk=>by
   match k,hk with
   |0,hk=>simp only[List.getElem?_cons_zero,Option.some.injEq] at hk;subst hk;exact hu
   |k+1,hk=>simp at hk
 le:=by show(1:Nat)≤3;omega
theorem zH(s:Sheet) (nm:List UInt8) (u0 u1:List UInt8) (Z Y1:List Int) (hm:nm∈bE) (n0:u0∈bE) (n1:u1∈bE) (d01:u1≠u0) (hZ:∀z∈Z,z.natAbs<1000) (hl:Z.length≤1000) (hpos:0<Z.length) (hn:Z.length=s.P.length) (hY1:∀z∈Y1,z.natAbs<1000) (hl1:Y1.length=s.P.length) (hle1:∀(i:Nat) z y,Z[i]? =some z→Y1[i]? =some y→z≤y):Tryz.Good s (LC nm (hT Z) [u0,u1] [hT Y1]) where
 ok:=⟨by show(hT Z).length≤1000;rw[cV];exact hl,by show(2:Nat)≤1000;omega,by show(1:Nat)≤2;omega,fun L hL=>by
  simp only[LC,List.mem_cons,List.not_mem_nil,or_false] at hL
  rcases hL with rfl<;>(rw[cV];omega),by show(0:Nat)≤1000;omega⟩
 chk:=fun M p t o o' ev hp ht h=>by
  obtain⟨b,u,sv,kn,rfl,k1,k2,k3,k4⟩:=h
  obtain rfl:=k4.nil0 rfl
  have e:(LC nm (hT Z) [u0,u1] [hT Y1]).B.length=Z.length:=cV Z
  rw[e] at k1
  obtain⟨b,q1,rfl,hb⟩:=k1.pos hpos
  obtain⟨u,q2,rfl,hu⟩:=k2.pos (by show 0<2;omega)
  have hb' :M[b]? =some (.cells q1 1 (qC (qH Z))):=by rw[←LL];exact hb
  obtain⟨vs,lv,kv,kc⟩:=k3
  obtain⟨v1,rfl⟩:∃v1,vs=[v1]:=by
   match vs,lv with
   | [v1],_=>exact⟨v1,rfl⟩
  obtain⟨c,q3,rfl,hc⟩:=kv.pos (by show 0<1;omega)
  have g1:=kc 0 v1 (hT Y1) rfl rfl
  rw[cV,hl1,←hn] at g1
  obtain⟨r1,w1,rfl,hr1⟩:=g1.pos hpos
  rw[LL] at hr1
  exact jG s nm u0 u1 Z Y1 hm n0 n1 d01 hZ hl hn hY1 hl1 hle1 M p t o o' hp ht b u q1 q2 hb' hu c r1 q3 w1 hc hr1
 un:=fun M ev h=>by
  obtain⟨b,u,sv,kn,rfl,k1,k2,k3,k4⟩:=h
  obtain rfl:=k4.nil0 rfl
  obtain⟨u,q2,rfl,hu⟩:=k2.pos (by show 0<2;omega)
  exact gg (b0:=u) (new:=[.cells q2 1 (stC [u0,u1])]) nm b sv [u0,u1] (by show 0<2;omega) (by show 2≤3;omega) 0 q2 rfl M fun k x hk=>by
   match k,hk with
   |0,hk=>simp only[List.getElem?_cons_zero,Option.some.injEq] at hk;subst hk;exact hu
   |k+1,hk=>simp at hk
 le:=by show(2:Nat)≤3;omega
theorem zI(s:Sheet) (nm:List UInt8) (u0 u1 u2:List UInt8) (Z Y1 Y2:List Int) (hm:nm∈bE) (n0:u0∈bE) (n1:u1∈bE) (n2:u2∈bE) (d01:u1≠u0) (d02:u2≠u0) (d12:u2≠u1) (hZ:∀z∈Z,z.natAbs<1000) (hl:Z.length≤1000) (hpos:0<Z.length) (hn:Z.length=s.P.length) (hY1:∀z∈Y1,z.natAbs<1000) (hl1:Y1.length=s.P.length) (hle1:∀(i:Nat) z y,Z[i]? =some z→Y1[i]? =some y→z≤y) (hY2:∀z∈Y2,z.natAbs<1000) (hl2:Y2.length=s.P.length) (hle2:∀(i:Nat) z y,Y1[i]? =some z→Y2[i]? =some y→z≤y):Tryz.Good s (LC nm (hT Z) [u0,u1,u2] [hT Y1,hT Y2]) where
 ok:=⟨by show(hT Z).length≤1000;rw[cV];exact hl,by show(3:Nat)≤1000;omega,by show(2:Nat)≤2;omega,fun L hL=>by
  simp only[LC,List.mem_cons,List.not_mem_nil,or_false] at hL
  rcases hL with rfl | rfl<;>(rw[cV];omega),by show(0:Nat)≤1000;omega⟩
 chk:=fun M p t o o' ev hp ht h=>by
  obtain⟨b,u,sv,kn,rfl,k1,k2,k3,k4⟩:=h
  obtain rfl:=k4.nil0 rfl
  have e:(LC nm (hT Z) [u0,u1,u2] [hT Y1,hT Y2]).B.length=Z.length:=cV Z
  rw[e] at k1
  obtain⟨b,q1,rfl,hb⟩:=k1.pos hpos
  obtain⟨u,q2,rfl,hu⟩:=k2.pos (by show 0<3;omega)
  have hb' :M[b]? =some (.cells q1 1 (qC (qH Z))):=by rw[←LL];exact hb
  obtain⟨vs,lv,kv,kc⟩:=k3
  obtain⟨v1,v2,rfl⟩:∃v1 v2,vs=[v1,v2]:=by
   match vs,lv with
   | [v1,v2],_=>exact⟨v1,v2,rfl⟩
  obtain⟨c,q3,rfl,hc⟩:=kv.pos (by show 0<2;omega)
  have g1:=kc 0 v1 (hT Y1) rfl rfl
  rw[cV,hl1,←hn] at g1
  obtain⟨r1,w1,rfl,hr1⟩:=g1.pos hpos
  rw[LL] at hr1
  have g2:=kc 1 v2 (hT Y2) rfl rfl
  rw[cV,hl2,←hn] at g2
  obtain⟨r2,w2,rfl,hr2⟩:=g2.pos hpos
  rw[LL] at hr2
  exact jH s nm u0 u1 u2 Z Y1 Y2 hm n0 n1 n2 d01 d02 d12 hZ hl hn hY1 hl1 hle1 hY2 hl2 hle2 M p t o o' hp ht b u q1 q2 hb' hu c r1 r2 q3 w1 w2 hc hr1 hr2
 un:=fun M ev h=>by
  obtain⟨b,u,sv,kn,rfl,k1,k2,k3,k4⟩:=h
  obtain rfl:=k4.nil0 rfl
  obtain⟨u,q2,rfl,hu⟩:=k2.pos (by show 0<3;omega)
  exact gg (b0:=u) (new:=[.cells q2 1 (stC [u0,u1,u2])]) nm b sv [u0,u1,u2] (by show 0<3;omega) (by show 3≤3;omega) 0 q2 rfl M fun k x hk=>by
   match k,hk with
   |0,hk=>simp only[List.getElem?_cons_zero,Option.some.injEq] at hk;subst hk;exact hu
   |k+1,hk=>simp at hk
 le:=by show(3:Nat)≤3;omega
end Go.Proofs
