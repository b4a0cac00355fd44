/- See P53. -/
import Derived.Test.YtmhkeaphiadacaaGreatDoorP31
set_option linter.all false
namespace Go.Proofs
open Go.Eng
open Tryz
variable{M:Mem}{b es:Nat}{o:Bool}
theorem N6{ks:List Nat}{cs WU :List AV}(hu:AV.aah ks.length cs=true)(h:M[b]? =some (.cells o es WU))(hr:WU =AV.aal (dr ks M.length) cs):vK ks M b (.cells false es cs):=by refine⟨hu,o,WU,h,fun j v hv=>?_⟩;rw[hr,fN,List.getElem?_map,hv];rfl
section
variable (s:aaf)(nm:List UInt8)
include s nm
theorem jZ(n:Z3)(a:Int)(v:Z3)(hm:nm∈bk)(hn:gm 99 n)(hz:iS n=false)(ho:a.natAbs≤1000)(hs:gm 99 v)(hd:Ld v n=0)(M:Mem)(p t:Nat)(o o' :Bool)(hp:M[p]? =some (.cells o 2 (pC s.P)))(ht:M[t]? =some (.cells o' 3 (tC s.T))):
  mB prog 43 [.agg [.slice p 0 s.P.length none,.slice t 0 s.T.length none],.agg (cX nm n a v)] M (.int .i64 0) M:=by
 have l0:=(List.getElem?_eq_some_iff.1 hp).1;have l1:=(List.getElem?_eq_some_iff.1 ht).1;have:=mB.frame (M:=M) (new:=[]) [p,t] rfl (by simp[l0,l1]) (by rfl) (fun i q hs=>by
  match i with
  |0=>simp at hs;subst hs;exact aV (bV _) hp List.take_length
  |1=>simp at hs;subst hs;exact aV (dp _) ht List.take_length
  |i+2=>simp at hs) rfl (uw s nm n a v hm hn hz ho hs hd)
 simpa [shA,cX,AV.aal,AV.ren,dr] using this
theorem ly(n:Z3)(a w:Int)(u:List UInt8)(hm:nm∈bk)(hn:gm 99 n)(hz:iS n=false)(ho:a.natAbs≤1000)(hw:0<w)(ZG:w<1000)(hu:u∈bk)(M:Mem)(p t:Nat)(o o' :Bool)(hp:M[p]? =some (.cells o 2 (pC s.P)))(ht:M[t]? =some (.cells o' 3 (tC s.T))):
  mB prog 43 [.agg [.slice p 0 s.P.length none,.slice t 0 s.T.length none],.agg (dG nm n a w u)] M (.int .i64 0) M:=by
 have l0:=(List.getElem?_eq_some_iff.1 hp).1;have l1:=(List.getElem?_eq_some_iff.1 ht).1;have:=mB.frame (M:=M) (new:=[]) [p,t] rfl (by simp[l0,l1]) (by rfl) (fun i q hs=>by
  match i with
  |0=>simp at hs;subst hs;exact aV (bV _) hp List.take_length
  |1=>simp at hs;subst hs;exact aV (dp _) ht List.take_length
  |i+2=>simp at hs) rfl (vQ s nm n a w u hm hn hz ho hw ZG hu)
 simpa [shA,dG,AV.aal,AV.ren,dr] using this
theorem lA(i:Nat)(c:Z3)(hm:nm∈bk)(hc:gm 99 c)(M:Mem)(p t:Nat)(o o' :Bool)(hp:M[p]? =some (.cells o 2 (pC s.P)))(ht:M[t]? =some (.cells o' 3 (tC s.T))):
  mB prog 43 [.agg [.slice p 0 s.P.length none,.slice t 0 s.T.length none],.agg (dZ nm (fk i) c)] M (.int .i64 0) M:=by
 have l0:=(List.getElem?_eq_some_iff.1 hp).1;have l1:=(List.getElem?_eq_some_iff.1 ht).1;have:=mB.frame (M:=M) (new:=[]) [p,t] rfl (by simp[l0,l1]) (by rfl) (fun i q hs=>by
  match i with
  |0=>simp at hs;subst hs;exact aV (bV _) hp List.take_length
  |1=>simp at hs;subst hs;exact aV (dp _) ht List.take_length
  |i+2=>simp at hs) rfl (vT s nm i c hm hc)
 simpa [shA,dZ,AV.aal,AV.ren,dr] using this
theorem lz(n v:Z3)(d:aao)(c:Nat)(h1:0<c)(hc:c≤3)(hm:nm∈bk)(hn:gm 99 n)(hz:iS n=false)(hs:gm 99 v)(hd:Ld v n=0)(M:Mem)(p t:Nat)(o o' :Bool)(hp:M[p]? =some (.cells o 2 (pC s.P)))(ht:M[t]? =some (.cells o' 3 (tC s.T)))(b:Nat)(q:Bool)(hb:M[b]? =some (.cells q 2 (pC (cU d c)))):
  mB prog 43 [.agg [.slice p 0 s.P.length none,.slice t 0 s.T.length none],.agg (cb nm n (.slice b 0 c none) v)] M (.int .i64 0) M:=by
 have l0:=(List.getElem?_eq_some_iff.1 hp).1;have l1:=(List.getElem?_eq_some_iff.1 ht).1;have l2:=(List.getElem?_eq_some_iff.1 hb).1;have:=mB.frame (M:=M) (new:=[]) [p,t,b] rfl (by simp[l0,l1,l2]) (by rfl) (fun i q hs=>by
  match i with
  |0=>simp[vg] at hs;subst hs;exact aV (bV _) hp List.take_length
  |1=>simp[vg] at hs;subst hs;exact aV (dp _) ht List.take_length
  |2=>simp[vg] at hs;subst hs;exact aV (bV _) hb List.take_length
  |i+3=>simp[vg] at hs) rfl (vR s nm n v d c h1 hc hm hn hz hs hd)
 simpa [shA,cb,AV.aal,AV.ren,dr] using this
theorem lh(u0:List UInt8)(Z:List Int)(hm:nm∈bk)(n0:u0∈bk)(hZ:∀z∈Z,z.natAbs<1000)(hl:Z.length≤1000)(hn:Z.length=s.P.length)(M:Mem)(p t:Nat)(o o' :Bool)(hp:M[p]? =some (.cells o 2 (pC s.P)))(ht:M[t]? =some (.cells o' 3 (tC s.T)))(b u:Nat)(q1 q2:Bool)(hb:M[b]? =some (.cells q1 1 (qC (qH Z))))(hu:M[u]? =some (.cells q2 1 [.str u0])):
  mB prog 43 [.agg [.slice p 0 s.P.length none,.slice t 0 s.T.length none],.agg (aZ nm (.slice b 0 Z.length none) (.slice u 0 1 none) (.kO))] M (.int .i64 0) M:=by
 have lp:=(List.getElem?_eq_some_iff.1 hp).1;have lt:=(List.getElem?_eq_some_iff.1 ht).1;have lb:=(List.getElem?_eq_some_iff.1 hb).1;have lu:=(List.getElem?_eq_some_iff.1 hu).1;have:=mB.frame (M:=M) (new:=[]) [p,t,b,u] rfl (by simp[lp,lt,lb,lu]) (by rfl) (fun i q hs=>by
  match i with
  |0=>simp[mw] at hs;subst hs;exact aV (bV _) hp List.take_length
  |1=>simp[mw] at hs;subst hs;exact aV (dp _) ht List.take_length
  |2=>simp[mw] at hs;subst hs;exact aV (jx _) hb List.take_length
  |3=>simp[mw] at hs;subst hs;exact aV (by rfl) hu List.take_length
  |i+4=>simp[mw] at hs) rfl (vN s nm u0 Z hm n0  hZ hl hn)
 simpa [shA,aZ,AV.aal,AV.ren,dr] using this
theorem lk(u0 u1:List UInt8)(Z Y1:List Int)(hm:nm∈bk)(n0:u0∈bk)(n1:u1∈bk)(YL:u1≠u0)(hZ:∀z∈Z,z.natAbs<1000)(hl:Z.length≤1000)(hn:Z.length=s.P.length)(YG:∀z∈Y1,z.natAbs<1000)(Xb:Y1.length=s.P.length)(W5:∀(i:Nat) z y,Z[i]? =some z→Y1[i]? =some y→z≤y)(M:Mem)(p t:Nat)(o o' :Bool)(hp:M[p]? =some (.cells o 2 (pC s.P)))(ht:M[t]? =some (.cells o' 3 (tC s.T)))(b u:Nat)(q1 q2:Bool)(hb:M[b]? =some (.cells q1 1 (qC (qH Z))))(hu:M[u]? =some (.cells q2 1 [.str u0,.str u1]))(c r1:Nat)(q3 w1:Bool)(hc:M[c]? =some (.cells q3 1 [.slice r1 0 Z.length none]))(WL:M[r1]? =some (.cells w1 1 (qC (qH Y1)))):
  mB prog 43 [.agg [.slice p 0 s.P.length none,.slice t 0 s.T.length none],.agg (aZ nm (.slice b 0 Z.length none) (.slice u 0 2 none) (.slice c 0 1 none))] M (.int .i64 0) M:=by
 have lp:=(List.getElem?_eq_some_iff.1 hp).1;have lt:=(List.getElem?_eq_some_iff.1 ht).1;have lb:=(List.getElem?_eq_some_iff.1 hb).1;have lu:=(List.getElem?_eq_some_iff.1 hu).1;have lc:=(List.getElem?_eq_some_iff.1 hc).1;have lr1:=(List.getElem?_eq_some_iff.1 WL).1;have:=mB.frame (M:=M) (new:=[]) [p,t,b,u,c,r1] rfl (by simp[lp,lt,lb,lu,lc,lr1]) (by rfl) (fun i q hs=>by
  match i with
  |0=>simp[jB] at hs;subst hs;exact aV (bV _) hp List.take_length
  |1=>simp[jB] at hs;subst hs;exact aV (dp _) ht List.take_length
  |2=>simp[jB] at hs;subst hs;exact aV (jx _) hb List.take_length
  |3=>simp[jB] at hs;subst hs;exact aV (by rfl) hu List.take_length
  |4=>simp[jB] at hs;subst hs;exact N6 (by rfl) hc (by simp[AV.aal,AV.ren,dr])
  |5=>simp[jB] at hs;subst hs;exact aV (jx _) WL List.take_length
  |i+6=>simp[jB] at hs) rfl (vO s nm u0 u1 Z Y1 hm n0 n1 YL hZ hl hn YG Xb W5)
 simpa [shA,aZ,AV.aal,AV.ren,dr] using this
theorem lr(u0 u1 u2:List UInt8)(Z Y1 Y2:List Int)(hm:nm∈bk)(n0:u0∈bk)(n1:u1∈bk)(n2:u2∈bk)(YL:u1≠u0)(d02:u2≠u0)(d12:u2≠u1)(hZ:∀z∈Z,z.natAbs<1000)(hl:Z.length≤1000)(hn:Z.length=s.P.length)(YG:∀z∈Y1,z.natAbs<1000)(Xb:Y1.length=s.P.length)(W5:∀(i:Nat) z y,Z[i]? =some z→Y1[i]? =some y→z≤y)(hY2:∀z∈Y2,z.natAbs<1000)(WZ:Y2.length=s.P.length)(YM:∀(i:Nat) z y,Y1[i]? =some z→Y2[i]? =some y→z≤y)(M:Mem)(p t:Nat)(o o' :Bool)(hp:M[p]? =some (.cells o 2 (pC s.P)))(ht:M[t]? =some (.cells o' 3 (tC s.T)))(b u:Nat)(q1 q2:Bool)(hb:M[b]? =some (.cells q1 1 (qC (qH Z))))(hu:M[u]? =some (.cells q2 1 [.str u0,.str u1,.str u2]))(c r1 r2:Nat)(q3 w1 w2:Bool)(hc:M[c]? =some (.cells q3 1 [.slice r1 0 Z.length none,.slice r2 0 Z.length none]))(WL:M[r1]? =some (.cells w1 1 (qC (qH Y1))))(WR:M[r2]? =some (.cells w2 1 (qC (qH Y2)))):
  mB prog 43 [.agg [.slice p 0 s.P.length none,.slice t 0 s.T.length none],.agg (aZ nm (.slice b 0 Z.length none) (.slice u 0 3 none) (.slice c 0 2 none))] M (.int .i64 0) M:=by
 have lp:=(List.getElem?_eq_some_iff.1 hp).1;have lt:=(List.getElem?_eq_some_iff.1 ht).1;have lb:=(List.getElem?_eq_some_iff.1 hb).1;have lu:=(List.getElem?_eq_some_iff.1 hu).1;have lc:=(List.getElem?_eq_some_iff.1 hc).1;have lr1:=(List.getElem?_eq_some_iff.1 WL).1;have lr2:=(List.getElem?_eq_some_iff.1 WR).1;have:=mB.frame (M:=M) (new:=[]) [p,t,b,u,c,r1,r2] rfl (by simp[lp,lt,lb,lu,lc,lr1,lr2]) (by rfl) (fun i q hs=>by
  match i with
  |0=>simp[jb] at hs;subst hs;exact aV (bV _) hp List.take_length
  |1=>simp[jb] at hs;subst hs;exact aV (dp _) ht List.take_length
  |2=>simp[jb] at hs;subst hs;exact aV (jx _) hb List.take_length
  |3=>simp[jb] at hs;subst hs;exact aV (by rfl) hu List.take_length
  |4=>simp[jb] at hs;subst hs;exact N6 (by rfl) hc (by simp[AV.aal,AV.ren,dr])
  |5=>simp[jb] at hs;subst hs;exact aV (jx _) WL List.take_length
  |6=>simp[jb] at hs;subst hs;exact aV (jx _) WR List.take_length
  |i+7=>simp[jb] at hs) rfl (vP s nm u0 u1 u2 Z Y1 Y2 hm n0 n1 n2 YL d02 d12 hZ hl hn YG Xb W5 hY2 WZ YM)
 simpa [shA,aZ,AV.aal,AV.ren,dr] using this
end
theorem abK:aO prog 44=some f44:=by kernel_rfl
section
variable (nm:List UInt8)
include nm
theorem mF(n:Z3)(a:Int)(v:Z3)(M:Mem):mB prog 44 [.agg (cX nm n a v)] M .kO M:=by refine aB (ah _) (lv:=fun _=>[]) (K:=1) rfl rfl ?_ M;simp[ad,abK,f44,cX]
theorem oY(q:Int×Int×Int×Int)(c:Z3)(M:Mem):mB prog 44 [.agg (dZ nm q c)] M .kO M:=by refine aB (ah _) (lv:=fun _=>[]) (K:=1) rfl rfl ?_ M;simp[ad,abK,f44,dZ]
theorem oW(n v:Z3)(x:AV)(M:Mem):mB prog 44 [.agg (cb nm n x v)] M .kO M:=by refine aY (K:=1) (lv:=fun _=>[]) (ah _) ?_;simp[ad,abK,f44,cb]
theorem yu(n:Z3)(a w:Int)(u:List UInt8)(M:Mem):mB prog 44 [.agg (dG nm n a w u)] M (.slice M.length 0 1 none) (M++[.cells true 1 [.str u]]):=by
 have h:ad (aC prog) (fun _=>[]) (aO prog) bt 1 44 [.agg (dG nm n a w u)] []=some ⟨.slice 0 0 1 none,none,[.cells true 1 [.str u]]⟩:=by simp[ad,abK,f44,dG,List.idxOf?_cons]
 have h1:=(au af (aw _) (ah _) (ax _) h).1;have h2:mB prog 44 [.agg (dG nm n a w u)] [] (.slice 0 0 1 none) ([]++[.cells true 1 [.str u]]):=by simpa [HS.mem] using h1
 have:=mB.frame (M:=M) (m:=[]) (new:=[.cells true 1 [.str u]]) [] rfl (by simp) (by rfl) (fun i q hs=>by simp at hs) rfl h2;simpa [dG,AV.aal,AV.ren,aae.ren,dr] using this
end
section
variable (L:List (List UInt8))(h1:0<L.length)(h3:L.length≤3)
include L h1 h3
theorem Ga:mB prog 72 [.slice 0 0 L.length none] [.cells false 1 (stC L)] (.slice 1 0 L.length none) [.cells false 1 (stC L),.cells true 1 (stC L)]:=by
 have hG:aO prog 72=some f72:=by kernel_rfl
 have h:ad (aC prog) (fun _=>[]) (aO prog) bt 1 72 [.slice 0 0 L.length none] [.cells false 1 (stC L)]=some ⟨.slice 1 0 L.length none,none,[.cells true 1 (stC L)]⟩:=by
  match L,h1,h3 with
  | [u],_,_=>simp[ad,hG,f72,stC,Qs,List.idxOf?_cons]
  | [u,v],_,_=>simp[ad,hG,f72,stC,Qs,List.idxOf?_cons]
  | [u,v,w],_,_=>simp[ad,hG,f72,stC,Qs,List.idxOf?_cons]
 have:=(au af (aw _) (ah _) (ax _) h).1;simpa [HS.mem] using this
theorem Li(M:Mem)(b:Nat)(o:Bool)(hb:M[b]? =some (.cells o 1 (stC L))):mB prog 72 [.slice b 0 L.length none] M (.slice M.length 0 L.length none) (M++[.cells true 1 (stC L)]):=by obtain⟨b',h,_,h2⟩:=mB.abu (rest:=[]) (new:=[.cells true 1 (stC L)]) (dA L) rfl rfl (Ga L h1 h3) (M:=M) (x:=.slice b 0 L.length none) ⟨b,o,_,rfl,hb,List.take_length⟩;cases h;simpa [AV.ren,aae.ren,dr,bR (dA L)] using h2
end
theorem zW(nm:List UInt8)(x y:AV)(L:List (List UInt8))(h1:0<L.length)(h3:L.length≤3)(M:Mem)(b:Nat)(o:Bool)(hb:M[b]? =some (.cells o 1 (stC L))):
  mB prog 44 [.agg (aZ nm x (.slice b 0 L.length none) y)] M (.slice (M.length+1) 0 L.length none) (M++[.cells true 0 (aZ nm x (.slice b 0 L.length none) y),.cells true 1 (stC L)]):=by
 have lb:=(List.getElem?_eq_some_iff.1 hb).1;obtain⟨E,hE⟩:∃E:Mem,E=[.cells true 0 (aZ nm x (.slice b 0 L.length none) y)]:=⟨_,rfl⟩
 have hc:=Li L h1 h3 (M++E) b o (by rw[List.getElem?_append_left lb];exact hb);have hO:qS prog (gj [(72,[.slice b 0 L.length none],M++E,⟨.slice (M.length+1) 0 L.length none,none,[.cells true 1 (stC L)]⟩)]):=iK fun e he=>by simp only[List.mem_cons,List.not_mem_nil,or_false] at he;subst he;refine⟨?_,by simp⟩;rw[hE] at hc ⊢;simpa [HS.mem] using hc
 have h:aK (aC prog) (fun _=>[]) (aO prog) (gj [(72,[.slice b 0 L.length none],M++E,⟨.slice (M.length+1) 0 L.length none,none,[.cells true 1 (stC L)]⟩)]) 1 44 [.agg (aZ nm x (.slice b 0 L.length none) y)] M=some (.slice (M.length+1) 0 L.length none,M++[.cells true 0 (aZ nm x (.slice b 0 L.length none) y),.cells true 1 (stC L)]):=by rw[hE];simp[aK,abK,f44,aZ,gj]
 have:=bn af (aw _) hO (ax _) h;exact this
def aaz(b:Nat) (new M' :Mem):Prop:=∀(k:Nat) x,new[k]? =some x→M'[b+k]? =some x
def fZ(b:Nat) (new:Mem) (ev:List AV) (U:List (List UInt8)):Prop:=∀M',aaz b new M' →∃v nw,mB prog 44 [.agg ev] M' v (M' ++nw)∧∀ext,sts (M' ++nw++ext) v=some U
theorem FT{L:List (List UInt8)}(h:M[b]? =some (.cells o 1 (stC L))):sts M (.slice b 0 L.length none)=some L:=by unfold sts;rw[J9 h (by rw[dB];omega) (by rw[←dB,Nat.mul_one,List.take_length])];exact Bz _
variable{ev:List AV}{new:Mem}
theorem qw(h:∀M,mB prog 44 [.agg ev] M .kO M):fZ b new ev []:=fun M' _=>⟨.kO,[],by simpa using h M',fun _=>rfl⟩
theorem uV(nm:List UInt8)(n:Z3)(a w:Int)(u:List UInt8):fZ b new (dG nm n a w u) [u]:=fun M' _=>⟨.slice M'.length 0 1 none,[.cells true 1 [.str u]],yu nm n a w u M',fun ext' =>FT (L:=[u]) (o:=true) (by rw[List.append_assoc,List.getElem?_append_right (by omega),Nat.sub_self];rfl)⟩
theorem iB{b0:Nat}(nm:List UInt8)(x y:AV)(L:List (List UInt8))(h1:0<L.length)(h3:L.length≤3)(j:Nat)(o:Bool)(hb:new[j]? =some (.cells o 1 (stC L))):fZ b0 new (aZ nm x (.slice (b0+j) 0 L.length none) y) L:=fun M' hk=>by have J' :=hk j _ hb;refine⟨.slice (M'.length+1) 0 L.length none,[.cells true 0 (aZ nm x (.slice (b0+j) 0 L.length none) y),.cells true 1 (stC L)],zW nm x y L h1 h3 M' (b0+j) o J',fun ext' =>FT (o:=true) ?_⟩;rw[List.append_assoc,List.getElem?_append_right (by omega),show M'.length+1-M'.length=1 by omega];rfl
def po(M new:Mem):Prop:=(new.all fun x=>(x.own||match x with | .qF=>true | _=>false)&&x.HK (fun b=>decide (b<M.length+5)))=true
def sn(ev:List AV):Prop:=∀x∈ev,(match x with | .agg _=>false | .tuple _=>false | .undef=>false | _=>true)=true
def bI(d:aao) (i:Nat):List (List UInt8):=if d.kind%5=0 then bp i (d.K.1%3) else if d.kind%5=3 then [ik i] else []
variable{C:List AV}{N:Mem}{n:Nat}{v:AV}
theorem aat.aaD(h:aat N v es n C)(hn:n=0):v=.kO:=by
 rcases h with⟨h,_,_⟩ | ⟨_,_,_,h,_⟩
 ·exact h
 ·omega
theorem aat.pos(h:aat N v es n C)(hn:0<n):∃b o,v=.slice b 0 n none∧N[b]? =some (.cells o es C):=by
 rcases h with⟨_,h,_⟩ | ⟨b,o,h1,_,h2⟩
 ·omega
 ·exact⟨b,o,h1,h2⟩
theorem abn.aaD{S:List (List (List UInt8))}(h:abn N v S)(hS:S=[]):v=.kO:=by obtain⟨vs,_,h,_⟩:=h;exact h.aaD (by rw[hS];rfl)
theorem aat.ck(h:aat N v es n C):v.qK=true:=by rcases h with⟨rfl,_⟩ | ⟨b,o,rfl,_⟩<;>rfl
variable{c:Evc}{e:List AV}
theorem aaI.l32(h:aaI N e c):e.length=32:=by obtain⟨b,u,s,kn,rfl,_⟩:=h;rfl
theorem aaI.cok(h:aaI N e c):∀x∈e,x.qK=true:=by obtain⟨b,u,s,kn,rfl,h1,h2,⟨_,_,h3,_⟩,h4⟩:=h;intro x hx;simp only[Evc.cells,List.mem_cons,List.not_mem_nil,or_false] at hx;rcases hx with rfl | rfl | rfl | rfl | rfl | rfl | rfl | rfl | rfl | rfl | rfl | rfl | rfl | rfl | rfl | rfl | rfl | rfl | rfl | rfl | rfl | rfl | rfl | rfl | rfl | rfl | rfl | rfl | rfl | rfl | rfl | rfl<;>first | rfl | exact h1.ck | exact h2.ck | exact h3.ck | exact h4.ck
theorem aat.inj{n' :Nat}{C' :List AV}(h:aat N v es n C)(h' :aat N v es n' C'):n=n' ∧C=C' :=by
 rcases h with⟨rfl,rfl,rfl⟩ | ⟨b,o,rfl,hp,hb⟩
 ·rcases h' with⟨_,rfl,rfl⟩ | ⟨b',o',h,_⟩
  ·exact⟨rfl,rfl⟩
  ·cases h
 ·rcases h' with⟨h,_⟩ | ⟨b',o',h,_,J'⟩
  ·cases h
  ·cases h
   rw[hb] at J';cases J';exact⟨rfl,rfl⟩
def unE(c:Evc):List (List UInt8):=if c.k=1 then c.U else if c.k=4 then [c.x24] else []
theorem Sn{d:Evc}(h:aaI M ev c)(k:aaI M ev d):unE c=unE d:=by
 obtain⟨b,u,sv,kn,e1,_,h2,_,_⟩:=h;obtain⟨b',u',sv',WT,e2,_,k2,_,_⟩:=k;rw[e1] at e2;simp only[Evc.cells,List.cons.injEq,AV.int.injEq,AV.str.injEq,true_and,and_true] at e2;obtain⟨ek,_,_,eu,_,_,_,_,_,_,_,_,_,_,_,_,_,_,_,_,_,_,_,_,ex,_⟩:=e2;subst eu;have eU:c.U=d.U:=by have:=congrArg stP (h2.inj k2).2;rw[Bz,Bz] at this;exact Option.some.inj this
 unfold unE;rw[ek,eU,ex]
def Sw(s:aaf) (c:Evc):Prop:=∀(M:Mem) (p t:Nat) (o o' :Bool) (ev:List AV),M[p]? =some (.cells o 2 (pC s.P))→M[t]? =some (.cells o' 3 (tC s.T))→aaI M ev c→mB prog 43 [.agg [.slice p 0 s.P.length none,.slice t 0 s.T.length none],.agg ev] M (.int .i64 0) M
def Sy(c:Evc):Prop:=∀(M:Mem) (ev:List AV),aaI M ev c→∃v nw,mB prog 44 [.agg ev] M v (M++nw)∧∀ext,sts (M++nw++ext) v=some (unE c)
def Lh(c:Evc):Prop:=(∃nm B U S,c=Fm nm B U S∧B≠[])∨(∃nm n o s,c=AR nm n o s)∨(∃nm n K s,c=MP nm n K s)∨(∃nm n o w u,c=PH nm n o w u)∨∃nm t x,c=J7 nm t x
structure Tryz.abd (s:aaf) (c:Evc):Prop where
 ok:c.Ok
 chk:Sw s c
 un:Sy c
 le:(unE c).length≤3
structure Tryz.Good (s:aaf) (c:Evc):Prop extends abd s c where
 form:Lh c
 nmo:c.nm∈bk
 ren:∀nm∈bk,abd s { c with nm:=nm }
 dk:c.k=4→∀nm∈bk,abd s { c with nm:=nm,x24:=[122] }
section
variable (s:aaf)(nm:List UInt8)
include s nm
theorem o8(n:Z3)(a:Int)(v:Z3)(hm:nm∈bk)(hn:gm 99 n)(hz:iS n=false)(ho:a.natAbs≤1000)(hs:gm 99 v)(hd:Ld v n=0):abd s (AR nm n a v) where
 ok:=zk rfl rfl rfl (by simp[AR])
 chk:=fun M p t o o' ev hp ht h=>by obtain⟨b,u,sv,kn,rfl,h1,h2,h3,h4⟩:=h;obtain rfl:=h1.aaD rfl;obtain rfl:=h2.aaD rfl;obtain rfl:=h3.aaD rfl;obtain rfl:=h4.aaD rfl;exact jZ s nm n a v hm hn hz ho hs hd M p t o o' hp ht
 un:=fun M ev h=>by obtain⟨b,u,sv,kn,rfl,h1,h2,h3,h4⟩:=h;obtain rfl:=h1.aaD rfl;obtain rfl:=h2.aaD rfl;obtain rfl:=h3.aaD rfl;obtain rfl:=h4.aaD rfl;exact⟨.kO,[],by rw[List.append_nil];exact mF nm n a v M,fun _=>rfl⟩
 le:=by show(0:Nat)≤3;omega
theorem Aq(n:Z3)(a:Int)(v:Z3)(hm:nm∈bk)(hn:gm 99 n)(hz:iS n=false)(ho:a.natAbs≤1000)(hs:gm 99 v)(hd:Ld v n=0):Tryz.Good s (AR nm n a v) where
 toabd:=o8 s nm n a v hm hn hz ho hs hd
 form:=.inr (.inl ⟨_,_,_,_,rfl⟩)
 nmo:=hm
 ren:=fun Yz YR =>o8 s Yz n a v YR hn hz ho hs hd
 dk:=fun h=>absurd h (by show¬((2:Int)=4);decide)
theorem qc(i:Nat)(c:Z3)(hm:nm∈bk)(hc:gm 99 c):abd s (J7 nm (fk i) c) where
 ok:=zk rfl rfl rfl (by simp[J7])
 chk:=fun M p t o o' ev hp ht h=>by obtain⟨b,u,sv,kn,rfl,h1,h2,h3,h4⟩:=h;obtain rfl:=h1.aaD rfl;obtain rfl:=h2.aaD rfl;obtain rfl:=h3.aaD rfl;obtain rfl:=h4.aaD rfl;exact lA s nm i c hm hc M p t o o' hp ht
 un:=fun M ev h=>by obtain⟨b,u,sv,kn,rfl,h1,h2,h3,h4⟩:=h;obtain rfl:=h1.aaD rfl;obtain rfl:=h2.aaD rfl;obtain rfl:=h3.aaD rfl;obtain rfl:=h4.aaD rfl;exact⟨.kO,[],by rw[List.append_nil];exact oY nm (fk i) c M,fun _=>rfl⟩
 le:=by show(0:Nat)≤3;omega
theorem sB(i:Nat)(c:Z3)(hm:nm∈bk)(hc:gm 99 c):Tryz.Good s (J7 nm (fk i) c) where
 toabd:=qc s nm i c hm hc
 form:=.inr (.inr (.inr (.inr ⟨_,_,_,rfl⟩)))
 nmo:=hm
 ren:=fun Yz YR =>qc s Yz i c YR hc
 dk:=fun h=>absurd h (by show¬((5:Int)=4);decide)
theorem kf(n:Z3)(a w:Int)(u:List UInt8)(hm:nm∈bk)(hn:gm 99 n)(hz:iS n=false)(ho:a.natAbs≤1000)(hw:0<w)(ZG:w<1000)(hu:u∈bk):abd s (PH nm n a w u) where
 ok:=zk rfl rfl rfl (by simp[PH])
 chk:=fun M p t o o' ev hp ht h=>by obtain⟨b,u',sv,kn,rfl,h1,h2,h3,h4⟩:=h;obtain rfl:=h1.aaD rfl;obtain rfl:=h2.aaD rfl;obtain rfl:=h3.aaD rfl;obtain rfl:=h4.aaD rfl;exact ly s nm n a w u hm hn hz ho hw ZG hu M p t o o' hp ht
 un:=fun M ev h=>by obtain⟨b,u',sv,kn,rfl,h1,h2,h3,h4⟩:=h;obtain rfl:=h1.aaD rfl;obtain rfl:=h2.aaD rfl;obtain rfl:=h3.aaD rfl;obtain rfl:=h4.aaD rfl;exact uV (b:=0) (new:=[]) nm n a w u M fun k x h=>by simp at h
 le:=by show(1:Nat)≤3;omega
theorem Cg(n:Z3)(a w:Int)(u:List UInt8)(hm:nm∈bk)(hn:gm 99 n)(hz:iS n=false)(ho:a.natAbs≤1000)(hw:0<w)(ZG:w<1000)(hu:u∈bk):Tryz.Good s (PH nm n a w u) where
 toabd:=kf s nm n a w u hm hn hz ho hw ZG hu
 form:=.inr (.inr (.inr (.inl ⟨_,_,_,_,_,rfl⟩)))
 nmo:=hm
 ren:=fun Yz YR =>kf s Yz n a w u YR hn hz ho hw ZG hu
 dk:=fun _ Yz YR =>kf s Yz n a w [122] YR hn hz ho hw ZG (by decide)
theorem p9(n v:Z3)(d:aao)(c:Nat)(h1:0<c)(hc:c≤3)(hm:nm∈bk)(hn:gm 99 n)(hz:iS n=false)(hs:gm 99 v)(hd:Ld v n=0):abd s (MP nm n (kT (cU d c)) v) where
 ok:=zk rfl rfl rfl (by show(kT (cU d c)).length≤1000;rw[qP,fL];omega)
 chk:=fun M p t o o' ev hp ht h=>by
  obtain⟨b,u,sv,kn,rfl,k1,k2,k3,k4⟩:=h;obtain rfl:=k1.aaD rfl;obtain rfl:=k2.aaD rfl;obtain rfl:=k3.aaD rfl;have e:(MP nm n (kT (cU d c)) v).K.length=c:=by show(kT (cU d c)).length=c;rw[qP,fL]
  rw[e] at k4;obtain⟨b,q,rfl,hb⟩:=k4.pos h1;have J' :M[b]? =some (.cells q 2 (pC (cU d c))):=by rw[R7];exact hb
  exact lz s nm n v d c h1 hc hm hn hz hs hd M p t o o' hp ht b q J'
 un:=fun M ev h=>by obtain⟨b,u,sv,kn,rfl,k1,k2,k3,k4⟩:=h;obtain rfl:=k1.aaD rfl;obtain rfl:=k2.aaD rfl;obtain rfl:=k3.aaD rfl;exact⟨.kO,[],by rw[List.append_nil];exact oW nm n v kn M,fun _=>rfl⟩
 le:=by show(0:Nat)≤3;omega
theorem Ch(n v:Z3)(d:aao)(c:Nat)(h1:0<c)(hc:c≤3)(hm:nm∈bk)(hn:gm 99 n)(hz:iS n=false)(hs:gm 99 v)(hd:Ld v n=0):Tryz.Good s (MP nm n (kT (cU d c)) v) where
 toabd:=p9 s nm n v d c h1 hc hm hn hz hs hd
 form:=.inr (.inr (.inl ⟨_,_,_,_,rfl⟩))
 nmo:=hm
 ren:=fun Yz YR =>p9 s Yz n v d c h1 hc YR hn hz hs hd
 dk:=fun h=>absurd h (by show¬((3:Int)=4);decide)
end
theorem PR(Z:List Int):stC (hT Z)=qC (qH Z):=by rw[xP];rfl
section
variable (s:aaf)(nm:List UInt8)
include s nm
section
variable (u0:List UInt8)(Z:List Int)(hm:nm∈bk)(n0:u0∈bk)(hZ:∀z∈Z,z.natAbs<1000)(hl:Z.length≤1000)(WC:0<Z.length)(hn:Z.length=s.P.length)
include u0 Z hm n0 hZ hl WC hn
theorem pX:abd s (Fm nm (hT Z) [u0] []) where
 ok:=⟨by show(hT Z).length≤1000;rw[dh];exact hl,by show(1:Nat)≤1000;omega,by show(0:Nat)≤2;omega,fun L hL=>by simp[Fm] at hL,by show(0:Nat)≤1000;omega⟩
 chk:=fun M p t o o' ev hp ht h=>by
  obtain⟨b,u,sv,kn,rfl,k1,k2,k3,k4⟩:=h;obtain rfl:=k4.aaD rfl;have e:(Fm nm (hT Z) [u0] []).B.length=Z.length:=dh Z;rw[e] at k1;obtain⟨b,q1,rfl,hb⟩:=k1.pos WC;obtain⟨u,q2,rfl,hu⟩:=k2.pos (by show 0<1;omega);have J' :M[b]? =some (.cells q1 1 (qC (qH Z))):=by rw[←PR];exact hb
  obtain rfl:=k3.aaD rfl;exact lh s nm u0 Z hm n0  hZ hl hn  M p t o o' hp ht b u q1 q2 J' hu
 un:=fun M ev h=>by
  obtain⟨b,u,sv,kn,rfl,k1,k2,k3,k4⟩:=h;obtain rfl:=k4.aaD rfl;obtain⟨u,q2,rfl,hu⟩:=k2.pos (by show 0<1;omega);exact iB (b0:=u) (new:=[.cells q2 1 (stC [u0])]) nm b sv [u0] (by show 0<1;omega) (by show 1≤3;omega) 0 q2 rfl M fun k x hk=>by
   match k,hk with
   |0,hk=>simp only[List.getElem?_cons_zero,Option.some.injEq] at hk;subst hk;exact hu
   |k+1,hk=>simp at hk
 le:=by show(1:Nat)≤3;omega
theorem Cd:Tryz.Good s (Fm nm (hT Z) [u0] []) where
 toabd:=pX s nm u0 Z hm n0 hZ hl WC hn
 form:=.inl ⟨_,_,_,_,rfl,fun h=>by have e:(hT Z).length=0:=(by rw[h];rfl);rw[dh] at e;omega⟩
 nmo:=hm
 ren:=fun Yz YR =>pX s Yz u0 Z YR n0 hZ hl WC hn
 dk:=fun h=>absurd h (by show¬((1:Int)=4);decide)
end
section
variable (u0 u1:List UInt8)(Z Y1:List Int)(hm:nm∈bk)(n0:u0∈bk)(n1:u1∈bk)(YL:u1≠u0)(hZ:∀z∈Z,z.natAbs<1000)(hl:Z.length≤1000)(WC:0<Z.length)(hn:Z.length=s.P.length)(YG:∀z∈Y1,z.natAbs<1000)(Xb:Y1.length=s.P.length)(W5:∀(i:Nat) z y,Z[i]? =some z→Y1[i]? =some y→z≤y)
include u0 u1 Z Y1 hm n0 n1 YL hZ hl WC hn YG Xb W5
theorem pY:abd s (Fm nm (hT Z) [u0,u1] [hT Y1]) where
 ok:=⟨by show(hT Z).length≤1000;rw[dh];exact hl,by show(2:Nat)≤1000;omega,by show(1:Nat)≤2;omega,fun L hL=>by simp only[Fm,List.mem_cons,List.not_mem_nil,or_false] at hL;rcases hL with rfl<;>(rw[dh];omega),by show(0:Nat)≤1000;omega⟩
 chk:=fun M p t o o' ev hp ht h=>by
  obtain⟨b,u,sv,kn,rfl,k1,k2,k3,k4⟩:=h;obtain rfl:=k4.aaD rfl;have e:(Fm nm (hT Z) [u0,u1] [hT Y1]).B.length=Z.length:=dh Z;rw[e] at k1;obtain⟨b,q1,rfl,hb⟩:=k1.pos WC;obtain⟨u,q2,rfl,hu⟩:=k2.pos (by show 0<2;omega);have J' :M[b]? =some (.cells q1 1 (qC (qH Z))):=by rw[←PR];exact hb
  obtain⟨vs,lv,kv,kc⟩:=k3;obtain⟨v1,rfl⟩:∃v1,vs=[v1]:=by
   match vs,lv with
   | [v1],_=>exact⟨v1,rfl⟩
  obtain⟨c,q3,rfl,hc⟩:=kv.pos (by show 0<1;omega);have g1:=kc 0 v1 (hT Y1) rfl rfl;rw[dh,Xb,←hn] at g1;obtain⟨r1,w1,rfl,WL⟩:=g1.pos WC;rw[PR] at WL;exact lk s nm u0 u1 Z Y1 hm n0 n1 YL hZ hl hn YG Xb W5 M p t o o' hp ht b u q1 q2 J' hu c r1 q3 w1 hc WL
 un:=fun M ev h=>by
  obtain⟨b,u,sv,kn,rfl,k1,k2,k3,k4⟩:=h;obtain rfl:=k4.aaD rfl;obtain⟨u,q2,rfl,hu⟩:=k2.pos (by show 0<2;omega);exact iB (b0:=u) (new:=[.cells q2 1 (stC [u0,u1])]) nm b sv [u0,u1] (by show 0<2;omega) (by show 2≤3;omega) 0 q2 rfl M fun k x hk=>by
   match k,hk with
   |0,hk=>simp only[List.getElem?_cons_zero,Option.some.injEq] at hk;subst hk;exact hu
   |k+1,hk=>simp at hk
 le:=by show(2:Nat)≤3;omega
theorem Ce:Tryz.Good s (Fm nm (hT Z) [u0,u1] [hT Y1]) where
 toabd:=pY s nm u0 u1 Z Y1 hm n0 n1 YL hZ hl WC hn YG Xb W5
 form:=.inl ⟨_,_,_,_,rfl,fun h=>by have e:(hT Z).length=0:=(by rw[h];rfl);rw[dh] at e;omega⟩
 nmo:=hm
 ren:=fun Yz YR =>pY s Yz u0 u1 Z Y1 YR n0 n1 YL hZ hl WC hn YG Xb W5
 dk:=fun h=>absurd h (by show¬((1:Int)=4);decide)
end
section
variable (u0 u1 u2:List UInt8)(Z Y1 Y2:List Int)(hm:nm∈bk)(n0:u0∈bk)(n1:u1∈bk)(n2:u2∈bk)(YL:u1≠u0)(d02:u2≠u0)(d12:u2≠u1)(hZ:∀z∈Z,z.natAbs<1000)(hl:Z.length≤1000)(WC:0<Z.length)(hn:Z.length=s.P.length)(YG:∀z∈Y1,z.natAbs<1000)(Xb:Y1.length=s.P.length)(W5:∀(i:Nat) z y,Z[i]? =some z→Y1[i]? =some y→z≤y)(hY2:∀z∈Y2,z.natAbs<1000)(WZ:Y2.length=s.P.length)(YM:∀(i:Nat) z y,Y1[i]? =some z→Y2[i]? =some y→z≤y)
include u0 u1 u2 Z Y1 Y2 hm n0 n1 n2 YL d02 d12 hZ hl WC hn YG Xb W5 hY2 WZ YM
theorem pZ:abd s (Fm nm (hT Z) [u0,u1,u2] [hT Y1,hT Y2]) where
 ok:=⟨by show(hT Z).length≤1000;rw[dh];exact hl,by show(3:Nat)≤1000;omega,by show(2:Nat)≤2;omega,fun L hL=>by simp only[Fm,List.mem_cons,List.not_mem_nil,or_false] at hL;rcases hL with rfl | rfl<;>(rw[dh];omega),by show(0:Nat)≤1000;omega⟩
 chk:=fun M p t o o' ev hp ht h=>by
  obtain⟨b,u,sv,kn,rfl,k1,k2,k3,k4⟩:=h;obtain rfl:=k4.aaD rfl;have e:(Fm nm (hT Z) [u0,u1,u2] [hT Y1,hT Y2]).B.length=Z.length:=dh Z;rw[e] at k1;obtain⟨b,q1,rfl,hb⟩:=k1.pos WC;obtain⟨u,q2,rfl,hu⟩:=k2.pos (by show 0<3;omega);have J' :M[b]? =some (.cells q1 1 (qC (qH Z))):=by rw[←PR];exact hb
  obtain⟨vs,lv,kv,kc⟩:=k3;obtain⟨v1,v2,rfl⟩:∃v1 v2,vs=[v1,v2]:=by
   match vs,lv with
   | [v1,v2],_=>exact⟨v1,v2,rfl⟩
  obtain⟨c,q3,rfl,hc⟩:=kv.pos (by show 0<2;omega);have g1:=kc 0 v1 (hT Y1) rfl rfl;rw[dh,Xb,←hn] at g1;obtain⟨r1,w1,rfl,WL⟩:=g1.pos WC;rw[PR] at WL;have g2:=kc 1 v2 (hT Y2) rfl rfl;rw[dh,WZ,←hn] at g2;obtain⟨r2,w2,rfl,WR⟩:=g2.pos WC;rw[PR] at WR;exact lr s nm u0 u1 u2 Z Y1 Y2 hm n0 n1 n2 YL d02 d12 hZ hl hn YG Xb W5 hY2 WZ YM M p t o o' hp ht b u q1 q2 J' hu c r1 r2 q3 w1 w2 hc WL WR
 un:=fun M ev h=>by
  obtain⟨b,u,sv,kn,rfl,k1,k2,k3,k4⟩:=h;obtain rfl:=k4.aaD rfl;obtain⟨u,q2,rfl,hu⟩:=k2.pos (by show 0<3;omega);exact iB (b0:=u) (new:=[.cells q2 1 (stC [u0,u1,u2])]) nm b sv [u0,u1,u2] (by show 0<3;omega) (by show 3≤3;omega) 0 q2 rfl M fun k x hk=>by
   match k,hk with
   |0,hk=>simp only[List.getElem?_cons_zero,Option.some.injEq] at hk;subst hk;exact hu
   |k+1,hk=>simp at hk
 le:=by show(3:Nat)≤3;omega
theorem Cf:Tryz.Good s (Fm nm (hT Z) [u0,u1,u2] [hT Y1,hT Y2]) where
 toabd:=pZ s nm u0 u1 u2 Z Y1 Y2 hm n0 n1 n2 YL d02 d12 hZ hl WC hn YG Xb W5 hY2 WZ YM
 form:=.inl ⟨_,_,_,_,rfl,fun h=>by have e:(hT Z).length=0:=(by rw[h];rfl);rw[dh] at e;omega⟩
 nmo:=hm
 ren:=fun Yz YR =>pZ s Yz u0 u1 u2 Z Y1 Y2 YR n0 n1 n2 YL d02 d12 hZ hl WC hn YG Xb W5 hY2 WZ YM
 dk:=fun h=>absurd h (by show¬((1:Int)=4);decide)
end
end
end Go.Proofs
