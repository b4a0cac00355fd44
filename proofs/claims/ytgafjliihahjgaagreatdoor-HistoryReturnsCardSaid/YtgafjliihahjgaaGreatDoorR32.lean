/- See R54. -/
import Derived.Test.YtgafjliihahjgaaGreatDoorR31
set_option linter.all false
namespace Go.Proofs
open Go.Eng
open Tryz
variable{M:Mem}{b es:Nat}{o:Bool}
theorem NM{ks:List Nat}{cs Yf :List AV}(hu:AV.aeQ ks.length cs=true)(h:M[b]? =some (.cells o es Yf))(hr:Yf =AV.aeM (aF ks M.length) cs):so ks M b (.cells false es cs):=by refine⟨hu,o,Yf,h,fun j v hv=>?_⟩;rw[hr,fV,List.getElem?_map,hv];rfl
section
variable (s:aeE)(nm:List UInt8)
include s nm
theorem kB(n:Z3)(a:Int)(v:Z3)(hm:nm∈bC)(hn:eS 99 n)(hz:ib n=false)(ho:a.natAbs≤1000)(hs:eS 99 v)(hd:AM v n=0)(M:Mem)(p t:Nat)(o o' :Bool)(hp:M[p]? =some (.cells o 2 (pC s.P)))(ht:M[t]? =some (.cells o' 3 (tC s.T))):
  kF prog 61 [.agg [.slice p 0 s.P.length none,.slice t 0 s.T.length none],.agg (cb nm n a v)] M (.int .i64 0) M:=by
 have l0:=(gL hp);have l1:=(gL ht);have:=kF.frame (M:=M) (new:=[]) [p,t] rfl (by simp[l0,l1]) (by rfl) (fun i q hs=>by
  match i with
  |0=>simp at hs;subst hs;exact bL (dQ _) hp List.take_length
  |1=>simp at hs;subst hs;exact bL (fJ _) ht List.take_length
  |i+2=>simp at hs) rfl (ue s nm n a v hm hn hz ho hs hd)
 simpa [shA,cb,AV.aeM,AV.ren,aF] using this
theorem lL(n:Z3)(a w:Int)(u:List UInt8)(hm:nm∈bC)(hn:eS 99 n)(hz:ib n=false)(ho:a.natAbs≤1000)(hw:0<w)(hw2:w<1000)(hu:u∈bC)(M:Mem)(p t:Nat)(o o' :Bool)(hp:M[p]? =some (.cells o 2 (pC s.P)))(ht:M[t]? =some (.cells o' 3 (tC s.T))):
  kF prog 61 [.agg [.slice p 0 s.P.length none,.slice t 0 s.T.length none],.agg (di nm n a w u)] M (.int .i64 0) M:=by
 have l0:=(gL hp);have l1:=(gL ht);have:=kF.frame (M:=M) (new:=[]) [p,t] rfl (by simp[l0,l1]) (by rfl) (fun i q hs=>by
  match i with
  |0=>simp at hs;subst hs;exact bL (dQ _) hp List.take_length
  |1=>simp at hs;subst hs;exact bL (fJ _) ht List.take_length
  |i+2=>simp at hs) rfl (vH s nm n a w u hm hn hz ho hw hw2 hu)
 simpa [shA,di,AV.aeM,AV.ren,aF] using this
theorem lN(i:Nat)(c:Z3)(hm:nm∈bC)(hc:eS 99 c)(M:Mem)(p t:Nat)(o o' :Bool)(hp:M[p]? =some (.cells o 2 (pC s.P)))(ht:M[t]? =some (.cells o' 3 (tC s.T))):
  kF prog 61 [.agg [.slice p 0 s.P.length none,.slice t 0 s.T.length none],.agg (dB nm (bR i) c)] M (.int .i64 0) M:=by
 have l0:=(gL hp);have l1:=(gL ht);have:=kF.frame (M:=M) (new:=[]) [p,t] rfl (by simp[l0,l1]) (by rfl) (fun i q hs=>by
  match i with
  |0=>simp at hs;subst hs;exact bL (dQ _) hp List.take_length
  |1=>simp at hs;subst hs;exact bL (fJ _) ht List.take_length
  |i+2=>simp at hs) rfl (vJ s nm i c hm hc)
 simpa [shA,dB,AV.aeM,AV.ren,aF] using this
theorem lM(n v:Z3)(d:aeN)(c:Nat)(h1:0<c)(hc:c≤3)(hm:nm∈bC)(hn:eS 99 n)(hz:ib n=false)(hs:eS 99 v)(hd:AM v n=0)(M:Mem)(p t:Nat)(o o' :Bool)(hp:M[p]? =some (.cells o 2 (pC s.P)))(ht:M[t]? =some (.cells o' 3 (tC s.T)))(b:Nat)(q:Bool)(hb:M[b]? =some (.cells q 2 (pC (bV d c)))):
  kF prog 61 [.agg [.slice p 0 s.P.length none,.slice t 0 s.T.length none],.agg (bO nm n (.slice b 0 c none) v)] M (.int .i64 0) M:=by
 have l0:=(gL hp);have l1:=(gL ht);have l2:=(gL hb);have:=kF.frame (M:=M) (new:=[]) [p,t,b] rfl (by simp[l0,l1,l2]) (by rfl) (fun i q hs=>by
  match i with
  |0=>simp[uV] at hs;subst hs;exact bL (dQ _) hp List.take_length
  |1=>simp[uV] at hs;subst hs;exact bL (fJ _) ht List.take_length
  |2=>simp[uV] at hs;subst hs;exact bL (dQ _) hb List.take_length
  |i+3=>simp[uV] at hs) rfl (vI s nm n v d c h1 hc hm hn hz hs hd)
 simpa [shA,bO,AV.aeM,AV.ren,aF] using this
theorem lI(u0:List UInt8)(Z:List Int)(hm:nm∈bC)(n0:u0∈bC)(hZ:∀z∈Z,z.natAbs<1000)(hl:Z.length≤1000)(hn:Z.length=s.P.length)(M:Mem)(p t:Nat)(o o' :Bool)(hp:M[p]? =some (.cells o 2 (pC s.P)))(ht:M[t]? =some (.cells o' 3 (tC s.T)))(b u:Nat)(q1 q2:Bool)(hb:M[b]? =some (.cells q1 1 (qC (qH Z))))(hu:M[u]? =some (.cells q2 1 [.str u0])):
  kF prog 61 [.agg [.slice p 0 s.P.length none,.slice t 0 s.T.length none],.agg (bc nm (.slice b 0 Z.length none) (.slice u 0 1 none) (.kK))] M (.int .i64 0) M:=by
 have lp:=(gL hp);have lt:=(gL ht);have lb:=(gL hb);have lu:=(gL hu);have:=kF.frame (M:=M) (new:=[]) [p,t,b,u] rfl (by simp[lp,lt,lb,lu]) (by rfl) (fun i q hs=>by
  match i with
  |0=>simp[mJ] at hs;subst hs;exact bL (dQ _) hp List.take_length
  |1=>simp[mJ] at hs;subst hs;exact bL (fJ _) ht List.take_length
  |2=>simp[mJ] at hs;subst hs;exact bL (jJ _) hb List.take_length
  |3=>simp[mJ] at hs;subst hs;exact bL (by rfl) hu List.take_length
  |i+4=>simp[mJ] at hs) rfl (vD s nm u0 Z hm n0  hZ hl hn)
 simpa [shA,bc,AV.aeM,AV.ren,aF] using this
theorem lJ(u0 u1:List UInt8)(Z Y1:List Int)(hm:nm∈bC)(n0:u0∈bC)(n1:u1∈bC)(ZF:u1≠u0)(hZ:∀z∈Z,z.natAbs<1000)(hl:Z.length≤1000)(hn:Z.length=s.P.length)(Zr:∀z∈Y1,z.natAbs<1000)(Ym:Y1.length=s.P.length)(Yq:∀(i:Nat) z y,Z[i]? =some z→Y1[i]? =some y→z≤y)(M:Mem)(p t:Nat)(o o' :Bool)(hp:M[p]? =some (.cells o 2 (pC s.P)))(ht:M[t]? =some (.cells o' 3 (tC s.T)))(b u:Nat)(q1 q2:Bool)(hb:M[b]? =some (.cells q1 1 (qC (qH Z))))(hu:M[u]? =some (.cells q2 1 [.str u0,.str u1]))(c r1:Nat)(q3 w1:Bool)(hc:M[c]? =some (.cells q3 1 [.slice r1 0 Z.length none]))(Ya:M[r1]? =some (.cells w1 1 (qC (qH Y1)))):
  kF prog 61 [.agg [.slice p 0 s.P.length none,.slice t 0 s.T.length none],.agg (bc nm (.slice b 0 Z.length none) (.slice u 0 2 none) (.slice c 0 1 none))] M (.int .i64 0) M:=by
 have lp:=(gL hp);have lt:=(gL ht);have lb:=(gL hb);have lu:=(gL hu);have lc:=(gL hc);have lr1:=(gL Ya);have:=kF.frame (M:=M) (new:=[]) [p,t,b,u,c,r1] rfl (by simp[lp,lt,lb,lu,lc,lr1]) (by rfl) (fun i q hs=>by
  match i with
  |0=>simp[jM] at hs;subst hs;exact bL (dQ _) hp List.take_length
  |1=>simp[jM] at hs;subst hs;exact bL (fJ _) ht List.take_length
  |2=>simp[jM] at hs;subst hs;exact bL (jJ _) hb List.take_length
  |3=>simp[jM] at hs;subst hs;exact bL (by rfl) hu List.take_length
  |4=>simp[jM] at hs;subst hs;exact NM (by rfl) hc (by simp[AV.aeM,AV.ren,aF])
  |5=>simp[jM] at hs;subst hs;exact bL (jJ _) Ya List.take_length
  |i+6=>simp[jM] at hs) rfl (vE s nm u0 u1 Z Y1 hm n0 n1 ZF hZ hl hn Zr Ym Yq)
 simpa [shA,bc,AV.aeM,AV.ren,aF] using this
theorem lK(u0 u1 u2:List UInt8)(Z Y1 Y2:List Int)(hm:nm∈bC)(n0:u0∈bC)(n1:u1∈bC)(n2:u2∈bC)(ZF:u1≠u0)(d02:u2≠u0)(d12:u2≠u1)(hZ:∀z∈Z,z.natAbs<1000)(hl:Z.length≤1000)(hn:Z.length=s.P.length)(Zr:∀z∈Y1,z.natAbs<1000)(Ym:Y1.length=s.P.length)(Yq:∀(i:Nat) z y,Z[i]? =some z→Y1[i]? =some y→z≤y)(hY2:∀z∈Y2,z.natAbs<1000)(YU:Y2.length=s.P.length)(ZG:∀(i:Nat) z y,Y1[i]? =some z→Y2[i]? =some y→z≤y)(M:Mem)(p t:Nat)(o o' :Bool)(hp:M[p]? =some (.cells o 2 (pC s.P)))(ht:M[t]? =some (.cells o' 3 (tC s.T)))(b u:Nat)(q1 q2:Bool)(hb:M[b]? =some (.cells q1 1 (qC (qH Z))))(hu:M[u]? =some (.cells q2 1 [.str u0,.str u1,.str u2]))(c r1 r2:Nat)(q3 w1 w2:Bool)(hc:M[c]? =some (.cells q3 1 [.slice r1 0 Z.length none,.slice r2 0 Z.length none]))(Ya:M[r1]? =some (.cells w1 1 (qC (qH Y1))))(Yc:M[r2]? =some (.cells w2 1 (qC (qH Y2)))):
  kF prog 61 [.agg [.slice p 0 s.P.length none,.slice t 0 s.T.length none],.agg (bc nm (.slice b 0 Z.length none) (.slice u 0 3 none) (.slice c 0 2 none))] M (.int .i64 0) M:=by
 have lp:=(gL hp);have lt:=(gL ht);have lb:=(gL hb);have lu:=(gL hu);have lc:=(gL hc);have lr1:=(gL Ya);have lr2:=(gL Yc);have:=kF.frame (M:=M) (new:=[]) [p,t,b,u,c,r1,r2] rfl (by simp[lp,lt,lb,lu,lc,lr1,lr2]) (by rfl) (fun i q hs=>by
  match i with
  |0=>simp[ji] at hs;subst hs;exact bL (dQ _) hp List.take_length
  |1=>simp[ji] at hs;subst hs;exact bL (fJ _) ht List.take_length
  |2=>simp[ji] at hs;subst hs;exact bL (jJ _) hb List.take_length
  |3=>simp[ji] at hs;subst hs;exact bL (by rfl) hu List.take_length
  |4=>simp[ji] at hs;subst hs;exact NM (by rfl) hc (by simp[AV.aeM,AV.ren,aF])
  |5=>simp[ji] at hs;subst hs;exact bL (jJ _) Ya List.take_length
  |6=>simp[ji] at hs;subst hs;exact bL (jJ _) Yc List.take_length
  |i+7=>simp[ji] at hs) rfl (vG s nm u0 u1 u2 Z Y1 Y2 hm n0 n1 n2 ZF d02 d12 hZ hl hn Zr Ym Yq hY2 YU ZG)
 simpa [shA,bc,AV.aeM,AV.ren,aF] using this
end
theorem af3:aT prog 62=some f62:=by kernel_rfl
section
variable (nm:List UInt8)
include nm
theorem mT(n:Z3)(a:Int)(v:Z3)(M:Mem):kF prog 62 [.agg (cb nm n a v)] M .kK M:=by refine az (ah _) (lv:=fun _=>[]) (K:=1) rfl rfl ?_ M;simp[ad,af3,f62,cb]
theorem oF(q:Int×Int×Int×Int)(c:Z3)(M:Mem):kF prog 62 [.agg (dB nm q c)] M .kK M:=by refine az (ah _) (lv:=fun _=>[]) (K:=1) rfl rfl ?_ M;simp[ad,af3,f62,dB]
theorem oD(n v:Z3)(x:AV)(M:Mem):kF prog 62 [.agg (bO nm n x v)] M .kK M:=by refine bB (K:=1) (lv:=fun _=>[]) (ah _) ?_;simp[ad,af3,f62,bO]
theorem yh(n:Z3)(a w:Int)(u:List UInt8)(M:Mem):kF prog 62 [.agg (di nm n a w u)] M (.slice M.length 0 1 none) (M++[.cells true 1 [.str u]]):=by
 have h:ad (aM prog) (fun _=>[]) (aT prog) bq 1 62 [.agg (di nm n a w u)] []=some ⟨.slice 0 0 1 none,none,[.cells true 1 [.str u]]⟩:=by simp[ad,af3,f62,di,List.idxOf?_cons]
 have h1:=(ak ae (aq _) (ah _) (au _) h).1;have h2:kF prog 62 [.agg (di nm n a w u)] [] (.slice 0 0 1 none) ([]++[.cells true 1 [.str u]]):=by simpa [HS.mem] using h1
 have:=kF.frame (M:=M) (m:=[]) (new:=[.cells true 1 [.str u]]) [] rfl (by simp) (by rfl) (fun i q hs=>by simp at hs) rfl h2;simpa [di,AV.aeM,AV.ren,aeD.ren,aF] using this
end
section
variable (L:List (List UInt8))(h1:0<L.length)(h3:L.length≤3)
include L h1 h3
theorem FU:kF prog 66 [.slice 0 0 L.length none] [.cells false 1 (stC L)] (.slice 1 0 L.length none) [.cells false 1 (stC L),.cells true 1 (stC L)]:=by
 have hG:aT prog 66=some f66:=by kernel_rfl
 have h:ad (aM prog) (fun _=>[]) (aT prog) bq 1 66 [.slice 0 0 L.length none] [.cells false 1 (stC L)]=some ⟨.slice 1 0 L.length none,none,[.cells true 1 (stC L)]⟩:=by
  match L,h1,h3 with
  | [u],_,_=>simp[ad,hG,f66,stC,Ax,List.idxOf?_cons]
  | [u,v],_,_=>simp[ad,hG,f66,stC,Ax,List.idxOf?_cons]
  | [u,v,w],_,_=>simp[ad,hG,f66,stC,Ax,List.idxOf?_cons]
 have:=(ak ae (aq _) (ah _) (au _) h).1;simpa [HS.mem] using this
theorem KX(M:Mem)(b:Nat)(o:Bool)(hb:M[b]? =some (.cells o 1 (stC L))):kF prog 66 [.slice b 0 L.length none] M (.slice M.length 0 L.length none) (M++[.cells true 1 (stC L)]):=by obtain⟨b',h,_,h2⟩:=kF.afL (rest:=[]) (new:=[.cells true 1 (stC L)]) (kx L) rfl rfl (FU L h1 h3) (M:=M) (x:=.slice b 0 L.length none) ⟨b,o,_,rfl,hb,List.take_length⟩;cases h;simpa [AV.ren,aeD.ren,aF,bQ (kx L)] using h2
end
theorem zH(nm:List UInt8)(x y:AV)(L:List (List UInt8))(h1:0<L.length)(h3:L.length≤3)(M:Mem)(b:Nat)(o:Bool)(hb:M[b]? =some (.cells o 1 (stC L))):
  kF prog 62 [.agg (bc nm x (.slice b 0 L.length none) y)] M (.slice (M.length+1) 0 L.length none) (M++[.cells true 0 (bc nm x (.slice b 0 L.length none) y),.cells true 1 (stC L)]):=by
 have lb:=(gL hb);obtain⟨E,hE⟩:∃E:Mem,E=[.cells true 0 (bc nm x (.slice b 0 L.length none) y)]:=⟨_,rfl⟩
 have hc:=KX L h1 h3 (M++E) b o (by rw[List.getElem?_append_left lb];exact hb);have hO:kP prog (fM [(66,[.slice b 0 L.length none],M++E,⟨.slice (M.length+1) 0 L.length none,none,[.cells true 1 (stC L)]⟩)]):=iO fun e he=>by simp only[List.mem_cons,List.not_mem_nil,or_false] at he;subst he;refine⟨?_,by simp⟩;rw[hE] at hc ⊢;simpa [HS.mem] using hc
 have h:aU (aM prog) (fun _=>[]) (aT prog) (fM [(66,[.slice b 0 L.length none],M++E,⟨.slice (M.length+1) 0 L.length none,none,[.cells true 1 (stC L)]⟩)]) 1 62 [.agg (bc nm x (.slice b 0 L.length none) y)] M=some (.slice (M.length+1) 0 L.length none,M++[.cells true 0 (bc nm x (.slice b 0 L.length none) y),.cells true 1 (stC L)]):=by rw[hE];simp[aU,af3,f62,bc,fM]
 have:=aO ae (aq _) hO (au _) h;exact this
def aeZ(b:Nat) (new M' :Mem):Prop:=∀(k:Nat) x,new[k]? =some x→M'[b+k]? =some x
def gh(b:Nat) (new:Mem) (ev:List AV) (U:List (List UInt8)):Prop:=∀M',aeZ b new M' →∃v nw,kF prog 62 [.agg ev] M' v (M' ++nw)∧∀ext,sts (M' ++nw++ext) v=some U
theorem FE{L:List (List UInt8)}(h:M[b]? =some (.cells o 1 (stC L))):sts M (.slice b 0 L.length none)=some L:=by unfold sts;rw[JG h (by rw[bU];omega) (by rw[←bU,Nat.mul_one,List.take_length])];exact Bz _
variable{ev:List AV}{new:Mem}
theorem qc(h:∀M,kF prog 62 [.agg ev] M .kK M):gh b new ev []:=fun M' _=>⟨.kK,[],by simpa using h M',fun _=>rfl⟩
theorem uH(nm:List UInt8)(n:Z3)(a w:Int)(u:List UInt8):gh b new (di nm n a w u) [u]:=fun M' _=>⟨.slice M'.length 0 1 none,[.cells true 1 [.str u]],yh nm n a w u M',fun ext' =>FE (L:=[u]) (o:=true) (by rw[List.append_assoc,List.getElem?_append_right (by omega),Nat.sub_self];rfl)⟩
theorem iC{b0:Nat}(nm:List UInt8)(x y:AV)(L:List (List UInt8))(h1:0<L.length)(h3:L.length≤3)(j:Nat)(o:Bool)(hb:new[j]? =some (.cells o 1 (stC L))):gh b0 new (bc nm x (.slice (b0+j) 0 L.length none) y) L:=fun M' hk=>by have UV :=hk j _ hb;refine⟨.slice (M'.length+1) 0 L.length none,[.cells true 0 (bc nm x (.slice (b0+j) 0 L.length none) y),.cells true 1 (stC L)],zH nm x y L h1 h3 M' (b0+j) o UV,fun ext' =>FE (o:=true) ?_⟩;rw[List.append_assoc,List.getElem?_append_right (by omega),show M'.length+1-M'.length=1 by omega];rfl
def oW(M new:Mem):Prop:=(new.all fun x=>(x.own||match x with | .kO=>true | _=>false)&&x.y9 (fun b=>decide (b<M.length+5)))=true
def rL(ev:List AV):Prop:=∀x∈ev,(match x with | .agg _=>false | .tuple _=>false | .undef=>false | _=>true)=true
def bJ(d:aeN) (i:Nat):List (List UInt8):=if d.kind%5=0 then bu i (d.K.1%3) else if d.kind%5=3 then [ig i] else []
variable{C:List AV}{N:Mem}{n:Nat}{v:AV}
theorem aeJ.ae1(h:aeJ N v es n C)(hn:n=0):v=.kK:=by
 rcases h with⟨h,_,_⟩ | ⟨_,_,_,h,_⟩
 ·exact h
 ·omega
theorem aeJ.pos(h:aeJ N v es n C)(hn:0<n):∃b o,v=.slice b 0 n none∧N[b]? =some (.cells o es C):=by
 rcases h with⟨_,h,_⟩ | ⟨b,o,h1,_,h2⟩
 ·omega
 ·exact⟨b,o,h1,h2⟩
theorem afN.ae1{S:List (List (List UInt8))}(h:afN N v S)(hS:S=[]):v=.kK:=by obtain⟨vs,_,h,_⟩:=h;exact h.ae1 (by rw[hS];rfl)
theorem aeJ.ck(h:aeJ N v es n C):v.kS=true:=by rcases h with⟨rfl,_⟩ | ⟨b,o,rfl,_⟩<;>rfl
variable{c:Evc}{e:List AV}
theorem afi.l32(h:afi N e c):e.length=32:=by obtain⟨b,u,s,kn,rfl,_⟩:=h;rfl
theorem afi.cok(h:afi N e c):∀x∈e,x.kS=true:=by obtain⟨b,u,s,kn,rfl,h1,h2,⟨_,_,h3,_⟩,h4⟩:=h;intro x hx;simp only[Evc.cells,List.mem_cons,List.not_mem_nil,or_false] at hx;rcases hx with rfl | rfl | rfl | rfl | rfl | rfl | rfl | rfl | rfl | rfl | rfl | rfl | rfl | rfl | rfl | rfl | rfl | rfl | rfl | rfl | rfl | rfl | rfl | rfl | rfl | rfl | rfl | rfl | rfl | rfl | rfl | rfl<;>first | rfl | exact h1.ck | exact h2.ck | exact h3.ck | exact h4.ck
theorem aeJ.inj{n' :Nat}{C' :List AV}(h:aeJ N v es n C)(h' :aeJ N v es n' C'):n=n' ∧C=C' :=by
 rcases h with⟨rfl,rfl,rfl⟩ | ⟨b,o,rfl,hp,hb⟩
 ·rcases h' with⟨_,rfl,rfl⟩ | ⟨b',o',h,_⟩
  ·exact⟨rfl,rfl⟩
  ·cases h
 ·rcases h' with⟨h,_⟩ | ⟨b',o',h,_,UV⟩
  ·cases h
  ·cases h
   rw[hb] at UV;cases UV;exact⟨rfl,rfl⟩
def unE(c:Evc):List (List UInt8):=if c.k=1 then c.U else if c.k=4 then [c.x24] else []
theorem Wr{d:Evc}(h:afi M ev c)(k:afi M ev d):unE c=unE d:=by
 obtain⟨b,u,sv,kn,e1,_,h2,_,_⟩:=h;obtain⟨b',u',sv',kn',e2,_,k2,_,_⟩:=k;rw[e1] at e2;simp only[Evc.cells,List.cons.injEq,AV.int.injEq,AV.str.injEq,true_and,and_true] at e2;obtain⟨ek,_,_,eu,_,_,_,_,_,_,_,_,_,_,_,_,_,_,_,_,_,_,_,_,ex,_⟩:=e2;subst eu;have eU:c.U=d.U:=by have:=congrArg stP (h2.inj k2).2;rw[Bz,Bz] at this;exact Option.some.inj this
 unfold unE;rw[ek,eU,ex]
def Tq(s:aeE) (c:Evc):Prop:=∀(M:Mem) (p t:Nat) (o o' :Bool) (ev:List AV),M[p]? =some (.cells o 2 (pC s.P))→M[t]? =some (.cells o' 3 (tC s.T))→afi M ev c→kF prog 61 [.agg [.slice p 0 s.P.length none,.slice t 0 s.T.length none],.agg ev] M (.int .i64 0) M
def Tt(c:Evc):Prop:=∀(M:Mem) (ev:List AV),afi M ev c→∃v nw,kF prog 62 [.agg ev] M v (M++nw)∧∀ext,sts (M++nw++ext) v=some (unE c)
def Xr(c:Evc):Prop:=(∃nm B U S,c=FK nm B U S∧B≠[])∨(∃nm n o s,c=AH nm n o s)∨(∃nm n K s,c=JD nm n K s)∨(∃nm n o w u,c=Mc nm n o w u)∨∃nm t x,c=Md nm t x
structure Tryz.afx (s:aeE) (c:Evc):Prop where
 ok:c.Ok
 chk:Tq s c
 un:Tt c
 le:(unE c).length≤3
inductive EvD where
 |dep (Z:List Int) (us:List (List UInt8)) (Ys:List (List Int))
 |fault (n:Z3) (o:Int) (v:Z3)
 |fold (n:Z3) (d:aeN) (c:Nat) (v:Z3)
 |afT (n:Z3) (o w:Int) (u:List UInt8)
 |age (i:Nat) (c:Z3)
def EvD.con(nm:List UInt8):EvD→Evc
 |.dep Z us Ys=>FK nm (hT Z) us (Ys.map hT)
 |.fault n o v=>AH nm n o v
 |.fold n d c v=>JD nm n (kT (bV d c)) v
 |.afT n o w u=>Mc nm n o w u
 |.age i c=>Md nm (bR i) c
def EvD.Ok(s:aeE):EvD→Prop
 |.dep Z us Ys=>Z.length=s.P.length∧us.length=Ys.length+1∧Ys.length≤2∧(∀z∈Z,z.natAbs<1000)∧∀Y∈Ys,Y.length=s.P.length∧∀z∈Y,z.natAbs<1000
 |.fault n o v=>eS 2 n∧ib n=false∧o.natAbs≤4∧eS 8 v∧AM v n=0
 |.fold n _ c v=>eS 2 n∧ib n=false∧0<c∧c≤3∧eS 8 v∧AM v n=0
 |.afT n o w _=>eS 2 n∧ib n=false∧o.natAbs≤4∧0<w∧w≤4
 |.age i c=>i≤5∧eS 2 c
structure Tryz.aWg (s:aeE) (c:Evc):Prop extends afx s c where
 form:Xr c
 nmo:c.nm∈bC
 ren:∀nm∈bC,afx s { c with nm:=nm }
 dk:c.k=4→∀nm∈bC,afx s { c with nm:=nm,x24:=[122] }
 evd:∃w:EvD,w.Ok s∧c=w.con c.nm
section
variable (s:aeE)(nm:List UInt8)
include s nm
theorem oH(n:Z3)(a:Int)(v:Z3)(hm:nm∈bC)(hn:eS 99 n)(hz:ib n=false)(ho:a.natAbs≤1000)(hs:eS 99 v)(hd:AM v n=0):afx s (AH nm n a v) where
 ok:=yS rfl rfl rfl (by simp[AH])
 chk:=fun M p t o o' ev hp ht h=>by obtain⟨b,u,sv,kn,rfl,h1,h2,h3,h4⟩:=h;obtain rfl:=h1.ae1 rfl;obtain rfl:=h2.ae1 rfl;obtain rfl:=h3.ae1 rfl;obtain rfl:=h4.ae1 rfl;exact kB s nm n a v hm hn hz ho hs hd M p t o o' hp ht
 un:=fun M ev h=>by obtain⟨b,u,sv,kn,rfl,h1,h2,h3,h4⟩:=h;obtain rfl:=h1.ae1 rfl;obtain rfl:=h2.ae1 rfl;obtain rfl:=h3.ae1 rfl;obtain rfl:=h4.ae1 rfl;exact⟨.kK,[],by rw[List.append_nil];exact mT nm n a v M,fun _=>rfl⟩
 le:=by show(0:Nat)≤3;omega
theorem Aa(n:Z3)(a:Int)(v:Z3)(hm:nm∈bC)(hn:eS 99 n)(hz:ib n=false)(ho:a.natAbs≤1000)(hs:eS 99 v)(hd:AM v n=0)(h2:eS 2 n)(o4:a.natAbs≤4)(v8:eS 8 v):aWg s (AH nm n a v) where
 toafx:=oH s nm n a v hm hn hz ho hs hd
 form:=.inr (.inl ⟨_,_,_,_,rfl⟩)
 nmo:=hm
 ren:=fun nm' ZN =>oH s nm' n a v ZN hn hz ho hs hd
 dk:=fun h=>absurd h (by show¬((2:Int)=4);decide)
 evd:=⟨.fault n a v,⟨h2,hz,o4,v8,hd⟩,rfl⟩
theorem pN(i:Nat)(c:Z3)(hm:nm∈bC)(hc:eS 99 c):afx s (Md nm (bR i) c) where
 ok:=yS rfl rfl rfl (by simp[Md])
 chk:=fun M p t o o' ev hp ht h=>by obtain⟨b,u,sv,kn,rfl,h1,h2,h3,h4⟩:=h;obtain rfl:=h1.ae1 rfl;obtain rfl:=h2.ae1 rfl;obtain rfl:=h3.ae1 rfl;obtain rfl:=h4.ae1 rfl;exact lN s nm i c hm hc M p t o o' hp ht
 un:=fun M ev h=>by obtain⟨b,u,sv,kn,rfl,h1,h2,h3,h4⟩:=h;obtain rfl:=h1.ae1 rfl;obtain rfl:=h2.ae1 rfl;obtain rfl:=h3.ae1 rfl;obtain rfl:=h4.ae1 rfl;exact⟨.kK,[],by rw[List.append_nil];exact oF nm (bR i) c M,fun _=>rfl⟩
 le:=by show(0:Nat)≤3;omega
theorem Ce(i:Nat)(c:Z3)(hm:nm∈bC)(hc:eS 99 c)(i5:i≤5)(c2:eS 2 c):aWg s (Md nm (bR i) c) where
 toafx:=pN s nm i c hm hc
 form:=.inr (.inr (.inr (.inr ⟨_,_,_,rfl⟩)))
 nmo:=hm
 ren:=fun nm' ZN =>pN s nm' i c ZN hc
 dk:=fun h=>absurd h (by show¬((5:Int)=4);decide)
 evd:=⟨.age i c,⟨i5,c2⟩,rfl⟩
theorem kD(n:Z3)(a w:Int)(u:List UInt8)(hm:nm∈bC)(hn:eS 99 n)(hz:ib n=false)(ho:a.natAbs≤1000)(hw:0<w)(hw2:w<1000)(hu:u∈bC):afx s (Mc nm n a w u) where
 ok:=yS rfl rfl rfl (by simp[Mc])
 chk:=fun M p t o o' ev hp ht h=>by obtain⟨b,u',sv,kn,rfl,h1,h2,h3,h4⟩:=h;obtain rfl:=h1.ae1 rfl;obtain rfl:=h2.ae1 rfl;obtain rfl:=h3.ae1 rfl;obtain rfl:=h4.ae1 rfl;exact lL s nm n a w u hm hn hz ho hw hw2 hu M p t o o' hp ht
 un:=fun M ev h=>by obtain⟨b,u',sv,kn,rfl,h1,h2,h3,h4⟩:=h;obtain rfl:=h1.ae1 rfl;obtain rfl:=h2.ae1 rfl;obtain rfl:=h3.ae1 rfl;obtain rfl:=h4.ae1 rfl;exact uH (b:=0) (new:=[]) nm n a w u M fun k x h=>by simp at h
 le:=by show(1:Nat)≤3;omega
theorem Cc(n:Z3)(a w:Int)(u:List UInt8)(hm:nm∈bC)(hn:eS 99 n)(hz:ib n=false)(ho:a.natAbs≤1000)(hw:0<w)(hw2:w<1000)(hu:u∈bC)(h2:eS 2 n)(o4:a.natAbs≤4)(w4:w≤4):aWg s (Mc nm n a w u) where
 toafx:=kD s nm n a w u hm hn hz ho hw hw2 hu
 form:=.inr (.inr (.inr (.inl ⟨_,_,_,_,_,rfl⟩)))
 nmo:=hm
 ren:=fun nm' ZN =>kD s nm' n a w u ZN hn hz ho hw hw2 hu
 dk:=fun _ nm' ZN =>kD s nm' n a w [122] ZN hn hz ho hw hw2 (by decide)
 evd:=⟨.afT n a w u,⟨h2,hz,o4,hw,w4⟩,rfl⟩
theorem pM(n v:Z3)(d:aeN)(c:Nat)(h1:0<c)(hc:c≤3)(hm:nm∈bC)(hn:eS 99 n)(hz:ib n=false)(hs:eS 99 v)(hd:AM v n=0):afx s (JD nm n (kT (bV d c)) v) where
 ok:=yS rfl rfl rfl (by show(kT (bV d c)).length≤1000;rw[fG,cW];omega)
 chk:=fun M p t o o' ev hp ht h=>by
  obtain⟨b,u,sv,kn,rfl,k1,k2,k3,k4⟩:=h;obtain rfl:=k1.ae1 rfl;obtain rfl:=k2.ae1 rfl;obtain rfl:=k3.ae1 rfl;have e:(JD nm n (kT (bV d c)) v).K.length=c:=by show(kT (bV d c)).length=c;rw[fG,cW]
  rw[e] at k4;obtain⟨b,q,rfl,hb⟩:=k4.pos h1;have UV :M[b]? =some (.cells q 2 (pC (bV d c))):=by rw[MK];exact hb
  exact lM s nm n v d c h1 hc hm hn hz hs hd M p t o o' hp ht b q UV
 un:=fun M ev h=>by obtain⟨b,u,sv,kn,rfl,k1,k2,k3,k4⟩:=h;obtain rfl:=k1.ae1 rfl;obtain rfl:=k2.ae1 rfl;obtain rfl:=k3.ae1 rfl;exact⟨.kK,[],by rw[List.append_nil];exact oD nm n v kn M,fun _=>rfl⟩
 le:=by show(0:Nat)≤3;omega
theorem Cd(n v:Z3)(d:aeN)(c:Nat)(h1:0<c)(hc:c≤3)(hm:nm∈bC)(hn:eS 99 n)(hz:ib n=false)(hs:eS 99 v)(hd:AM v n=0)(h2:eS 2 n)(v8:eS 8 v):aWg s (JD nm n (kT (bV d c)) v) where
 toafx:=pM s nm n v d c h1 hc hm hn hz hs hd
 form:=.inr (.inr (.inl ⟨_,_,_,_,rfl⟩))
 nmo:=hm
 ren:=fun nm' ZN =>pM s nm' n v d c h1 hc ZN hn hz hs hd
 dk:=fun h=>absurd h (by show¬((3:Int)=4);decide)
 evd:=⟨.fold n d c v,⟨h2,hz,h1,hc,v8,hd⟩,rfl⟩
end
theorem PB(Z:List Int):stC (hT Z)=qC (qH Z):=by rw[xD];rfl
section
variable (s:aeE)(nm:List UInt8)
include s nm
section
variable (u0:List UInt8)(Z:List Int)(hm:nm∈bC)(n0:u0∈bC)(hZ:∀z∈Z,z.natAbs<1000)(hl:Z.length≤1000)(XQ:0<Z.length)(hn:Z.length=s.P.length)
include u0 Z hm n0 hZ hl XQ hn
theorem pJ:afx s (FK nm (hT Z) [u0] []) where
 ok:=⟨by show(hT Z).length≤1000;rw[dh];exact hl,by show(1:Nat)≤1000;omega,by show(0:Nat)≤2;omega,fun L hL=>by simp[FK] at hL,by show(0:Nat)≤1000;omega⟩
 chk:=fun M p t o o' ev hp ht h=>by
  obtain⟨b,u,sv,kn,rfl,k1,k2,k3,k4⟩:=h;obtain rfl:=k4.ae1 rfl;have e:(FK nm (hT Z) [u0] []).B.length=Z.length:=dh Z;rw[e] at k1;obtain⟨b,q1,rfl,hb⟩:=k1.pos XQ;obtain⟨u,q2,rfl,hu⟩:=k2.pos (by show 0<1;omega);have UV :M[b]? =some (.cells q1 1 (qC (qH Z))):=by rw[←PB];exact hb
  obtain rfl:=k3.ae1 rfl;exact lI s nm u0 Z hm n0  hZ hl hn  M p t o o' hp ht b u q1 q2 UV hu
 un:=fun M ev h=>by
  obtain⟨b,u,sv,kn,rfl,k1,k2,k3,k4⟩:=h;obtain rfl:=k4.ae1 rfl;obtain⟨u,q2,rfl,hu⟩:=k2.pos (by show 0<1;omega);exact iC (b0:=u) (new:=[.cells q2 1 (stC [u0])]) nm b sv [u0] (by show 0<1;omega) (by show 1≤3;omega) 0 q2 rfl M fun k x hk=>by
   match k,hk with
   |0,hk=>simp only[List.getElem?_cons_zero,Option.some.injEq] at hk;subst hk;exact hu
   |k+1,hk=>simp at hk
 le:=by show(1:Nat)≤3;omega
theorem B9:aWg s (FK nm (hT Z) [u0] []) where
 toafx:=pJ s nm u0 Z hm n0 hZ hl XQ hn
 form:=.inl ⟨_,_,_,_,rfl,fun h=>by have e:(hT Z).length=0:=(by rw[h];rfl);rw[dh] at e;omega⟩
 nmo:=hm
 ren:=fun nm' ZN =>pJ s nm' u0 Z ZN n0 hZ hl XQ hn
 dk:=fun h=>absurd h (by show¬((1:Int)=4);decide)
 evd:=⟨.dep Z [u0] [],⟨hn,rfl,by decide,hZ,fun Y h=>by cases h⟩,rfl⟩
end
section
variable (u0 u1:List UInt8)(Z Y1:List Int)(hm:nm∈bC)(n0:u0∈bC)(n1:u1∈bC)(ZF:u1≠u0)(hZ:∀z∈Z,z.natAbs<1000)(hl:Z.length≤1000)(XQ:0<Z.length)(hn:Z.length=s.P.length)(Zr:∀z∈Y1,z.natAbs<1000)(Ym:Y1.length=s.P.length)(Yq:∀(i:Nat) z y,Z[i]? =some z→Y1[i]? =some y→z≤y)
include u0 u1 Z Y1 hm n0 n1 ZF hZ hl XQ hn Zr Ym Yq
theorem pK:afx s (FK nm (hT Z) [u0,u1] [hT Y1]) where
 ok:=⟨by show(hT Z).length≤1000;rw[dh];exact hl,by show(2:Nat)≤1000;omega,by show(1:Nat)≤2;omega,fun L hL=>by simp only[FK,List.mem_cons,List.not_mem_nil,or_false] at hL;rcases hL with rfl<;>(rw[dh];omega),by show(0:Nat)≤1000;omega⟩
 chk:=fun M p t o o' ev hp ht h=>by
  obtain⟨b,u,sv,kn,rfl,k1,k2,k3,k4⟩:=h;obtain rfl:=k4.ae1 rfl;have e:(FK nm (hT Z) [u0,u1] [hT Y1]).B.length=Z.length:=dh Z;rw[e] at k1;obtain⟨b,q1,rfl,hb⟩:=k1.pos XQ;obtain⟨u,q2,rfl,hu⟩:=k2.pos (by show 0<2;omega);have UV :M[b]? =some (.cells q1 1 (qC (qH Z))):=by rw[←PB];exact hb
  obtain⟨vs,lv,kv,kc⟩:=k3;obtain⟨v1,rfl⟩:∃v1,vs=[v1]:=by
   match vs,lv with
   | [v1],_=>exact⟨v1,rfl⟩
  obtain⟨c,q3,rfl,hc⟩:=kv.pos (by show 0<1;omega);have g1:=kc 0 v1 (hT Y1) rfl rfl;rw[dh,Ym,←hn] at g1;obtain⟨r1,w1,rfl,Ya⟩:=g1.pos XQ;rw[PB] at Ya;exact lJ s nm u0 u1 Z Y1 hm n0 n1 ZF hZ hl hn Zr Ym Yq M p t o o' hp ht b u q1 q2 UV hu c r1 q3 w1 hc Ya
 un:=fun M ev h=>by
  obtain⟨b,u,sv,kn,rfl,k1,k2,k3,k4⟩:=h;obtain rfl:=k4.ae1 rfl;obtain⟨u,q2,rfl,hu⟩:=k2.pos (by show 0<2;omega);exact iC (b0:=u) (new:=[.cells q2 1 (stC [u0,u1])]) nm b sv [u0,u1] (by show 0<2;omega) (by show 2≤3;omega) 0 q2 rfl M fun k x hk=>by
   match k,hk with
   |0,hk=>simp only[List.getElem?_cons_zero,Option.some.injEq] at hk;subst hk;exact hu
   |k+1,hk=>simp at hk
 le:=by show(2:Nat)≤3;omega
theorem Ca:aWg s (FK nm (hT Z) [u0,u1] [hT Y1]) where
 toafx:=pK s nm u0 u1 Z Y1 hm n0 n1 ZF hZ hl XQ hn Zr Ym Yq
 form:=.inl ⟨_,_,_,_,rfl,fun h=>by have e:(hT Z).length=0:=(by rw[h];rfl);rw[dh] at e;omega⟩
 nmo:=hm
 ren:=fun nm' ZN =>pK s nm' u0 u1 Z Y1 ZN n0 n1 ZF hZ hl XQ hn Zr Ym Yq
 dk:=fun h=>absurd h (by show¬((1:Int)=4);decide)
 evd:=⟨.dep Z [u0,u1] [Y1],⟨hn,rfl,by show(1:Nat)≤2;omega,hZ,fun Y h=>by rw[List.mem_singleton] at h;rw[h];exact⟨Ym,Zr⟩⟩,rfl⟩
end
section
variable (u0 u1 u2:List UInt8)(Z Y1 Y2:List Int)(hm:nm∈bC)(n0:u0∈bC)(n1:u1∈bC)(n2:u2∈bC)(ZF:u1≠u0)(d02:u2≠u0)(d12:u2≠u1)(hZ:∀z∈Z,z.natAbs<1000)(hl:Z.length≤1000)(XQ:0<Z.length)(hn:Z.length=s.P.length)(Zr:∀z∈Y1,z.natAbs<1000)(Ym:Y1.length=s.P.length)(Yq:∀(i:Nat) z y,Z[i]? =some z→Y1[i]? =some y→z≤y)(hY2:∀z∈Y2,z.natAbs<1000)(YU:Y2.length=s.P.length)(ZG:∀(i:Nat) z y,Y1[i]? =some z→Y2[i]? =some y→z≤y)
include u0 u1 u2 Z Y1 Y2 hm n0 n1 n2 ZF d02 d12 hZ hl XQ hn Zr Ym Yq hY2 YU ZG
theorem pL:afx s (FK nm (hT Z) [u0,u1,u2] [hT Y1,hT Y2]) where
 ok:=⟨by show(hT Z).length≤1000;rw[dh];exact hl,by show(3:Nat)≤1000;omega,by show(2:Nat)≤2;omega,fun L hL=>by simp only[FK,List.mem_cons,List.not_mem_nil,or_false] at hL;rcases hL with rfl | rfl<;>(rw[dh];omega),by show(0:Nat)≤1000;omega⟩
 chk:=fun M p t o o' ev hp ht h=>by
  obtain⟨b,u,sv,kn,rfl,k1,k2,k3,k4⟩:=h;obtain rfl:=k4.ae1 rfl;have e:(FK nm (hT Z) [u0,u1,u2] [hT Y1,hT Y2]).B.length=Z.length:=dh Z;rw[e] at k1;obtain⟨b,q1,rfl,hb⟩:=k1.pos XQ;obtain⟨u,q2,rfl,hu⟩:=k2.pos (by show 0<3;omega);have UV :M[b]? =some (.cells q1 1 (qC (qH Z))):=by rw[←PB];exact hb
  obtain⟨vs,lv,kv,kc⟩:=k3;obtain⟨v1,v2,rfl⟩:∃v1 v2,vs=[v1,v2]:=by
   match vs,lv with
   | [v1,v2],_=>exact⟨v1,v2,rfl⟩
  obtain⟨c,q3,rfl,hc⟩:=kv.pos (by show 0<2;omega);have g1:=kc 0 v1 (hT Y1) rfl rfl;rw[dh,Ym,←hn] at g1;obtain⟨r1,w1,rfl,Ya⟩:=g1.pos XQ;rw[PB] at Ya;have g2:=kc 1 v2 (hT Y2) rfl rfl;rw[dh,YU,←hn] at g2;obtain⟨r2,w2,rfl,Yc⟩:=g2.pos XQ;rw[PB] at Yc;exact lK s nm u0 u1 u2 Z Y1 Y2 hm n0 n1 n2 ZF d02 d12 hZ hl hn Zr Ym Yq hY2 YU ZG M p t o o' hp ht b u q1 q2 UV hu c r1 r2 q3 w1 w2 hc Ya Yc
 un:=fun M ev h=>by
  obtain⟨b,u,sv,kn,rfl,k1,k2,k3,k4⟩:=h;obtain rfl:=k4.ae1 rfl;obtain⟨u,q2,rfl,hu⟩:=k2.pos (by show 0<3;omega);exact iC (b0:=u) (new:=[.cells q2 1 (stC [u0,u1,u2])]) nm b sv [u0,u1,u2] (by show 0<3;omega) (by show 3≤3;omega) 0 q2 rfl M fun k x hk=>by
   match k,hk with
   |0,hk=>simp only[List.getElem?_cons_zero,Option.some.injEq] at hk;subst hk;exact hu
   |k+1,hk=>simp at hk
 le:=by show(3:Nat)≤3;omega
theorem Cb:aWg s (FK nm (hT Z) [u0,u1,u2] [hT Y1,hT Y2]) where
 toafx:=pL s nm u0 u1 u2 Z Y1 Y2 hm n0 n1 n2 ZF d02 d12 hZ hl XQ hn Zr Ym Yq hY2 YU ZG
 form:=.inl ⟨_,_,_,_,rfl,fun h=>by have e:(hT Z).length=0:=(by rw[h];rfl);rw[dh] at e;omega⟩
 nmo:=hm
 ren:=fun nm' ZN =>pL s nm' u0 u1 u2 Z Y1 Y2 ZN n0 n1 n2 ZF d02 d12 hZ hl XQ hn Zr Ym Yq hY2 YU ZG
 dk:=fun h=>absurd h (by show¬((1:Int)=4);decide)
 evd:=⟨.dep Z [u0,u1,u2] [Y1,Y2],⟨hn,rfl,by show(2:Nat)≤2;omega,hZ,fun Y h=>by
  simp only[List.mem_cons,List.not_mem_nil,or_false] at h;rcases h with rfl | rfl
  ·exact⟨Ym,Zr⟩
  ·exact⟨YU,hY2⟩⟩,rfl⟩
end
end
end Go.Proofs
