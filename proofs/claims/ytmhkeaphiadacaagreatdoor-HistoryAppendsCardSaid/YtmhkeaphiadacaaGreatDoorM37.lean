/- See M58. -/
import Derived.Test.YtmhkeaphiadacaaGreatDoorM36
set_option linter.all false
namespace Go.Proofs
open Go.Eng
def ra:Oracle:=ao fun f args=>match f,args with
 |112,[]=>some (.agg lg)
 |_,_=>none
theorem fU:OracleOk Tryz.prog ra:=bI fun f args v h mem=>by
 split at h
 ·cases h;exact DM mem
 ·cases h
theorem yD(nm:List UInt8) (n:Z3) (o:Int) (s:Z3) (M:Mem):ACallsTo Tryz.prog 81 [.agg (bF nm n o s)] M (.agg ((lg.drop 5).take 5)) M:=by
 refine aq fU (lv:=ab) (K:=6) rfl rfl ?_ M
 as_aux_lemma=>kernel_rfl
theorem zx(nm:List UInt8) (n:Z3) (o w:Int) (u:List UInt8) (M:Mem):ACallsTo Tryz.prog 81 [.agg (cf nm n o w u)] M (.agg ((lg.drop 15).take 5)) M:=by
 refine aq fU (lv:=ab) (K:=6) rfl rfl ?_ M
 as_aux_lemma=>kernel_rfl
theorem zn(nm:List UInt8) (t:Int×Int×Int×Int) (c:Z3) (M:Mem):ACallsTo Tryz.prog 81 [.agg (cC nm t c)] M (.agg ((lg.drop 20).take 5)) M:=by
 refine aq fU (lv:=ab) (K:=6) rfl rfl ?_ M
 as_aux_lemma=>kernel_rfl
def pn:Oracle:=ao fun f args=>match f,args with
 |82,[.nilslice,.nilslice]=>some (.bool true)
 |32,[.nilslice,.nilslice]=>some (.bool true)
 |83,[.nilslice,.nilslice]=>some (.bool true)
 |84,[.nilslice,.nilslice]=>some (.bool true)
 |_,_=>none
theorem fX:OracleOk Tryz.prog pn:=bI fun f args v h mem=>by
 split at h
 ·cases h;exact Ea mem
 ·cases h;exact E6 mem
 ·cases h;exact HR mem
 ·cases h;exact DH mem
 ·cases h
theorem wY(nm:List UInt8) (n:Z3) (o:Int) (s:Z3) (M:Mem):ACallsTo Tryz.prog 49 [.agg (bF nm n o s),.agg (bF nm n o s)] M (.bool true) M:=
 gD fX rfl rfl rfl rfl
theorem zk(nm:List UInt8) (n:Z3) (o w:Int) (u:List UInt8) (M:Mem):ACallsTo Tryz.prog 49 [.agg (cf nm n o w u),.agg (cf nm n o w u)] M (.bool true) M:=
 gD fX rfl rfl rfl rfl
theorem zu(nm:List UInt8) (t:Int×Int×Int×Int) (c:Z3) (M:Mem):ACallsTo Tryz.prog 49 [.agg (cC nm t c),.agg (cC nm t c)] M (.bool true) M:=
 gD fX rfl rfl rfl rfl
theorem Ij(t u v w:Int) (h:(t,u,v,w)∈[dQ 0,dQ 1,dQ 2,dQ 3,dQ 4,dQ 5]):(q9 (aA Tryz.prog) ab (aF Tryz.prog) aD 8 6 (.fn 212) [.agg [.int .i64 t,.int .i64 u,.int .i64 v,.int .i64 w]] []).map (fun r=>(r.v,r.mem []))=some (.int .i64 0,[]++[]):=by
 simp only[List.mem_cons,List.not_mem_nil,or_false,dQ,Prod.mk.injEq] at h
 rcases h with⟨rfl,rfl,rfl,rfl⟩ | ⟨rfl,rfl,rfl,rfl⟩ | ⟨rfl,rfl,rfl,rfl⟩ | ⟨rfl,rfl,rfl,rfl⟩ | ⟨rfl,rfl,rfl,rfl⟩ | ⟨rfl,rfl,rfl,rfl⟩<;>(as_aux_lemma=>kernel_rfl)
theorem yQ(i:Nat) (M:Mem):ACallsTo Tryz.prog 212 [.agg [.int .i64 (dQ i).1,.int .i64 (dQ i).2.1,.int .i64 (dQ i).2.2.1,.int .i64 (dQ i).2.2.2]] M (.int .i64 0) M:=by
 refine ACallsTo.lift rfl rfl (cr (new:=[]) aa (aj _) (al _) (af _) (Ij _ _ _ _ ?_)) M
 match i with
 |0 | 1 | 2 | 3 | 4 | n+5=>simp[dQ]
open Classical in
noncomputable def bU:List (FuncId×List AV×AV)→FuncId→List AV→Option AV
 | [],_,_=>none
 |x::L,f,args=>if f=x.1∧args=x.2.1 then some x.2.2 else bU L f args
theorem ee{P:Program}{L:List (FuncId×List AV×AV)}(h:∀x∈L,∀M,ACallsTo P x.1 x.2.1 M x.2.2 M):OracleOk P (ao (bU L)):=bI fun f args v hv mem=>by
 induction L with
 |nil=>simp[bU] at hv
 |cons x L ih=>
  rw[bU] at hv
  split at hv
  ·rename_i hc
   cases hv
   rw[hc.1,hc.2]
   exact h x (by simp) mem
  ·exact ih (fun y hy=>h y (by simp[hy])) hv
noncomputable def iI(n:Z3) (o:Int) (s:Z3):List (FuncId×List AV×AV):=[
 (208,[.agg [.str (zS n.1),.str (zS n.2.1),.str (zS n.2.2),.str (zS o)]],.int .i64 0),
 (209,[zA s,zA n],.int .i64 0)]
theorem B8(nm:List UInt8) (n:Z3) (o:Int) (s:Z3) (hn:fB 99 n) (hz:ie n=false) (ho:o.natAbs≤1000) (hs:fB 99 s) (hd:Jl s n=0) (x y:AV) (m:Mem):
  ACallsTo Tryz.prog 155 [.agg [x,y],.agg (bF nm n o s)] m (.int .i64 0) m:=by
 have hG:aF Tryz.prog 155=some Tryz.f155:=by kernel_rfl
 have hO:OracleOk Tryz.prog (ao (bU (iI n o s))):=ee fun e he M=>by
  simp only[iI,List.mem_cons,List.not_mem_nil,or_false] at he
  rcases he with rfl | rfl
  ·exact ns n o hn hz ho M
  ·exact wl s n hs hn hd M
 have h:ad (aA Tryz.prog) (fun _=>[]) (aF Tryz.prog) (ao (bU (iI n o s))) 1 155 [.agg [x,y],.agg (bF nm n o s)] m=some ⟨.int .i64 0,none,[]⟩:=by
  simp[ad,hG,Tryz.f155,ao,iI,bU,bF,zA]
 have:=(ae aa (aj _) hO (al _) h).1
 simpa [CallRes.mem] using this
noncomputable def kh(t:Int×Int×Int×Int) (c:Z3):List (FuncId×List AV×AV):=[
 (212,[.agg [.int .i64 t.1,.int .i64 t.2.1,.int .i64 t.2.2.1,.int .i64 t.2.2.2]],.int .i64 0),
 (53,[zA c],.int .i64 0)]
theorem rU(c:Z3) (hc:fB 99 c) (M:Mem):ACallsTo Tryz.prog 53 [zA c] M (.int .i64 0) M:=by
 have hE:=Ps hc
 obtain⟨h1,h2,h3⟩:=hc
 have s1:=dY (n:=c.1) (by omega)
 have s2:=dY (n:=c.2.1) (by omega)
 have s3:=dY (n:=c.2.2) (by omega)
 have:=uk (zS c.1) (zS c.2.1) (zS c.2.2) (by unfold zS;omega) (by unfold zS;omega) (by unfold zS;omega) M
 rw[hE] at this
 exact this
theorem Cv(nm:List UInt8) (i:Nat) (c:Z3) (hc:fB 99 c) (x y:AV) (m:Mem):
  ACallsTo Tryz.prog 170 [.agg [x,y],.agg (cC nm (dQ i) c)] m (.int .i64 0) m:=by
 have hG:aF Tryz.prog 170=some Tryz.f170:=by kernel_rfl
 have hO:OracleOk Tryz.prog (ao (bU (kh (dQ i) c))):=ee fun e he M=>by
  simp only[kh,List.mem_cons,List.not_mem_nil,or_false] at he
  rcases he with rfl | rfl
  ·exact yQ i M
  ·exact rU c hc M
 obtain⟨t,ht⟩:∃t,t=dQ i:=⟨_,rfl⟩
 rw[←ht] at hO ⊢
 have h:ad (aA Tryz.prog) (fun _=>[]) (aF Tryz.prog) (ao (bU (kh t c))) 1 170 [.agg [x,y],.agg (cC nm t c)] m=some ⟨.int .i64 0,none,[]⟩:=by
  simp[ad,hG,Tryz.f170,ao,kh,bU,cC,zA]
 have:=(ae aa (aj _) hO (al _) h).1
 simpa [CallRes.mem] using this
noncomputable def jS(n:Z3) (o w:Int) (u:List UInt8):List (FuncId×List AV×AV):=[
 (208,[.agg [.str (zS n.1),.str (zS n.2.1),.str (zS n.2.2),.str (zS o)]],.int .i64 0),
 (125,[.str (aK (hQ w))],.int .i64 0),
 (104,[.str (aK (hQ w))],.int .i64 1),
 (80,[.str u],.int .i64 0)]
theorem Qm{w:Int}(h:0<w):0<hQ w:=by
 rw[uI]
 have:(0:Rat)<(w:Rat):=by exact_mod_cast h
 grind
theorem DY(nm:List UInt8) (n:Z3) (o w:Int) (u:List UInt8) (hn:fB 99 n) (hz:ie n=false) (ho:o.natAbs≤1000) (hw:0<w) (hw2:w<1000) (hu:u∈bu) (x y:AV) (m:Mem):
  ACallsTo Tryz.prog 165 [.agg [x,y],.agg (cf nm n o w u)] m (.int .i64 0) m:=by
 have hG:aF Tryz.prog 165=some Tryz.f165:=by kernel_rfl
 have hl:=xh (z:=w) (by omega)
 have hO:OracleOk Tryz.prog (ao (bU (jS n o w u))):=ee fun e he M=>by
  simp only[jS,List.mem_cons,List.not_mem_nil,or_false] at he
  rcases he with rfl | rfl | rfl | rfl
  ·exact ns n o hn hz ho M
  ·have:=ot (aK (hQ w)) (by omega) M
   rw[tA ((L4 (z:=w) (by omega)).mono (by omega) (by omega))] at this
   exact this
  ·have:=xm (hQ w) M
   have hp:=Qm hw
   rw[show Hm (hQ w)=1 by
    have h1:0<(hQ w).num:=Rat.intCast_pos.mp hp
    have h2:¬(hQ w).num<0:=by omega
    have h3:¬(hQ w).num=0:=by omega
    simp[Hm,m6,h1,h2,h3]] at this
   exact this
  ·exact cw u hu M
 have h:ad (aA Tryz.prog) (fun _=>[]) (aF Tryz.prog) (ao (bU (jS n o w u))) 1 165 [.agg [x,y],.agg (cf nm n o w u)] m=some ⟨.int .i64 0,none,[]⟩:=by
  simp[ad,hG,Tryz.f165,ao,jS,bU,cf,zA]
 have:=(ae aa (aj _) hO (al _) h).1
 simpa [CallRes.mem] using this
theorem di(s:Sheet) (M:Mem) (b c:Nat) (o o' :Bool) (hb:M[b]? =some (.cells o 2 (pC s.P))) (hc:M[c]? =some (.cells o' 3 (tC s.T))):
  ACallsTo Tryz.prog 41 [.agg [.slice b 0 s.P.length none,.slice c 0 s.T.length none]] M (.int .i64 0) M:=by
 have hlt:=(List.getElem?_eq_some_iff.1 hb).1
 have hlt' :=(List.getElem?_eq_some_iff.1 hc).1
 have:=ACallsTo.frame (M:=M) (new:=[]) [b,c] rfl (by simp[hlt,hlt']) (by rfl) (fun i t hs=>by
  match i with
  |0=>simp at hs;subst hs;exact bf (dq _) hb List.take_length
  |1=>simp at hs;subst hs;exact bf (dB _) hc List.take_length
  |i+2=>simp at hs) rfl (A5 s)
 simpa [AV.rens,AV.ren,cR] using this
open Classical in
noncomputable def cd:List (FuncId×List AV×Mem×CallRes)→Oracle
 | [],_,_,_=>none
 |x::L,c,args,M=>if c=.fn x.1∧args=x.2.1∧M=x.2.2.1 then some x.2.2.2 else cd L c args M
theorem du{P:Program}{L:List (FuncId×List AV×Mem×CallRes)}(h:∀x∈L,ACallsTo P x.1 x.2.1 x.2.2.1 x.2.2.2.v (x.2.2.2.mem x.2.2.1)∧∀p,x.2.2.2.pre=some p→p.length=x.2.2.1.length):OracleOk P (cd L):=by
 have k:∀c args M r,cd L c args M=some r→∃x∈L,c=.fn x.1∧args=x.2.1∧M=x.2.2.1∧r=x.2.2.2:=by
  clear h
  intro c args M r hr
  induction L with
  |nil=>simp[cd] at hr
  |cons x L ih=>
   rw[cd] at hr
   split at hr
   ·rename_i hc
    cases hr
    exact⟨x,by simp,hc.1,hc.2.1,hc.2.2,rfl⟩
   ·obtain⟨y,hy,h1⟩:=ih hr
    exact⟨y,by simp[hy],h1⟩
 refine⟨fun f args M r hr=>?_,fun b args M r hr=>?_,fun c args M r p hr hp=>?_⟩
 ·obtain⟨x,hx,h1,rfl,rfl,rfl⟩:=k _ _ _ _ hr
  cases h1
  exact(h x hx).1
 ·obtain⟨x,hx,h1,_⟩:=k _ _ _ _ hr
  cases h1
 ·obtain⟨x,hx,h1,rfl,rfl,rfl⟩:=k _ _ _ _ hr
  exact(h x hx).2 p hp
def fa(s:Sheet) (ev:List AV):Mem:=[.cells false 2 (pC s.P),.cells false 3 (tC s.T),.cells true 0 [.slice 0 0 s.P.length none,.slice 1 0 s.T.length none],.cells true 0 ev]
def bZ(k:Int) (nm:List UInt8):List AV:=[.int .i64 k,.str nm,.nilslice,.nilslice,.nilslice,.str [],.str [],.str [],.str [],.str [],.str [],.str [],.str [],.str [],.str [],.nilslice,.str [],.str [],.str [],.str [],.str [],.str [],.str [],.str [],.str [],.int .i64 0,.int .i64 0,.int .i64 0,.int .i64 0,.str [],.str [],.str []]
theorem tF(sh:Sheet) (nm:List UInt8) (n:Z3) (o:Int) (s:Z3):
  ACallsTo Tryz.prog 154 [.agg (bF nm n o s),.ptr 4 0] (fa sh (bF nm n o s)++[.cells true 0 (bZ 2 nm)]) (.tuple []) (fa sh (bF nm n o s)++[.cells true 0 (bF nm n o s)]):=by
 have hG:aF Tryz.prog 154=some Tryz.f154:=by kernel_rfl
 have h:ad (aA Tryz.prog) (fun _=>[]) (aF Tryz.prog) aD 1 154 [.agg (bF nm n o s),.ptr 4 0] (fa sh (bF nm n o s)++[.cells true 0 (bZ 2 nm)])=some ⟨.tuple [],some (fa sh (bF nm n o s)++[.cells true 0 (bF nm n o s)]),[]⟩:=by
  simp[ad,hG,Tryz.f154,fa,bZ,bF,cu,cJ,dX,gv,List.idxOf?_cons]
 have:=(ae aa (aj _) (af _) (al _) h).1
 simpa [CallRes.mem] using this
noncomputable def iF(nm:List UInt8) (ev:List AV):List (FuncId×List AV×AV):=[
 (80,[.str nm],.int .i64 0),
 (81,[.agg ev],.agg [.func 154 [],.func 155 [],.func 156 [],.func 157 [],.func 158 []]),
 (49,[.agg ev,.agg ev],.bool true)]
def shA(s:Sheet):AV:=.agg [.slice 0 0 s.P.length none,.slice 1 0 s.T.length none]
noncomputable def iJ(sh:Sheet) (nm:List UInt8) (ev:List AV):List (FuncId×List AV×Mem×CallRes):=[
 (41,[shA sh],fa sh ev,⟨.int .i64 0,none,[]⟩),
 (154,[.agg ev,.ptr 4 0],fa sh ev++[.cells true 0 (bZ 2 nm)],⟨.tuple [],some (fa sh ev++[.cells true 0 ev]),[]⟩),
 (155,[shA sh,.agg ev],fa sh ev++[.cells true 0 ev],⟨.int .i64 0,none,[]⟩)]
theorem OracleOk.or'{P:Program}{O O' :Oracle}(h:OracleOk P O) (h' :OracleOk P O'):OracleOk P (Oracle.or O O'):=by
 have k:∀c args mem r,Oracle.or O O' c args mem=some r→O c args mem=some r∨O' c args mem=some r:=fun c args mem r hr=>by
  unfold Oracle.or at hr
  split at hr
  ·rename_i q hq
   cases hr;exact .inl hq
  ·exact .inr hr
 refine⟨fun f args mem r hr=>?_,fun f args mem r hr=>?_,fun c args mem r p hr hp=>?_⟩
 ·rcases k _ _ _ _ hr with h1 | h1
  ·exact h.fn _ _ _ _ h1
  ·exact h'.fn _ _ _ _ h1
 ·rcases k _ _ _ _ hr with h1 | h1
  ·exact h.yld _ _ _ _ h1
  ·exact h'.yld _ _ _ _ h1
 ·rcases k _ _ _ _ hr with h1 | h1
  ·exact h.pre _ _ _ _ _ h1 hp
  ·exact h'.pre _ _ _ _ _ h1 hp
theorem fh(a b c d e:AV):kW (aA Tryz.prog) 169 (.agg [a,b,c,d,e]) 0=some a:=by kernel_rfl
theorem fc(a b c d e:AV):kW (aA Tryz.prog) 169 (.agg [a,b,c,d,e]) 1=some b:=by kernel_rfl
theorem re(sh:Sheet) (nm:List UInt8) (n:Z3) (o:Int) (s:Z3) (hm:nm∈bu) (hn:fB 99 n) (hz:ie n=false) (ho:o.natAbs≤1000) (hs:fB 99 s) (hd:Jl s n=0):
  ACallsTo Tryz.prog 43 [shA sh,.agg (bF nm n o s)] [.cells false 2 (pC sh.P),.cells false 3 (tC sh.T)] (.int .i64 0) [.cells false 2 (pC sh.P),.cells false 3 (tC sh.T)]:=by
 have hG:aF Tryz.prog 43=some Tryz.f43:=by kernel_rfl
 obtain⟨os,hops⟩:∃os,aE Tryz.f43=os:=⟨_,rfl⟩
 have hbs:=aS hops (ls:=[[0,1,3,0,15],[0,1,3,0,0,31,63]]) (by kernel_rfl)
 simp only[aE,bw,Tryz.f43,List.nil_append,List.append_nil,List.cons_append] at hops
 subst hops
 simp only[List.map_cons,List.map_nil,List.cons.injEq,and_true] at hbs
 obtain⟨hb0,hb1⟩:=hbs
 have a0:aN [0,1,3,0,15] 4=true:=by decide
 have a1:aN [0,1,3,0,0,31,63] 6=true:=by decide
 obtain⟨ev,hev⟩:∃ev,ev=bF nm n o s:=⟨_,rfl⟩
 have hO1:OracleOk Tryz.prog (ao (bU (iF nm ev))):=ee fun e he M=>by
  simp only[iF,List.mem_cons,List.not_mem_nil,or_false] at he
  subst hev
  rcases he with rfl | rfl | rfl
  ·exact cw nm hm M
  ·exact yD nm n o s M
  ·exact wY nm n o s M
 have hO2:OracleOk Tryz.prog (cd (iJ sh nm ev)):=du fun e he=>by
  simp only[iJ,List.mem_cons,List.not_mem_nil,or_false] at he
  subst hev
  rcases he with rfl | rfl | rfl
  ·exact⟨by simpa [CallRes.mem,shA] using di sh (fa sh (bF nm n o s)) 0 1 false false rfl rfl,by simp⟩
  ·exact⟨by simpa [CallRes.mem] using tF sh nm n o s,by simp[fa]⟩
  ·exact⟨by simpa [CallRes.mem,shA] using B8 nm n o s hn hz ho hs hd _ _ _,by simp⟩
 have hO:=OracleOk.or' hO1 hO2
 obtain⟨O,hOO⟩:∃O,O=Oracle.or (ao (bU (iF nm ev))) (cd (iJ sh nm ev)):=⟨_,rfl⟩
 rw[←hOO] at hO
 have h:ad (aA Tryz.prog) (fun _=>[]) (aF Tryz.prog) O 1 43 [shA sh,.agg (bF nm n o s)] [.cells false 2 (pC sh.P),.cells false 3 (tC sh.T)]=some ⟨.int .i64 0,some [.cells false 2 (pC sh.P),.cells false 3 (tC sh.T)],[]⟩:=by
  rw[hOO,hev]
  simp[bO,-aC,ar hb0,ar hb1,bN,bt,bJ,a0,a1,Nat.testBit,-kW,fh,fc,ad,hG,Tryz.f43,Oracle.or,ao,bU,cd,iF,iJ,shA,fa,bZ,bF,bH,ax,cu,cJ,dX,gv,nO,pw,List.idxOf?_cons]
 have:=(ae aa (aj _) hO (al _) h).1
 simpa [CallRes.mem] using this
theorem vu(sh:Sheet) (nm:List UInt8) (n:Z3) (o w:Int) (u:List UInt8):
  ACallsTo Tryz.prog 164 [.agg (cf nm n o w u),.ptr 4 0] (fa sh (cf nm n o w u)++[.cells true 0 (bZ 4 nm)]) (.tuple []) (fa sh (cf nm n o w u)++[.cells true 0 (cf nm n o w u)]):=by
 have hG:aF Tryz.prog 164=some Tryz.f164:=by kernel_rfl
 have h:ad (aA Tryz.prog) (fun _=>[]) (aF Tryz.prog) aD 1 164 [.agg (cf nm n o w u),.ptr 4 0] (fa sh (cf nm n o w u)++[.cells true 0 (bZ 4 nm)])=some ⟨.tuple [],some (fa sh (cf nm n o w u)++[.cells true 0 (cf nm n o w u)]),[]⟩:=by
  simp[ad,hG,Tryz.f164,fa,bZ,cf,cu,cJ,dX,gv,List.idxOf?_cons]
 have:=(ae aa (aj _) (af _) (al _) h).1
 simpa [CallRes.mem] using this
noncomputable def jK(nm:List UInt8) (ev:List AV):List (FuncId×List AV×AV):=[
 (80,[.str nm],.int .i64 0),
 (81,[.agg ev],.agg [.func 164 [],.func 165 [],.func 166 [],.func 167 [],.func 168 []]),
 (49,[.agg ev,.agg ev],.bool true)]
noncomputable def jU(sh:Sheet) (nm:List UInt8) (ev:List AV):List (FuncId×List AV×Mem×CallRes):=[
 (41,[shA sh],fa sh ev,⟨.int .i64 0,none,[]⟩),
 (164,[.agg ev,.ptr 4 0],fa sh ev++[.cells true 0 (bZ 4 nm)],⟨.tuple [],some (fa sh ev++[.cells true 0 ev]),[]⟩),
 (165,[shA sh,.agg ev],fa sh ev++[.cells true 0 ev],⟨.int .i64 0,none,[]⟩)]
theorem sS(sh:Sheet) (nm:List UInt8) (n:Z3) (o w:Int) (u:List UInt8) (hm:nm∈bu) (hn:fB 99 n) (hz:ie n=false) (ho:o.natAbs≤1000) (hw:0<w) (hw2:w<1000) (hu:u∈bu):
  ACallsTo Tryz.prog 43 [shA sh,.agg (cf nm n o w u)] [.cells false 2 (pC sh.P),.cells false 3 (tC sh.T)] (.int .i64 0) [.cells false 2 (pC sh.P),.cells false 3 (tC sh.T)]:=by
 have hG:aF Tryz.prog 43=some Tryz.f43:=by kernel_rfl
 obtain⟨os,hops⟩:∃os,aE Tryz.f43=os:=⟨_,rfl⟩
 have hbs:=aS hops (ls:=[[0,1,3,0,15],[0,1,3,0,0,31,63]]) (by kernel_rfl)
 simp only[aE,bw,Tryz.f43,List.nil_append,List.append_nil,List.cons_append] at hops
 subst hops
 simp only[List.map_cons,List.map_nil,List.cons.injEq,and_true] at hbs
 obtain⟨hb0,hb1⟩:=hbs
 have a0:aN [0,1,3,0,15] 4=true:=by decide
 have a1:aN [0,1,3,0,0,31,63] 6=true:=by decide
 obtain⟨ev,hev⟩:∃ev,ev=cf nm n o w u:=⟨_,rfl⟩
 have hO1:OracleOk Tryz.prog (ao (bU (jK nm ev))):=ee fun e he M=>by
  simp only[jK,List.mem_cons,List.not_mem_nil,or_false] at he
  subst hev
  rcases he with rfl | rfl | rfl
  ·exact cw nm hm M
  ·exact zx nm n o w u M
  ·exact zk nm n o w u M
 have hO2:OracleOk Tryz.prog (cd (jU sh nm ev)):=du fun e he=>by
  simp only[jU,List.mem_cons,List.not_mem_nil,or_false] at he
  subst hev
  rcases he with rfl | rfl | rfl
  ·exact⟨by simpa [CallRes.mem,shA] using di sh (fa sh (cf nm n o w u)) 0 1 false false rfl rfl,by simp⟩
  ·exact⟨by simpa [CallRes.mem] using vu sh nm n o w u,by simp[fa]⟩
  ·exact⟨by simpa [CallRes.mem,shA] using DY nm n o w u hn hz ho hw hw2 hu _ _ _,by simp⟩
 have hO:=OracleOk.or' hO1 hO2
 obtain⟨O,hOO⟩:∃O,O=Oracle.or (ao (bU (jK nm ev))) (cd (jU sh nm ev)):=⟨_,rfl⟩
 rw[←hOO] at hO
 have h:ad (aA Tryz.prog) (fun _=>[]) (aF Tryz.prog) O 1 43 [shA sh,.agg (cf nm n o w u)] [.cells false 2 (pC sh.P),.cells false 3 (tC sh.T)]=some ⟨.int .i64 0,some [.cells false 2 (pC sh.P),.cells false 3 (tC sh.T)],[]⟩:=by
  rw[hOO,hev]
  simp[bO,-aC,ar hb0,ar hb1,bN,bt,bJ,a0,a1,Nat.testBit,-kW,fh,fc,ad,hG,Tryz.f43,Oracle.or,ao,bU,cd,jK,jU,shA,fa,bZ,cf,bH,ax,cu,cJ,dX,gv,nO,pw,List.idxOf?_cons]
 have:=(ae aa (aj _) hO (al _) h).1
 simpa [CallRes.mem] using this
theorem vw(sh:Sheet) (nm:List UInt8) (i:Nat) (c:Z3):
  ACallsTo Tryz.prog 169 [.agg (cC nm (dQ i) c),.ptr 4 0] (fa sh (cC nm (dQ i) c)++[.cells true 0 (bZ 5 nm)]) (.tuple []) (fa sh (cC nm (dQ i) c)++[.cells true 0 (cC nm (dQ i) c)]):=by
 have hG:aF Tryz.prog 169=some Tryz.f169:=by kernel_rfl
 have h:ad (aA Tryz.prog) (fun _=>[]) (aF Tryz.prog) aD 1 169 [.agg (cC nm (dQ i) c),.ptr 4 0] (fa sh (cC nm (dQ i) c)++[.cells true 0 (bZ 5 nm)])=some ⟨.tuple [],some (fa sh (cC nm (dQ i) c)++[.cells true 0 (cC nm (dQ i) c)]),[]⟩:=by
  simp[ad,hG,Tryz.f169,fa,bZ,cC,cu,cJ,dX,gv,List.idxOf?_cons]
 have:=(ae aa (aj _) (af _) (al _) h).1
 simpa [CallRes.mem] using this
noncomputable def jR(nm:List UInt8) (ev:List AV):List (FuncId×List AV×AV):=[
 (80,[.str nm],.int .i64 0),
 (81,[.agg ev],.agg [.func 169 [],.func 170 [],.func 171 [],.func 172 [],.func 173 []]),
 (49,[.agg ev,.agg ev],.bool true)]
noncomputable def jP(sh:Sheet) (nm:List UInt8) (ev:List AV):List (FuncId×List AV×Mem×CallRes):=[
 (41,[shA sh],fa sh ev,⟨.int .i64 0,none,[]⟩),
 (169,[.agg ev,.ptr 4 0],fa sh ev++[.cells true 0 (bZ 5 nm)],⟨.tuple [],some (fa sh ev++[.cells true 0 ev]),[]⟩),
 (170,[shA sh,.agg ev],fa sh ev++[.cells true 0 ev],⟨.int .i64 0,none,[]⟩)]
theorem tE(sh:Sheet) (nm:List UInt8) (i:Nat) (c:Z3) (hm:nm∈bu) (hc:fB 99 c):
  ACallsTo Tryz.prog 43 [shA sh,.agg (cC nm (dQ i) c)] [.cells false 2 (pC sh.P),.cells false 3 (tC sh.T)] (.int .i64 0) [.cells false 2 (pC sh.P),.cells false 3 (tC sh.T)]:=by
 have hG:aF Tryz.prog 43=some Tryz.f43:=by kernel_rfl
 obtain⟨os,hops⟩:∃os,aE Tryz.f43=os:=⟨_,rfl⟩
 have hbs:=aS hops (ls:=[[0,1,3,0,15],[0,1,3,0,0,31,63]]) (by kernel_rfl)
 simp only[aE,bw,Tryz.f43,List.nil_append,List.append_nil,List.cons_append] at hops
 subst hops
 simp only[List.map_cons,List.map_nil,List.cons.injEq,and_true] at hbs
 obtain⟨hb0,hb1⟩:=hbs
 have a0:aN [0,1,3,0,15] 4=true:=by decide
 have a1:aN [0,1,3,0,0,31,63] 6=true:=by decide
 obtain⟨ev,hev⟩:∃ev,ev=cC nm (dQ i) c:=⟨_,rfl⟩
 have hO1:OracleOk Tryz.prog (ao (bU (jR nm ev))):=ee fun e he M=>by
  simp only[jR,List.mem_cons,List.not_mem_nil,or_false] at he
  subst hev
  rcases he with rfl | rfl | rfl
  ·exact cw nm hm M
  ·exact zn nm (dQ i) c M
  ·exact zu nm (dQ i) c M
 have hO2:OracleOk Tryz.prog (cd (jP sh nm ev)):=du fun e he=>by
  simp only[jP,List.mem_cons,List.not_mem_nil,or_false] at he
  subst hev
  rcases he with rfl | rfl | rfl
  ·exact⟨by simpa [CallRes.mem,shA] using di sh (fa sh (cC nm (dQ i) c)) 0 1 false false rfl rfl,by simp⟩
  ·exact⟨by simpa [CallRes.mem] using vw sh nm i c,by simp[fa]⟩
  ·exact⟨by simpa [CallRes.mem,shA] using Cv nm i c hc _ _ _,by simp⟩
 have hO:=OracleOk.or' hO1 hO2
 obtain⟨O,hOO⟩:∃O,O=Oracle.or (ao (bU (jR nm ev))) (cd (jP sh nm ev)):=⟨_,rfl⟩
 rw[←hOO] at hO
 have h:ad (aA Tryz.prog) (fun _=>[]) (aF Tryz.prog) O 1 43 [shA sh,.agg (cC nm (dQ i) c)] [.cells false 2 (pC sh.P),.cells false 3 (tC sh.T)]=some ⟨.int .i64 0,some [.cells false 2 (pC sh.P),.cells false 3 (tC sh.T)],[]⟩:=by
  rw[hOO,hev]
  simp[bO,-aC,ar hb0,ar hb1,bN,bt,bJ,a0,a1,Nat.testBit,-kW,fh,fc,ad,hG,Tryz.f43,Oracle.or,ao,bU,cd,jR,jP,shA,fa,bZ,cC,bH,ax,cu,cJ,dX,gv,nO,pw,List.idxOf?_cons]
 have:=(ae aa (aj _) hO (al _) h).1
 simpa [CallRes.mem] using this
end Go.Proofs
