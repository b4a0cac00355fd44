/- See N58. -/
import Derived.Test.YtmhkeaphiadacaaGreatDoorN36
set_option linter.all false
namespace Go.Proofs
open Go.Eng
def rJ:Oracle:=ao fun f args=>match f,args with
 |112,[]=>some (.agg lA)
 |_,_=>none
theorem fW:OracleOk Tryz.prog rJ:=bN fun f args v h mem=>by
 split at h
 ·cases h;exact CV mem
 ·cases h
theorem xb(nm:List UInt8) (n:Z3) (o:Int) (s:Z3) (M:Mem):ACallsTo Tryz.prog 81 [.agg (bK nm n o s)] M (.agg ((lA.drop 5).take 5)) M:=by
 refine aw fW (lv:=ad) (K:=6) rfl rfl ?_ M
 as_aux_lemma=>kernel_rfl
theorem zt(nm:List UInt8) (n:Z3) (o w:Int) (u:List UInt8) (M:Mem):ACallsTo Tryz.prog 81 [.agg (cn nm n o w u)] M (.agg ((lA.drop 15).take 5)) M:=by
 refine aw fW (lv:=ad) (K:=6) rfl rfl ?_ M
 as_aux_lemma=>kernel_rfl
theorem zu(nm:List UInt8) (t:Int×Int×Int×Int) (c:Z3) (M:Mem):ACallsTo Tryz.prog 81 [.agg (cG nm t c)] M (.agg ((lA.drop 20).take 5)) M:=by
 refine aw fW (lv:=ad) (K:=6) rfl rfl ?_ M
 as_aux_lemma=>kernel_rfl
def po:Oracle:=ao fun f args=>match f,args with
 |82,[.nilslice,.nilslice]=>some (.bool true)
 |32,[.nilslice,.nilslice]=>some (.bool true)
 |83,[.nilslice,.nilslice]=>some (.bool true)
 |84,[.nilslice,.nilslice]=>some (.bool true)
 |_,_=>none
theorem fX:OracleOk Tryz.prog po:=bN fun f args v h mem=>by
 split at h
 ·cases h;exact CW mem
 ·cases h;exact De mem
 ·cases h;exact Ia mem
 ·cases h;exact CZ mem
 ·cases h
theorem w7(nm:List UInt8) (n:Z3) (o:Int) (s:Z3) (M:Mem):ACallsTo Tryz.prog 49 [.agg (bK nm n o s),.agg (bK nm n o s)] M (.bool true) M:=
 gD fX rfl rfl rfl rfl
theorem zp(nm:List UInt8) (n:Z3) (o w:Int) (u:List UInt8) (M:Mem):ACallsTo Tryz.prog 49 [.agg (cn nm n o w u),.agg (cn nm n o w u)] M (.bool true) M:=
 gD fX rfl rfl rfl rfl
theorem zr(nm:List UInt8) (t:Int×Int×Int×Int) (c:Z3) (M:Mem):ACallsTo Tryz.prog 49 [.agg (cG nm t c),.agg (cG nm t c)] M (.bool true) M:=
 gD fX rfl rfl rfl rfl
theorem IR(t u v w:Int) (h:(t,u,v,w)∈[ed 0,ed 1,ed 2,ed 3,ed 4,ed 5]):(sf (az Tryz.prog) ad (aI Tryz.prog) aE 8 6 (.fn 212) [.agg [.int .i64 t,.int .i64 u,.int .i64 v,.int .i64 w]] []).map (fun r=>(r.v,r.mem []))=some (.int .i64 0,[]++[]):=by
 simp only[List.mem_cons,List.not_mem_nil,or_false,ed,Prod.mk.injEq] at h
 rcases h with⟨rfl,rfl,rfl,rfl⟩ | ⟨rfl,rfl,rfl,rfl⟩ | ⟨rfl,rfl,rfl,rfl⟩ | ⟨rfl,rfl,rfl,rfl⟩ | ⟨rfl,rfl,rfl,rfl⟩ | ⟨rfl,rfl,rfl,rfl⟩<;>(as_aux_lemma=>kernel_rfl)
theorem zC(i:Nat) (M:Mem):ACallsTo Tryz.prog 212 [.agg [.int .i64 (ed i).1,.int .i64 (ed i).2.1,.int .i64 (ed i).2.2.1,.int .i64 (ed i).2.2.2]] M (.int .i64 0) M:=by
 refine ACallsTo.lift rfl rfl (cB (new:=[]) aa (ai _) (aj _) (af _) (IR _ _ _ _ ?_)) M
 match i with
 |0 | 1 | 2 | 3 | 4 | n+5=>simp[ed]
open Classical in
noncomputable def cb:List (FuncId×List AV×AV)→FuncId→List AV→Option AV
 | [],_,_=>none
 |x::L,f,args=>if f=x.1∧args=x.2.1 then some x.2.2 else cb L f args
theorem er{P:Program}{L:List (FuncId×List AV×AV)}(h:∀x∈L,∀M,ACallsTo P x.1 x.2.1 M x.2.2 M):OracleOk P (ao (cb L)):=bN fun f args v hv mem=>by
 induction L with
 |nil=>simp[cb] at hv
 |cons x L ih=>
  rw[cb] at hv
  split at hv
  ·rename_i hc
   cases hv
   rw[hc.1,hc.2]
   exact h x (by simp) mem
  ·exact ih (fun y hy=>h y (by simp[hy])) hv
noncomputable def iM(n:Z3) (o:Int) (s:Z3):List (FuncId×List AV×AV):=[
 (208,[.agg [.str (zS n.1),.str (zS n.2.1),.str (zS n.2.2),.str (zS o)]],.int .i64 0),
 (209,[zA s,zA n],.int .i64 0)]
theorem Bk(nm:List UInt8) (n:Z3) (o:Int) (s:Z3) (hn:fI 99 n) (hz:iI n=false) (ho:o.natAbs≤1000) (hs:fI 99 s) (hd:JY s n=0) (x y:AV) (m:Mem):
  ACallsTo Tryz.prog 155 [.agg [x,y],.agg (bK nm n o s)] m (.int .i64 0) m:=by
 have hG:aI Tryz.prog 155=some Tryz.f155:=by kernel_rfl
 have hO:OracleOk Tryz.prog (ao (cb (iM n o s))):=er fun e he M=>by
  simp only[iM,List.mem_cons,List.not_mem_nil,or_false] at he
  rcases he with rfl | rfl
  ·exact nA n o hn hz ho M
  ·exact wP s n hs hn hd M
 have h:ab (az Tryz.prog) (fun _=>[]) (aI Tryz.prog) (ao (cb (iM n o s))) 1 155 [.agg [x,y],.agg (bK nm n o s)] m=some ⟨.int .i64 0,none,[]⟩:=by
  simp[ab,hG,Tryz.f155,ao,iM,cb,bK,zA]
 have:=(ae aa (ai _) hO (aj _) h).1
 simpa [CallRes.mem] using this
noncomputable def jN(t:Int×Int×Int×Int) (c:Z3):List (FuncId×List AV×AV):=[
 (212,[.agg [.int .i64 t.1,.int .i64 t.2.1,.int .i64 t.2.2.1,.int .i64 t.2.2.2]],.int .i64 0),
 (53,[zA c],.int .i64 0)]
theorem rn(c:Z3) (hc:fI 99 c) (M:Mem):ACallsTo Tryz.prog 53 [zA c] M (.int .i64 0) M:=by
 have hE:=PX hc
 obtain⟨h1,h2,h3⟩:=hc
 have s1:=eh (n:=c.1) (by omega)
 have s2:=eh (n:=c.2.1) (by omega)
 have s3:=eh (n:=c.2.2) (by omega)
 have:=uy (zS c.1) (zS c.2.1) (zS c.2.2) (by unfold zS;omega) (by unfold zS;omega) (by unfold zS;omega) M
 rw[hE] at this
 exact this
theorem CS(nm:List UInt8) (i:Nat) (c:Z3) (hc:fI 99 c) (x y:AV) (m:Mem):
  ACallsTo Tryz.prog 170 [.agg [x,y],.agg (cG nm (ed i) c)] m (.int .i64 0) m:=by
 have hG:aI Tryz.prog 170=some Tryz.f170:=by kernel_rfl
 have hO:OracleOk Tryz.prog (ao (cb (jN (ed i) c))):=er fun e he M=>by
  simp only[jN,List.mem_cons,List.not_mem_nil,or_false] at he
  rcases he with rfl | rfl
  ·exact zC i M
  ·exact rn c hc M
 obtain⟨t,ht⟩:∃t,t=ed i:=⟨_,rfl⟩
 rw[←ht] at hO ⊢
 have h:ab (az Tryz.prog) (fun _=>[]) (aI Tryz.prog) (ao (cb (jN t c))) 1 170 [.agg [x,y],.agg (cG nm t c)] m=some ⟨.int .i64 0,none,[]⟩:=by
  simp[ab,hG,Tryz.f170,ao,jN,cb,cG,zA]
 have:=(ae aa (ai _) hO (aj _) h).1
 simpa [CallRes.mem] using this
noncomputable def jM(n:Z3) (o w:Int) (u:List UInt8):List (FuncId×List AV×AV):=[
 (208,[.agg [.str (zS n.1),.str (zS n.2.1),.str (zS n.2.2),.str (zS o)]],.int .i64 0),
 (125,[.str (aN (hQ w))],.int .i64 0),
 (104,[.str (aN (hQ w))],.int .i64 1),
 (80,[.str u],.int .i64 0)]
theorem QW{w:Int}(h:0<w):0<hQ w:=by
 rw[uP]
 have:(0:Rat)<(w:Rat):=by exact_mod_cast h
 grind
theorem CQ(nm:List UInt8) (n:Z3) (o w:Int) (u:List UInt8) (hn:fI 99 n) (hz:iI n=false) (ho:o.natAbs≤1000) (hw:0<w) (hw2:w<1000) (hu:u∈bE) (x y:AV) (m:Mem):
  ACallsTo Tryz.prog 165 [.agg [x,y],.agg (cn nm n o w u)] m (.int .i64 0) m:=by
 have hG:aI Tryz.prog 165=some Tryz.f165:=by kernel_rfl
 have hl:=yz (z:=w) (by omega)
 have hO:OracleOk Tryz.prog (ao (cb (jM n o w u))):=er fun e he M=>by
  simp only[jM,List.mem_cons,List.not_mem_nil,or_false] at he
  rcases he with rfl | rfl | rfl | rfl
  ·exact nA n o hn hz ho M
  ·have:=nS (aN (hQ w)) (by omega) M
   rw[tX ((Nj (z:=w) (by omega)).mono (by omega) (by omega))] at this
   exact this
  ·have:=xi (hQ w) M
   have hp:=QW hw
   rw[show JD (hQ w)=1 by
    have h1:0<(hQ w).num:=Rat.intCast_pos.mp hp
    have h2:¬(hQ w).num<0:=by omega
    have h3:¬(hQ w).num=0:=by omega
    simp[JD,nq,h1,h2,h3]] at this
   exact this
  ·exact cz u hu M
 have h:ab (az Tryz.prog) (fun _=>[]) (aI Tryz.prog) (ao (cb (jM n o w u))) 1 165 [.agg [x,y],.agg (cn nm n o w u)] m=some ⟨.int .i64 0,none,[]⟩:=by
  simp[ab,hG,Tryz.f165,ao,jM,cb,cn,zA]
 have:=(ae aa (ai _) hO (aj _) h).1
 simpa [CallRes.mem] using this
theorem dj(s:Sheet) (M:Mem) (b c:Nat) (o o' :Bool) (hb:M[b]? =some (.cells o 2 (pC s.P))) (hc:M[c]? =some (.cells o' 3 (tC s.T))):
  ACallsTo Tryz.prog 41 [.agg [.slice b 0 s.P.length none,.slice c 0 s.T.length none]] M (.int .i64 0) M:=by
 have hlt:=(List.getElem?_eq_some_iff.1 hb).1
 have hlt' :=(List.getElem?_eq_some_iff.1 hc).1
 have:=ACallsTo.frame (M:=M) (new:=[]) [b,c] rfl (by simp[hlt,hlt']) (by rfl) (fun i t hs=>by
  match i with
  |0=>simp at hs;subst hs;exact bm (dB _) hb List.take_length
  |1=>simp at hs;subst hs;exact bm (dL _) hc List.take_length
  |i+2=>simp at hs) rfl (Bs s)
 simpa [AV.rens,AV.ren,da] using this
open Classical in
noncomputable def cg:List (FuncId×List AV×Mem×CallRes)→Oracle
 | [],_,_,_=>none
 |x::L,c,args,M=>if c=.fn x.1∧args=x.2.1∧M=x.2.2.1 then some x.2.2.2 else cg L c args M
theorem dn{P:Program}{L:List (FuncId×List AV×Mem×CallRes)}(h:∀x∈L,ACallsTo P x.1 x.2.1 x.2.2.1 x.2.2.2.v (x.2.2.2.mem x.2.2.1)∧∀p,x.2.2.2.pre=some p→p.length=x.2.2.1.length):OracleOk P (cg L):=by
 have k:∀c args M r,cg L c args M=some r→∃x∈L,c=.fn x.1∧args=x.2.1∧M=x.2.2.1∧r=x.2.2.2:=by
  clear h
  intro c args M r hr
  induction L with
  |nil=>simp[cg] at hr
  |cons x L ih=>
   rw[cg] at hr
   split at hr
   ·rename_i hc
    cases hr
    exact⟨x,by simp,hc.1,hc.2.1,hc.2.2,rfl⟩
   ·obtain⟨y,hy,h1⟩:=ih hr
    exact⟨y,by simp[hy],h1⟩
 refine⟨fun f args M r hr=>?_,fun b args M r hr=>?_,fun c args M r p hr hp=>?_⟩
 ·obtain⟨x,hx,h1,rfl,rfl,rfl⟩:=k _ _ _ _ hr
  cases h1
  exact(h x hx).1
 ·obtain⟨x,hx,h1,_⟩:=k _ _ _ _ hr
  cases h1
 ·obtain⟨x,hx,h1,rfl,rfl,rfl⟩:=k _ _ _ _ hr
  exact(h x hx).2 p hp
def fh(s:Sheet) (ev:List AV):Mem:=[.cells false 2 (pC s.P),.cells false 3 (tC s.T),.cells true 0 [.slice 0 0 s.P.length none,.slice 1 0 s.T.length none],.cells true 0 ev]
def cm(k:Int) (nm:List UInt8):List AV:=[.int .i64 k,.str nm,.nilslice,.nilslice,.nilslice,.str [],.str [],.str [],.str [],.str [],.str [],.str [],.str [],.str [],.str [],.nilslice,.str [],.str [],.str [],.str [],.str [],.str [],.str [],.str [],.str [],.int .i64 0,.int .i64 0,.int .i64 0,.int .i64 0,.str [],.str [],.str []]
theorem sX(sh:Sheet) (nm:List UInt8) (n:Z3) (o:Int) (s:Z3):
  ACallsTo Tryz.prog 154 [.agg (bK nm n o s),.ptr 4 0] (fh sh (bK nm n o s)++[.cells true 0 (cm 2 nm)]) (.tuple []) (fh sh (bK nm n o s)++[.cells true 0 (bK nm n o s)]):=by
 have hG:aI Tryz.prog 154=some Tryz.f154:=by kernel_rfl
 have h:ab (az Tryz.prog) (fun _=>[]) (aI Tryz.prog) aE 1 154 [.agg (bK nm n o s),.ptr 4 0] (fh sh (bK nm n o s)++[.cells true 0 (cm 2 nm)])=some ⟨.tuple [],some (fh sh (bK nm n o s)++[.cells true 0 (bK nm n o s)]),[]⟩:=by
  simp[ab,hG,Tryz.f154,fh,cm,bK,cC,cP,eg,gw,List.idxOf?_cons]
 have:=(ae aa (ai _) (af _) (aj _) h).1
 simpa [CallRes.mem] using this
noncomputable def iO(nm:List UInt8) (ev:List AV):List (FuncId×List AV×AV):=[
 (80,[.str nm],.int .i64 0),
 (81,[.agg ev],.agg [.func 154 [],.func 155 [],.func 156 [],.func 157 [],.func 158 []]),
 (49,[.agg ev,.agg ev],.bool true)]
def shA(s:Sheet):AV:=.agg [.slice 0 0 s.P.length none,.slice 1 0 s.T.length none]
noncomputable def iQ(sh:Sheet) (nm:List UInt8) (ev:List AV):List (FuncId×List AV×Mem×CallRes):=[
 (41,[shA sh],fh sh ev,⟨.int .i64 0,none,[]⟩),
 (154,[.agg ev,.ptr 4 0],fh sh ev++[.cells true 0 (cm 2 nm)],⟨.tuple [],some (fh sh ev++[.cells true 0 ev]),[]⟩),
 (155,[shA sh,.agg ev],fh sh ev++[.cells true 0 ev],⟨.int .i64 0,none,[]⟩)]
theorem OracleOk.or'{P:Program}{O O' :Oracle}(h:OracleOk P O) (h' :OracleOk P O'):OracleOk P (Oracle.or O O'):=by
 have k:∀c args mem r,Oracle.or O O' c args mem=some r→O c args mem=some r∨O' c args mem=some r:=fun c args mem r hr=>by
  unfold Oracle.or at hr
  split at hr
  ·rename_i q hq
   cases hr;exact .inl hq
  ·exact .inr hr
 refine⟨fun f args mem r hr=>?_,fun f args mem r hr=>?_,fun c args mem r p hr hp=>?_⟩
 ·rcases k _ _ _ _ hr with h1 | h1
  ·exact h.fn _ _ _ _ h1
  ·exact h'.fn _ _ _ _ h1
 ·rcases k _ _ _ _ hr with h1 | h1
  ·exact h.yld _ _ _ _ h1
  ·exact h'.yld _ _ _ _ h1
 ·rcases k _ _ _ _ hr with h1 | h1
  ·exact h.pre _ _ _ _ _ h1 hp
  ·exact h'.pre _ _ _ _ _ h1 hp
theorem fj(a b c d e:AV):lG (az Tryz.prog) 169 (.agg [a,b,c,d,e]) 0=some a:=by kernel_rfl
theorem fk(a b c d e:AV):lG (az Tryz.prog) 169 (.agg [a,b,c,d,e]) 1=some b:=by kernel_rfl
theorem rh(sh:Sheet) (nm:List UInt8) (n:Z3) (o:Int) (s:Z3) (hm:nm∈bE) (hn:fI 99 n) (hz:iI n=false) (ho:o.natAbs≤1000) (hs:fI 99 s) (hd:JY s n=0):
  ACallsTo Tryz.prog 43 [shA sh,.agg (bK nm n o s)] [.cells false 2 (pC sh.P),.cells false 3 (tC sh.T)] (.int .i64 0) [.cells false 2 (pC sh.P),.cells false 3 (tC sh.T)]:=by
 have hG:aI Tryz.prog 43=some Tryz.f43:=by kernel_rfl
 obtain⟨os,hops⟩:∃os,aG Tryz.f43=os:=⟨_,rfl⟩
 have hbs:=aV hops (ls:=[[0,1,3,0,15],[0,1,3,0,0,31,63]]) (by kernel_rfl)
 simp only[aG,bC,Tryz.f43,List.nil_append,List.append_nil,List.cons_append] at hops
 subst hops
 simp only[List.map_cons,List.map_nil,List.cons.injEq,and_true] at hbs
 obtain⟨hb0,hb1⟩:=hbs
 have a0:aS [0,1,3,0,15] 4=true:=by decide
 have a1:aS [0,1,3,0,0,31,63] 6=true:=by decide
 obtain⟨ev,hev⟩:∃ev,ev=bK nm n o s:=⟨_,rfl⟩
 have hO1:OracleOk Tryz.prog (ao (cb (iO nm ev))):=er fun e he M=>by
  simp only[iO,List.mem_cons,List.not_mem_nil,or_false] at he
  subst hev
  rcases he with rfl | rfl | rfl
  ·exact cz nm hm M
  ·exact xb nm n o s M
  ·exact w7 nm n o s M
 have hO2:OracleOk Tryz.prog (cg (iQ sh nm ev)):=dn fun e he=>by
  simp only[iQ,List.mem_cons,List.not_mem_nil,or_false] at he
  subst hev
  rcases he with rfl | rfl | rfl
  ·exact⟨by simpa [CallRes.mem,shA] using dj sh (fh sh (bK nm n o s)) 0 1 false false rfl rfl,by simp⟩
  ·exact⟨by simpa [CallRes.mem] using sX sh nm n o s,by simp[fh]⟩
  ·exact⟨by simpa [CallRes.mem,shA] using Bk nm n o s hn hz ho hs hd _ _ _,by simp⟩
 have hO:=OracleOk.or' hO1 hO2
 obtain⟨O,hOO⟩:∃O,O=Oracle.or (ao (cb (iO nm ev))) (cg (iQ sh nm ev)):=⟨_,rfl⟩
 rw[←hOO] at hO
 have h:ab (az Tryz.prog) (fun _=>[]) (aI Tryz.prog) O 1 43 [shA sh,.agg (bK nm n o s)] [.cells false 2 (pC sh.P),.cells false 3 (tC sh.T)]=some ⟨.int .i64 0,some [.cells false 2 (pC sh.P),.cells false 3 (tC sh.T)],[]⟩:=by
  rw[hOO,hev]
  simp[bT,-aF,ax hb0,ax hb1,bS,bF,bM,a0,a1,Nat.testBit,-lG,fj,fk,ab,hG,Tryz.f43,Oracle.or,ao,cb,cg,iO,iQ,shA,fh,cm,bK,bB,ar,cC,cP,eg,gw,oZ,pW,List.idxOf?_cons]
 have:=(ae aa (ai _) hO (aj _) h).1
 simpa [CallRes.mem] using this
theorem vm(sh:Sheet) (nm:List UInt8) (n:Z3) (o w:Int) (u:List UInt8):
  ACallsTo Tryz.prog 164 [.agg (cn nm n o w u),.ptr 4 0] (fh sh (cn nm n o w u)++[.cells true 0 (cm 4 nm)]) (.tuple []) (fh sh (cn nm n o w u)++[.cells true 0 (cn nm n o w u)]):=by
 have hG:aI Tryz.prog 164=some Tryz.f164:=by kernel_rfl
 have h:ab (az Tryz.prog) (fun _=>[]) (aI Tryz.prog) aE 1 164 [.agg (cn nm n o w u),.ptr 4 0] (fh sh (cn nm n o w u)++[.cells true 0 (cm 4 nm)])=some ⟨.tuple [],some (fh sh (cn nm n o w u)++[.cells true 0 (cn nm n o w u)]),[]⟩:=by
  simp[ab,hG,Tryz.f164,fh,cm,cn,cC,cP,eg,gw,List.idxOf?_cons]
 have:=(ae aa (ai _) (af _) (aj _) h).1
 simpa [CallRes.mem] using this
noncomputable def jO(nm:List UInt8) (ev:List AV):List (FuncId×List AV×AV):=[
 (80,[.str nm],.int .i64 0),
 (81,[.agg ev],.agg [.func 164 [],.func 165 [],.func 166 [],.func 167 [],.func 168 []]),
 (49,[.agg ev,.agg ev],.bool true)]
noncomputable def jT(sh:Sheet) (nm:List UInt8) (ev:List AV):List (FuncId×List AV×Mem×CallRes):=[
 (41,[shA sh],fh sh ev,⟨.int .i64 0,none,[]⟩),
 (164,[.agg ev,.ptr 4 0],fh sh ev++[.cells true 0 (cm 4 nm)],⟨.tuple [],some (fh sh ev++[.cells true 0 ev]),[]⟩),
 (165,[shA sh,.agg ev],fh sh ev++[.cells true 0 ev],⟨.int .i64 0,none,[]⟩)]
theorem th(sh:Sheet) (nm:List UInt8) (n:Z3) (o w:Int) (u:List UInt8) (hm:nm∈bE) (hn:fI 99 n) (hz:iI n=false) (ho:o.natAbs≤1000) (hw:0<w) (hw2:w<1000) (hu:u∈bE):
  ACallsTo Tryz.prog 43 [shA sh,.agg (cn nm n o w u)] [.cells false 2 (pC sh.P),.cells false 3 (tC sh.T)] (.int .i64 0) [.cells false 2 (pC sh.P),.cells false 3 (tC sh.T)]:=by
 have hG:aI Tryz.prog 43=some Tryz.f43:=by kernel_rfl
 obtain⟨os,hops⟩:∃os,aG Tryz.f43=os:=⟨_,rfl⟩
 have hbs:=aV hops (ls:=[[0,1,3,0,15],[0,1,3,0,0,31,63]]) (by kernel_rfl)
 simp only[aG,bC,Tryz.f43,List.nil_append,List.append_nil,List.cons_append] at hops
 subst hops
 simp only[List.map_cons,List.map_nil,List.cons.injEq,and_true] at hbs
 obtain⟨hb0,hb1⟩:=hbs
 have a0:aS [0,1,3,0,15] 4=true:=by decide
 have a1:aS [0,1,3,0,0,31,63] 6=true:=by decide
 obtain⟨ev,hev⟩:∃ev,ev=cn nm n o w u:=⟨_,rfl⟩
 have hO1:OracleOk Tryz.prog (ao (cb (jO nm ev))):=er fun e he M=>by
  simp only[jO,List.mem_cons,List.not_mem_nil,or_false] at he
  subst hev
  rcases he with rfl | rfl | rfl
  ·exact cz nm hm M
  ·exact zt nm n o w u M
  ·exact zp nm n o w u M
 have hO2:OracleOk Tryz.prog (cg (jT sh nm ev)):=dn fun e he=>by
  simp only[jT,List.mem_cons,List.not_mem_nil,or_false] at he
  subst hev
  rcases he with rfl | rfl | rfl
  ·exact⟨by simpa [CallRes.mem,shA] using dj sh (fh sh (cn nm n o w u)) 0 1 false false rfl rfl,by simp⟩
  ·exact⟨by simpa [CallRes.mem] using vm sh nm n o w u,by simp[fh]⟩
  ·exact⟨by simpa [CallRes.mem,shA] using CQ nm n o w u hn hz ho hw hw2 hu _ _ _,by simp⟩
 have hO:=OracleOk.or' hO1 hO2
 obtain⟨O,hOO⟩:∃O,O=Oracle.or (ao (cb (jO nm ev))) (cg (jT sh nm ev)):=⟨_,rfl⟩
 rw[←hOO] at hO
 have h:ab (az Tryz.prog) (fun _=>[]) (aI Tryz.prog) O 1 43 [shA sh,.agg (cn nm n o w u)] [.cells false 2 (pC sh.P),.cells false 3 (tC sh.T)]=some ⟨.int .i64 0,some [.cells false 2 (pC sh.P),.cells false 3 (tC sh.T)],[]⟩:=by
  rw[hOO,hev]
  simp[bT,-aF,ax hb0,ax hb1,bS,bF,bM,a0,a1,Nat.testBit,-lG,fj,fk,ab,hG,Tryz.f43,Oracle.or,ao,cb,cg,jO,jT,shA,fh,cm,cn,bB,ar,cC,cP,eg,gw,oZ,pW,List.idxOf?_cons]
 have:=(ae aa (ai _) hO (aj _) h).1
 simpa [CallRes.mem] using this
theorem vo(sh:Sheet) (nm:List UInt8) (i:Nat) (c:Z3):
  ACallsTo Tryz.prog 169 [.agg (cG nm (ed i) c),.ptr 4 0] (fh sh (cG nm (ed i) c)++[.cells true 0 (cm 5 nm)]) (.tuple []) (fh sh (cG nm (ed i) c)++[.cells true 0 (cG nm (ed i) c)]):=by
 have hG:aI Tryz.prog 169=some Tryz.f169:=by kernel_rfl
 have h:ab (az Tryz.prog) (fun _=>[]) (aI Tryz.prog) aE 1 169 [.agg (cG nm (ed i) c),.ptr 4 0] (fh sh (cG nm (ed i) c)++[.cells true 0 (cm 5 nm)])=some ⟨.tuple [],some (fh sh (cG nm (ed i) c)++[.cells true 0 (cG nm (ed i) c)]),[]⟩:=by
  simp[ab,hG,Tryz.f169,fh,cm,cG,cC,cP,eg,gw,List.idxOf?_cons]
 have:=(ae aa (ai _) (af _) (aj _) h).1
 simpa [CallRes.mem] using this
noncomputable def jP(nm:List UInt8) (ev:List AV):List (FuncId×List AV×AV):=[
 (80,[.str nm],.int .i64 0),
 (81,[.agg ev],.agg [.func 169 [],.func 170 [],.func 171 [],.func 172 [],.func 173 []]),
 (49,[.agg ev,.agg ev],.bool true)]
noncomputable def jV(sh:Sheet) (nm:List UInt8) (ev:List AV):List (FuncId×List AV×Mem×CallRes):=[
 (41,[shA sh],fh sh ev,⟨.int .i64 0,none,[]⟩),
 (169,[.agg ev,.ptr 4 0],fh sh ev++[.cells true 0 (cm 5 nm)],⟨.tuple [],some (fh sh ev++[.cells true 0 ev]),[]⟩),
 (170,[shA sh,.agg ev],fh sh ev++[.cells true 0 ev],⟨.int .i64 0,none,[]⟩)]
theorem tq(sh:Sheet) (nm:List UInt8) (i:Nat) (c:Z3) (hm:nm∈bE) (hc:fI 99 c):
  ACallsTo Tryz.prog 43 [shA sh,.agg (cG nm (ed i) c)] [.cells false 2 (pC sh.P),.cells false 3 (tC sh.T)] (.int .i64 0) [.cells false 2 (pC sh.P),.cells false 3 (tC sh.T)]:=by
 have hG:aI Tryz.prog 43=some Tryz.f43:=by kernel_rfl
 obtain⟨os,hops⟩:∃os,aG Tryz.f43=os:=⟨_,rfl⟩
 have hbs:=aV hops (ls:=[[0,1,3,0,15],[0,1,3,0,0,31,63]]) (by kernel_rfl)
 simp only[aG,bC,Tryz.f43,List.nil_append,List.append_nil,List.cons_append] at hops
 subst hops
 simp only[List.map_cons,List.map_nil,List.cons.injEq,and_true] at hbs
 obtain⟨hb0,hb1⟩:=hbs
 have a0:aS [0,1,3,0,15] 4=true:=by decide
 have a1:aS [0,1,3,0,0,31,63] 6=true:=by decide
 obtain⟨ev,hev⟩:∃ev,ev=cG nm (ed i) c:=⟨_,rfl⟩
 have hO1:OracleOk Tryz.prog (ao (cb (jP nm ev))):=er fun e he M=>by
  simp only[jP,List.mem_cons,List.not_mem_nil,or_false] at he
  subst hev
  rcases he with rfl | rfl | rfl
  ·exact cz nm hm M
  ·exact zu nm (ed i) c M
  ·exact zr nm (ed i) c M
 have hO2:OracleOk Tryz.prog (cg (jV sh nm ev)):=dn fun e he=>by
  simp only[jV,List.mem_cons,List.not_mem_nil,or_false] at he
  subst hev
  rcases he with rfl | rfl | rfl
  ·exact⟨by simpa [CallRes.mem,shA] using dj sh (fh sh (cG nm (ed i) c)) 0 1 false false rfl rfl,by simp⟩
  ·exact⟨by simpa [CallRes.mem] using vo sh nm i c,by simp[fh]⟩
  ·exact⟨by simpa [CallRes.mem,shA] using CS nm i c hc _ _ _,by simp⟩
 have hO:=OracleOk.or' hO1 hO2
 obtain⟨O,hOO⟩:∃O,O=Oracle.or (ao (cb (jP nm ev))) (cg (jV sh nm ev)):=⟨_,rfl⟩
 rw[←hOO] at hO
 have h:ab (az Tryz.prog) (fun _=>[]) (aI Tryz.prog) O 1 43 [shA sh,.agg (cG nm (ed i) c)] [.cells false 2 (pC sh.P),.cells false 3 (tC sh.T)]=some ⟨.int .i64 0,some [.cells false 2 (pC sh.P),.cells false 3 (tC sh.T)],[]⟩:=by
  rw[hOO,hev]
  simp[bT,-aF,ax hb0,ax hb1,bS,bF,bM,a0,a1,Nat.testBit,-lG,fj,fk,ab,hG,Tryz.f43,Oracle.or,ao,cb,cg,jP,jV,shA,fh,cm,cG,bB,ar,cC,cP,eg,gw,oZ,pW,List.idxOf?_cons]
 have:=(ae aa (ai _) hO (aj _) h).1
 simpa [CallRes.mem] using this
end Go.Proofs
