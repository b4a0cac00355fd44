/- See Q54. -/
import Derived.Test.YtgafjliihahjgaaGreatDoorQ26
set_option linter.all false
namespace Go.Proofs
open Go.Eng
def rX:Oracle:=af fun f args=>match f,args with
 |127,[]=>some (.agg ly)
 |_,_=>none
theorem gp:OracleOk Tryz.prog rX:=bq fun f args v h mem=>by
 split at h
 ·cases h;exact DT mem
 ·cases h
theorem xG(nm:List UInt8) (n:Z3) (o:Int) (s:Z3) (M:Mem):ACallsTo Tryz.prog 77 [.agg (bm nm n o s)] M (.agg ((ly.drop 5).take 5)) M:=by refine aq gp (lv:=ad) (K:=6) rfl rfl ?_ M;as_aux_lemma=>kernel_rfl
theorem zY(nm:List UInt8) (n:Z3) (o w:Int) (u:List UInt8) (M:Mem):ACallsTo Tryz.prog 77 [.agg (db nm n o w u)] M (.agg ((ly.drop 15).take 5)) M:=by refine aq gp (lv:=ad) (K:=6) rfl rfl ?_ M;as_aux_lemma=>kernel_rfl
theorem zZ(nm:List UInt8) (t:Int×Int×Int×Int) (c:Z3) (M:Mem):ACallsTo Tryz.prog 77 [.agg (cx nm t c)] M (.agg ((ly.drop 20).take 5)) M:=by refine aq gp (lv:=ad) (K:=6) rfl rfl ?_ M;as_aux_lemma=>kernel_rfl
def oY:Oracle:=af fun f args=>match f,args with
 |166,[.nilslice,.nilslice]=>some (.bool true)
 |26,[.nilslice,.nilslice]=>some (.bool true)
 |167,[.nilslice,.nilslice]=>some (.bool true)
 |168,[.nilslice,.nilslice]=>some (.bool true)
 |_,_=>none
theorem gq:OracleOk Tryz.prog oY:=bq fun f args v h mem=>by
 split at h
 ·cases h;exact DX mem
 ·cases h;exact Eo mem
 ·cases h;exact IX mem
 ·cases h;exact D7 mem
 ·cases h
theorem xC(nm:List UInt8) (n:Z3) (o:Int) (s:Z3) (M:Mem):ACallsTo Tryz.prog 110 [.agg (bm nm n o s),.agg (bm nm n o s)] M (.bool true) M:=
 gU gq rfl rfl rfl rfl
theorem zU(nm:List UInt8) (n:Z3) (o w:Int) (u:List UInt8) (M:Mem):ACallsTo Tryz.prog 110 [.agg (db nm n o w u),.agg (db nm n o w u)] M (.bool true) M:=
 gU gq rfl rfl rfl rfl
theorem zX(nm:List UInt8) (t:Int×Int×Int×Int) (c:Z3) (M:Mem):ACallsTo Tryz.prog 110 [.agg (cx nm t c),.agg (cx nm t c)] M (.bool true) M:=
 gU gq rfl rfl rfl rfl
theorem Jz(t u v w:Int) (h:(t,u,v,w)∈[bn 0,bn 1,bn 2,bn 3,bn 4,bn 5]):(pM (aM Tryz.prog) ad (aL Tryz.prog) bJ 8 6 (.fn 245) [.agg [.int .i64 t,.int .i64 u,.int .i64 v,.int .i64 w]] []).map (fun r=>(r.v,r.mem []))=some (.int .i64 0,[]++[]):=by simp only[List.mem_cons,List.not_mem_nil,or_false,bn,Prod.mk.injEq] at h;rcases h with⟨rfl,rfl,rfl,rfl⟩ | ⟨rfl,rfl,rfl,rfl⟩ | ⟨rfl,rfl,rfl,rfl⟩ | ⟨rfl,rfl,rfl,rfl⟩ | ⟨rfl,rfl,rfl,rfl⟩ | ⟨rfl,rfl,rfl,rfl⟩<;>(as_aux_lemma=>kernel_rfl)
theorem Ac(i:Nat) (M:Mem):ACallsTo Tryz.prog 245 [.agg [.int .i64 (bn i).1,.int .i64 (bn i).2.1,.int .i64 (bn i).2.2.1,.int .i64 (bn i).2.2.2]] M (.int .i64 0) M:=by
 refine ACallsTo.lift rfl rfl (cR (new:=[]) ae (aw _) (az _) (ao _) (Jz _ _ _ _ ?_)) M
 match i with
 |0 | 1 | 2 | 3 | 4 | n+5=>simp[bn]
open Classical in
noncomputable def bG:List (FuncId×List AV×AV)→FuncId→List AV→Option AV
 | [],_,_=>none
 |x::L,f,args=>if f=x.1∧args=x.2.1 then some x.2.2 else bG L f args
theorem cF{P:Program}{L:List (FuncId×List AV×AV)}(h:∀x∈L,∀M,ACallsTo P x.1 x.2.1 M x.2.2 M):OracleOk P (af (bG L)):=bq fun f args v hv mem=>by
 induction L with
 |nil=>simp[bG] at hv
 |cons x L ih=>
  rw[bG] at hv;split at hv
  ·rename_i hc
   cases hv;rw[hc.1,hc.2];exact h x (by simp) mem
  ·exact ih (fun y hy=>h y (by simp[hy])) hv
noncomputable def lW(n:Z3) (o:Int) (s:Z3):List (FuncId×List AV×AV):=[
 (254,[.agg [.str (zS n.1),.str (zS n.2.1),.str (zS n.2.2),.str (zS o)]],.int .i64 0),
 (255,[zA s,zA n],.int .i64 0)]
theorem BP(nm:List UInt8) (n:Z3) (o:Int) (s:Z3) (hn:dO 99 n) (hz:gh n=false) (ho:o.natAbs≤1000) (hs:dO 99 s) (hd:DE s n=0) (x y:AV) (m:Mem):
  ACallsTo Tryz.prog 191 [.agg [x,y],.agg (bm nm n o s)] m (.int .i64 0) m:=by
 have hG:aL Tryz.prog 191=some Tryz.f191:=by kernel_rfl
 have hO:OracleOk Tryz.prog (af (bG (lW n o s))):=cF fun e he M=>by
  simp only[lW,List.mem_cons,List.not_mem_nil,or_false] at he;rcases he with rfl | rfl
  ·exact mT n o hn hz ho M
  ·exact xq s n hs hn hd M
 refine aZ (K:=1) (lv:=fun _=>[]) hO ?_;simp[aa,hG,Tryz.f191,af,lW,bG,bm,zA]
noncomputable def j9(t:Int×Int×Int×Int) (c:Z3):List (FuncId×List AV×AV):=[
 (245,[.agg [.int .i64 t.1,.int .i64 t.2.1,.int .i64 t.2.2.1,.int .i64 t.2.2.2]],.int .i64 0),
 (14,[zA c],.int .i64 0)]
theorem rO(c:Z3) (hc:dO 99 c) (M:Mem):ACallsTo Tryz.prog 14 [zA c] M (.int .i64 0) M:=by have hE:=RT hc;obtain⟨h1,h2,h3⟩:=hc;have s1:=eW (n:=c.1) (by omega);have s2:=eW (n:=c.2.1) (by omega);have s3:=eW (n:=c.2.2) (by omega);have:=jZ (zS c.1) (zS c.2.1) (zS c.2.2) (by unfold zS;omega) (by unfold zS;omega) (by unfold zS;omega) M;rw[hE] at this;exact this
theorem DQ(nm:List UInt8) (i:Nat) (c:Z3) (hc:dO 99 c) (x y:AV) (m:Mem):
  ACallsTo Tryz.prog 205 [.agg [x,y],.agg (cx nm (bn i) c)] m (.int .i64 0) m:=by
 have hG:aL Tryz.prog 205=some Tryz.f205:=by kernel_rfl
 have hO:OracleOk Tryz.prog (af (bG (j9 (bn i) c))):=cF fun e he M=>by
  simp only[j9,List.mem_cons,List.not_mem_nil,or_false] at he;rcases he with rfl | rfl
  ·exact Ac i M
  ·exact rO c hc M
 obtain⟨t,ht⟩:∃t,t=bn i:=⟨_,rfl⟩
 rw[←ht] at hO ⊢;have h:aa (aM Tryz.prog) (fun _=>[]) (aL Tryz.prog) (af (bG (j9 t c))) 1 205 [.agg [x,y],.agg (cx nm t c)] m=some ⟨.int .i64 0,none,[]⟩:=by simp[aa,hG,Tryz.f205,af,j9,bG,cx,zA]
 have:=(al ae (aw _) hO (az _) h).1;simpa [CallRes.mem] using this
noncomputable def nG(n:Z3) (o w:Int) (u:List UInt8):List (FuncId×List AV×AV):=[
 (254,[.agg [.str (zS n.1),.str (zS n.2.1),.str (zS n.2.2),.str (zS o)]],.int .i64 0),
 (55,[.str (ah (hQ w))],.int .i64 0),
 (89,[.str (ah (hQ w))],.int .i64 1),
 (109,[.str u],.int .i64 0)]
theorem SV{w:Int}(h:0<w):0<hQ w:=by
 rw[vb];have:(0:Rat)<(w:Rat):=by exact_mod_cast h
 grind
theorem DO(nm:List UInt8) (n:Z3) (o w:Int) (u:List UInt8) (hn:dO 99 n) (hz:gh n=false) (ho:o.natAbs≤1000) (hw:0<w) (hw2:w<1000) (hu:u∈bl) (x y:AV) (m:Mem):
  ACallsTo Tryz.prog 200 [.agg [x,y],.agg (db nm n o w u)] m (.int .i64 0) m:=by
 have hG:aL Tryz.prog 200=some Tryz.f200:=by kernel_rfl
 have hl:=yW (z:=w) (by omega);have hO:OracleOk Tryz.prog (af (bG (nG n o w u))):=cF fun e he M=>by
  simp only[nG,List.mem_cons,List.not_mem_nil,or_false] at he;rcases he with rfl | rfl | rfl | rfl
  ·exact mT n o hn hz ho M
  ·have:=nt (ah (hQ w)) (by omega) M
   rw[qX ((O7 (z:=w) (by omega)).mono (by omega) (by omega))] at this;exact this
  ·have:=xN (hQ w) M
   have hp:=SV hw;rw[show Ko (hQ w)=1 by
    have h1:0<(hQ w).num:=Rat.intCast_pos.mp hp;have h2:¬(hQ w).num<0:=by omega
    have h3:¬(hQ w).num=0:=by omega
    simp[Ko,kW,h2,h3]] at this
   exact this
  ·exact cL u hu M
 refine aZ (K:=1) (lv:=fun _=>[]) hO ?_;simp[aa,hG,Tryz.f200,af,nG,bG,db]
theorem du(s:Sheet) (M:Mem) (b c:Nat) (o o' :Bool) (hb:M[b]? =some (.cells o 2 (pC s.P))) (hc:M[c]? =some (.cells o' 3 (tC s.T))):
  ACallsTo Tryz.prog 59 [.agg [.slice b 0 s.P.length none,.slice c 0 s.T.length none]] M (.int .i64 0) M:=by
 have hlt:=(List.getElem?_eq_some_iff.1 hb).1;have hlt' :=(List.getElem?_eq_some_iff.1 hc).1;have:=ACallsTo.frame (M:=M) (new:=[]) [b,c] rfl (by simp[hlt,hlt']) (by rfl) (fun i t hs=>by
  match i with
  |0=>simp at hs;subst hs;exact bI (dr _) hb List.take_length
  |1=>simp at hs;subst hs;exact bI (eK _) hc List.take_length
  |i+2=>simp at hs) rfl (BY s)
 simpa [AV.rens,AV.ren,ar] using this
open Classical in
noncomputable def dR:List (FuncId×List AV×Mem×CallRes)→Oracle
 | [],_,_,_=>none
 |x::L,c,args,M=>if c=.fn x.1∧args=x.2.1∧M=x.2.2.1 then some x.2.2.2 else dR L c args M
theorem er{P:Program}{L:List (FuncId×List AV×Mem×CallRes)}(h:∀x∈L,ACallsTo P x.1 x.2.1 x.2.2.1 x.2.2.2.v (x.2.2.2.mem x.2.2.1)∧∀p,x.2.2.2.pre=some p→p.length=x.2.2.1.length):OracleOk P (dR L):=by
 have k:∀c args M r,dR L c args M=some r→∃x∈L,c=.fn x.1∧args=x.2.1∧M=x.2.2.1∧r=x.2.2.2:=by
  clear h;intro c args M r hr;induction L with
  |nil=>simp[dR] at hr
  |cons x L ih=>
   rw[dR] at hr;split at hr
   ·rename_i hc
    cases hr;exact⟨x,by simp,hc.1,hc.2.1,hc.2.2,rfl⟩
   ·obtain⟨y,hy,h1⟩:=ih hr
    exact⟨y,by simp[hy],h1⟩
 refine⟨fun f args M r hr=>?_,fun b args M r hr=>?_,fun c args M r p hr hp=>?_⟩
 ·obtain⟨x,hx,h1,rfl,rfl,rfl⟩:=k _ _ _ _ hr
  cases h1;exact(h x hx).1
 ·obtain⟨x,hx,h1,_⟩:=k _ _ _ _ hr
  cases h1
 ·obtain⟨x,hx,h1,rfl,rfl,rfl⟩:=k _ _ _ _ hr
  exact(h x hx).2 p hp
def fB(s:Sheet) (ev:List AV):Mem:=[.cells false 2 (pC s.P),.cells false 3 (tC s.T),.cells true 0 [.slice 0 0 s.P.length none,.slice 1 0 s.T.length none],.cells true 0 ev]
def cD(k:Int) (nm:List UInt8):List AV:=[.int .i64 k,.str nm,.nilslice,.nilslice,.nilslice,.str [],.str [],.str [],.str [],.str [],.str [],.str [],.str [],.str [],.str [],.nilslice,.str [],.str [],.str [],.str [],.str [],.str [],.str [],.str [],.str [],.int .i64 0,.int .i64 0,.int .i64 0,.int .i64 0,.str [],.str [],.str []]
theorem tx(sh:Sheet) (nm:List UInt8) (n:Z3) (o:Int) (s:Z3):
  ACallsTo Tryz.prog 190 [.agg (bm nm n o s),.ptr 4 0] (fB sh (bm nm n o s)++[.cells true 0 (cD 2 nm)]) (.tuple []) (fB sh (bm nm n o s)++[.cells true 0 (bm nm n o s)]):=by
 have hG:aL Tryz.prog 190=some Tryz.f190:=by kernel_rfl
 have h:aa (aM Tryz.prog) (fun _=>[]) (aL Tryz.prog) bJ 1 190 [.agg (bm nm n o s),.ptr 4 0] (fB sh (bm nm n o s)++[.cells true 0 (cD 2 nm)])=some ⟨.tuple [],some (fB sh (bm nm n o s)++[.cells true 0 (bm nm n o s)]),[]⟩:=by simp[aa,hG,Tryz.f190,fB,cD,bm,dK,dT,fz,gG]
 have:=(al ae (aw _) (ao _) (az _) h).1;simpa [CallRes.mem] using this
noncomputable def iU(nm:List UInt8) (ev:List AV):List (FuncId×List AV×AV):=[
 (109,[.str nm],.int .i64 0),
 (77,[.agg ev],.agg [.func 190 [],.func 191 [],.func 192 [],.func 69 [],.func 193 []]),
 (110,[.agg ev,.agg ev],.bool true)]
def shA(s:Sheet):AV:=.agg [.slice 0 0 s.P.length none,.slice 1 0 s.T.length none]
noncomputable def iV(sh:Sheet) (nm:List UInt8) (ev:List AV):List (FuncId×List AV×Mem×CallRes):=[
 (59,[shA sh],fB sh ev,⟨.int .i64 0,none,[]⟩),
 (190,[.agg ev,.ptr 4 0],fB sh ev++[.cells true 0 (cD 2 nm)],⟨.tuple [],some (fB sh ev++[.cells true 0 ev]),[]⟩),
 (191,[shA sh,.agg ev],fB sh ev++[.cells true 0 ev],⟨.int .i64 0,none,[]⟩)]
theorem OracleOk.or'{P:Program}{O O' :Oracle}(h:OracleOk P O) (h' :OracleOk P O'):OracleOk P (Oracle.or O O'):=by
 have k:∀c args mem r,Oracle.or O O' c args mem=some r→O c args mem=some r∨O' c args mem=some r:=fun c args mem r hr=>by
  unfold Oracle.or at hr;split at hr
  ·rename_i q hq
   cases hr;exact .inl hq
  ·exact .inr hr
 refine⟨fun f args mem r hr=>?_,fun f args mem r hr=>?_,fun c args mem r p hr hp=>?_⟩
 ·rcases k _ _ _ _ hr with h1 | h1
  ·exact h.fn _ _ _ _ h1
  ·exact h'.fn _ _ _ _ h1
 ·rcases k _ _ _ _ hr with h1 | h1
  ·exact h.yld _ _ _ _ h1
  ·exact h'.yld _ _ _ _ h1
 ·rcases k _ _ _ _ hr with h1 | h1
  ·exact h.pre _ _ _ _ _ h1 hp
  ·exact h'.pre _ _ _ _ _ h1 hp
theorem fC(a b c d e:AV):lB (aM Tryz.prog) 168 (.agg [a,b,c,d,e]) 0=some a:=by kernel_rfl
theorem fD(a b c d e:AV):lB (aM Tryz.prog) 168 (.agg [a,b,c,d,e]) 1=some b:=by kernel_rfl
theorem rM(sh:Sheet) (nm:List UInt8) (n:Z3) (o:Int) (s:Z3) (hm:nm∈bl) (hn:dO 99 n) (hz:gh n=false) (ho:o.natAbs≤1000) (hs:dO 99 s) (hd:DE s n=0):
  ACallsTo Tryz.prog 61 [shA sh,.agg (bm nm n o s)] [.cells false 2 (pC sh.P),.cells false 3 (tC sh.T)] (.int .i64 0) [.cells false 2 (pC sh.P),.cells false 3 (tC sh.T)]:=by
 have hG:aL Tryz.prog 61=some Tryz.f61:=by kernel_rfl
 obtain⟨os,hops⟩:∃os,aE Tryz.f61=os:=⟨_,rfl⟩
 have hbs:=br hops (ls:=[[0,1,3,0,15],[0,1,3,0,0,31,63]]) (by kernel_rfl);simp only[aE,bC,Tryz.f61,List.nil_append,List.append_nil,List.cons_append] at hops;subst hops;simp only[List.map_cons,List.map_nil,List.cons.injEq,and_true] at hbs;obtain⟨hb0,hb1⟩:=hbs;have a0:aN [0,1,3,0,15] 4=true:=by decide
 have a1:aN [0,1,3,0,0,31,63] 6=true:=by decide
 obtain⟨ev,hev⟩:∃ev,ev=bm nm n o s:=⟨_,rfl⟩
 have hO1:OracleOk Tryz.prog (af (bG (iU nm ev))):=cF fun e he M=>by
  simp only[iU,List.mem_cons,List.not_mem_nil,or_false] at he;subst hev;rcases he with rfl | rfl | rfl
  ·exact cL nm hm M
  ·exact xG nm n o s M
  ·exact xC nm n o s M
 have hO2:OracleOk Tryz.prog (dR (iV sh nm ev)):=er fun e he=>by
  simp only[iV,List.mem_cons,List.not_mem_nil,or_false] at he;subst hev;rcases he with rfl | rfl | rfl
  ·exact⟨by simpa [CallRes.mem,shA] using du sh (fB sh (bm nm n o s)) 0 1 false false rfl rfl,by simp⟩
  ·exact⟨by simpa [CallRes.mem] using tx sh nm n o s,by simp[fB]⟩
  ·exact⟨by simpa [CallRes.mem,shA] using BP nm n o s hn hz ho hs hd _ _ _,by simp⟩
 have hO:=OracleOk.or' hO1 hO2;obtain⟨O,hOO⟩:∃O,O=Oracle.or (af (bG (iU nm ev))) (dR (iV sh nm ev)):=⟨_,rfl⟩
 rw[←hOO] at hO;have h:aa (aM Tryz.prog) (fun _=>[]) (aL Tryz.prog) O 1 61 [shA sh,.agg (bm nm n o s)] [.cells false 2 (pC sh.P),.cells false 3 (tC sh.T)]=some ⟨.int .i64 0,some [.cells false 2 (pC sh.P),.cells false 3 (tC sh.T)],[]⟩:=by rw[hOO,hev];simp[ca,-aD,ai hb0,ai hb1,bc,aW,a8,a0,a1,Nat.testBit,-lB,fC,fD,aa,hG,Tryz.f61,Oracle.or,af,bG,dR,iU,iV,shA,fB,cD,bm,bO,aH,dK,dT,fz,gG,zo,zK]
 have:=(al ae (aw _) hO (az _) h).1;simpa [CallRes.mem] using this
theorem vI(sh:Sheet) (nm:List UInt8) (n:Z3) (o w:Int) (u:List UInt8):
  ACallsTo Tryz.prog 199 [.agg (db nm n o w u),.ptr 4 0] (fB sh (db nm n o w u)++[.cells true 0 (cD 4 nm)]) (.tuple []) (fB sh (db nm n o w u)++[.cells true 0 (db nm n o w u)]):=by
 have hG:aL Tryz.prog 199=some Tryz.f199:=by kernel_rfl
 have h:aa (aM Tryz.prog) (fun _=>[]) (aL Tryz.prog) bJ 1 199 [.agg (db nm n o w u),.ptr 4 0] (fB sh (db nm n o w u)++[.cells true 0 (cD 4 nm)])=some ⟨.tuple [],some (fB sh (db nm n o w u)++[.cells true 0 (db nm n o w u)]),[]⟩:=by simp[aa,hG,Tryz.f199,fB,cD,db,dK,dT,fz,gG]
 have:=(al ae (aw _) (ao _) (az _) h).1;simpa [CallRes.mem] using this
noncomputable def kf(nm:List UInt8) (ev:List AV):List (FuncId×List AV×AV):=[
 (109,[.str nm],.int .i64 0),
 (77,[.agg ev],.agg [.func 199 [],.func 200 [],.func 201 [],.func 202 [],.func 203 []]),
 (110,[.agg ev,.agg ev],.bool true)]
noncomputable def ko(sh:Sheet) (nm:List UInt8) (ev:List AV):List (FuncId×List AV×Mem×CallRes):=[
 (59,[shA sh],fB sh ev,⟨.int .i64 0,none,[]⟩),
 (199,[.agg ev,.ptr 4 0],fB sh ev++[.cells true 0 (cD 4 nm)],⟨.tuple [],some (fB sh ev++[.cells true 0 ev]),[]⟩),
 (200,[shA sh,.agg ev],fB sh ev++[.cells true 0 ev],⟨.int .i64 0,none,[]⟩)]
theorem tG(sh:Sheet) (nm:List UInt8) (n:Z3) (o w:Int) (u:List UInt8) (hm:nm∈bl) (hn:dO 99 n) (hz:gh n=false) (ho:o.natAbs≤1000) (hw:0<w) (hw2:w<1000) (hu:u∈bl):
  ACallsTo Tryz.prog 61 [shA sh,.agg (db nm n o w u)] [.cells false 2 (pC sh.P),.cells false 3 (tC sh.T)] (.int .i64 0) [.cells false 2 (pC sh.P),.cells false 3 (tC sh.T)]:=by
 have hG:aL Tryz.prog 61=some Tryz.f61:=by kernel_rfl
 obtain⟨os,hops⟩:∃os,aE Tryz.f61=os:=⟨_,rfl⟩
 have hbs:=br hops (ls:=[[0,1,3,0,15],[0,1,3,0,0,31,63]]) (by kernel_rfl);simp only[aE,bC,Tryz.f61,List.nil_append,List.append_nil,List.cons_append] at hops;subst hops;simp only[List.map_cons,List.map_nil,List.cons.injEq,and_true] at hbs;obtain⟨hb0,hb1⟩:=hbs;have a0:aN [0,1,3,0,15] 4=true:=by decide
 have a1:aN [0,1,3,0,0,31,63] 6=true:=by decide
 obtain⟨ev,hev⟩:∃ev,ev=db nm n o w u:=⟨_,rfl⟩
 have hO1:OracleOk Tryz.prog (af (bG (kf nm ev))):=cF fun e he M=>by
  simp only[kf,List.mem_cons,List.not_mem_nil,or_false] at he;subst hev;rcases he with rfl | rfl | rfl
  ·exact cL nm hm M
  ·exact zY nm n o w u M
  ·exact zU nm n o w u M
 have hO2:OracleOk Tryz.prog (dR (ko sh nm ev)):=er fun e he=>by
  simp only[ko,List.mem_cons,List.not_mem_nil,or_false] at he;subst hev;rcases he with rfl | rfl | rfl
  ·exact⟨by simpa [CallRes.mem,shA] using du sh (fB sh (db nm n o w u)) 0 1 false false rfl rfl,by simp⟩
  ·exact⟨by simpa [CallRes.mem] using vI sh nm n o w u,by simp[fB]⟩
  ·exact⟨by simpa [CallRes.mem,shA] using DO nm n o w u hn hz ho hw hw2 hu _ _ _,by simp⟩
 have hO:=OracleOk.or' hO1 hO2;obtain⟨O,hOO⟩:∃O,O=Oracle.or (af (bG (kf nm ev))) (dR (ko sh nm ev)):=⟨_,rfl⟩
 rw[←hOO] at hO;have h:aa (aM Tryz.prog) (fun _=>[]) (aL Tryz.prog) O 1 61 [shA sh,.agg (db nm n o w u)] [.cells false 2 (pC sh.P),.cells false 3 (tC sh.T)]=some ⟨.int .i64 0,some [.cells false 2 (pC sh.P),.cells false 3 (tC sh.T)],[]⟩:=by rw[hOO,hev];simp[ca,-aD,ai hb0,ai hb1,bc,aW,a8,a0,a1,Nat.testBit,-lB,fC,fD,aa,hG,Tryz.f61,Oracle.or,af,bG,dR,kf,ko,shA,fB,cD,db,bO,aH,dK,dT,fz,gG,zo,zK]
 have:=(al ae (aw _) hO (az _) h).1;simpa [CallRes.mem] using this
theorem vK(sh:Sheet) (nm:List UInt8) (i:Nat) (c:Z3):
  ACallsTo Tryz.prog 204 [.agg (cx nm (bn i) c),.ptr 4 0] (fB sh (cx nm (bn i) c)++[.cells true 0 (cD 5 nm)]) (.tuple []) (fB sh (cx nm (bn i) c)++[.cells true 0 (cx nm (bn i) c)]):=by
 have hG:aL Tryz.prog 204=some Tryz.f204:=by kernel_rfl
 have h:aa (aM Tryz.prog) (fun _=>[]) (aL Tryz.prog) bJ 1 204 [.agg (cx nm (bn i) c),.ptr 4 0] (fB sh (cx nm (bn i) c)++[.cells true 0 (cD 5 nm)])=some ⟨.tuple [],some (fB sh (cx nm (bn i) c)++[.cells true 0 (cx nm (bn i) c)]),[]⟩:=by simp[aa,hG,Tryz.f204,fB,cD,cx,dK,dT,fz,gG]
 have:=(al ae (aw _) (ao _) (az _) h).1;simpa [CallRes.mem] using this
noncomputable def kg(nm:List UInt8) (ev:List AV):List (FuncId×List AV×AV):=[
 (109,[.str nm],.int .i64 0),
 (77,[.agg ev],.agg [.func 204 [],.func 205 [],.func 206 [],.func 207 [],.func 208 []]),
 (110,[.agg ev,.agg ev],.bool true)]
noncomputable def kq(sh:Sheet) (nm:List UInt8) (ev:List AV):List (FuncId×List AV×Mem×CallRes):=[
 (59,[shA sh],fB sh ev,⟨.int .i64 0,none,[]⟩),
 (204,[.agg ev,.ptr 4 0],fB sh ev++[.cells true 0 (cD 5 nm)],⟨.tuple [],some (fB sh ev++[.cells true 0 ev]),[]⟩),
 (205,[shA sh,.agg ev],fB sh ev++[.cells true 0 ev],⟨.int .i64 0,none,[]⟩)]
theorem tI(sh:Sheet) (nm:List UInt8) (i:Nat) (c:Z3) (hm:nm∈bl) (hc:dO 99 c):
  ACallsTo Tryz.prog 61 [shA sh,.agg (cx nm (bn i) c)] [.cells false 2 (pC sh.P),.cells false 3 (tC sh.T)] (.int .i64 0) [.cells false 2 (pC sh.P),.cells false 3 (tC sh.T)]:=by
 have hG:aL Tryz.prog 61=some Tryz.f61:=by kernel_rfl
 obtain⟨os,hops⟩:∃os,aE Tryz.f61=os:=⟨_,rfl⟩
 have hbs:=br hops (ls:=[[0,1,3,0,15],[0,1,3,0,0,31,63]]) (by kernel_rfl);simp only[aE,bC,Tryz.f61,List.nil_append,List.append_nil,List.cons_append] at hops;subst hops;simp only[List.map_cons,List.map_nil,List.cons.injEq,and_true] at hbs;obtain⟨hb0,hb1⟩:=hbs;have a0:aN [0,1,3,0,15] 4=true:=by decide
 have a1:aN [0,1,3,0,0,31,63] 6=true:=by decide
 obtain⟨ev,hev⟩:∃ev,ev=cx nm (bn i) c:=⟨_,rfl⟩
 have hO1:OracleOk Tryz.prog (af (bG (kg nm ev))):=cF fun e he M=>by
  simp only[kg,List.mem_cons,List.not_mem_nil,or_false] at he;subst hev;rcases he with rfl | rfl | rfl
  ·exact cL nm hm M
  ·exact zZ nm (bn i) c M
  ·exact zX nm (bn i) c M
 have hO2:OracleOk Tryz.prog (dR (kq sh nm ev)):=er fun e he=>by
  simp only[kq,List.mem_cons,List.not_mem_nil,or_false] at he;subst hev;rcases he with rfl | rfl | rfl
  ·exact⟨by simpa [CallRes.mem,shA] using du sh (fB sh (cx nm (bn i) c)) 0 1 false false rfl rfl,by simp⟩
  ·exact⟨by simpa [CallRes.mem] using vK sh nm i c,by simp[fB]⟩
  ·exact⟨by simpa [CallRes.mem,shA] using DQ nm i c hc _ _ _,by simp⟩
 have hO:=OracleOk.or' hO1 hO2;obtain⟨O,hOO⟩:∃O,O=Oracle.or (af (bG (kg nm ev))) (dR (kq sh nm ev)):=⟨_,rfl⟩
 rw[←hOO] at hO;have h:aa (aM Tryz.prog) (fun _=>[]) (aL Tryz.prog) O 1 61 [shA sh,.agg (cx nm (bn i) c)] [.cells false 2 (pC sh.P),.cells false 3 (tC sh.T)]=some ⟨.int .i64 0,some [.cells false 2 (pC sh.P),.cells false 3 (tC sh.T)],[]⟩:=by rw[hOO,hev];simp[ca,-aD,ai hb0,ai hb1,bc,aW,a8,a0,a1,Nat.testBit,-lB,fC,fD,aa,hG,Tryz.f61,Oracle.or,af,bG,dR,kg,kq,shA,fB,cD,cx,bO,aH,dK,dT,fz,gG,zo,zK]
 have:=(al ae (aw _) hO (az _) h).1;simpa [CallRes.mem] using this
end Go.Proofs
