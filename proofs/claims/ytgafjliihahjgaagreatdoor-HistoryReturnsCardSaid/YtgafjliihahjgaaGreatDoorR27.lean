/- See R54. -/
import Derived.Test.YtgafjliihahjgaaGreatDoorR26
set_option linter.all false
namespace Go.Proofs
open Go.Eng
open Tryz
def ux:adM:=ag fun f args=>match f,args with
 |127,[]=>some (.agg mY)
 |_,_=>none
theorem ir:kP prog ux:=bK fun f args v h mem=>by
 split at h
 ·cases h;exact FX mem
 ·cases h
theorem zv(nm:List UInt8)(n:Z3)(o:Int)(s:Z3)(M:Mem):kF prog 77 [.agg (cb nm n o s)] M (.agg ((mY.drop 5).take 5)) M:=by refine az ir (lv:=aa) (K:=6) rfl rfl ?_ M;as_aux_lemma=>kernel_rfl
theorem BR(nm:List UInt8)(n:Z3)(o w:Int)(u:List UInt8)(M:Mem):kF prog 77 [.agg (di nm n o w u)] M (.agg ((mY.drop 15).take 5)) M:=by refine az ir (lv:=aa) (K:=6) rfl rfl ?_ M;as_aux_lemma=>kernel_rfl
theorem BS(nm:List UInt8)(t:Int×Int×Int×Int)(c:Z3)(M:Mem):kF prog 77 [.agg (dB nm t c)] M (.agg ((mY.drop 20).take 5)) M:=by refine az ir (lv:=aa) (K:=6) rfl rfl ?_ M;as_aux_lemma=>kernel_rfl
def qS:adM:=ag fun f args=>match f,args with
 |166,[.kK,.kK]=>some (.bool true)
 |26,[.kK,.kK]=>some (.bool true)
 |167,[.kK,.kK]=>some (.bool true)
 |168,[.kK,.kK]=>some (.bool true)
 |_,_=>none
theorem iu:kP prog qS:=bK fun f args v h mem=>by
 split at h
 ·cases h;exact FY mem
 ·cases h;exact Gl mem
 ·cases h;exact Li mem
 ·cases h;exact F7 mem
 ·cases h
theorem zq(nm:List UInt8)(n:Z3)(o:Int)(s:Z3)(M:Mem):kF prog 110 [.agg (cb nm n o s),.agg (cb nm n o s)] M (.bool true) M:=
 iX iu rfl rfl rfl rfl
theorem BO(nm:List UInt8)(n:Z3)(o w:Int)(u:List UInt8)(M:Mem):kF prog 110 [.agg (di nm n o w u),.agg (di nm n o w u)] M (.bool true) M:=
 iX iu rfl rfl rfl rfl
theorem BQ(nm:List UInt8)(t:Int×Int×Int×Int)(c:Z3)(M:Mem):kF prog 110 [.agg (dB nm t c),.agg (dB nm t c)] M (.bool true) M:=
 iX iu rfl rfl rfl rfl
theorem LX(t u v w:Int)(h:(t,u,v,w)∈[bR 0,bR 1,bR 2,bR 3,bR 4,bR 5]):(uQ (aM prog) aa (aT prog) bq 8 6 (.fn 245) [.agg [.int .i64 t,.int .i64 u,.int .i64 v,.int .i64 w]] []).map (fun r=>(r.v,r.mem []))=some (.int .i64 0,[]++[]):=by simp only[List.mem_cons,List.not_mem_nil,or_false,bR,Prod.mk.injEq] at h;rcases h with⟨rfl,rfl,rfl,rfl⟩ | ⟨rfl,rfl,rfl,rfl⟩ | ⟨rfl,rfl,rfl,rfl⟩ | ⟨rfl,rfl,rfl,rfl⟩ | ⟨rfl,rfl,rfl,rfl⟩ | ⟨rfl,rfl,rfl,rfl⟩<;>(as_aux_lemma=>kernel_rfl)
theorem B5(i:Nat)(M:Mem):kF prog 245 [.agg [.int .i64 (bR i).1,.int .i64 (bR i).2.1,.int .i64 (bR i).2.2.1,.int .i64 (bR i).2.2.2]] M (.int .i64 0) M:=by
 refine kF.lift rfl rfl (du (new:=[]) ae (aq _) (au _) (ah _) (LX _ _ _ _ ?_)) M
 match i with
 |0 | 1 | 2 | 3 | 4 | n+5=>simp[bR]
open Classical in
noncomputable def cK:List (FuncId×List AV×AV)→FuncId→List AV→Option AV
 | [],_,_=>none
 |x::L,f,args=>if f=x.1∧args=x.2.1 then some x.2.2 else cK L f args
variable{P:Program}
theorem fa{L:List (FuncId×List AV×AV)}(h:∀x∈L,∀M,kF P x.1 x.2.1 M x.2.2 M):kP P (ag (cK L)):=bK fun f args v hv mem=>by
 induction L with
 |nil=>simp[cK] at hv
 |cons x L ih=>
  rw[cK] at hv;split at hv
  ·rename_i hc
   cases hv;rw[hc.1,hc.2];exact h x (by simp) mem
  ·exact ih (fun y hy=>h y (by simp[hy])) hv
noncomputable def nF(n:Z3) (o:Int) (s:Z3):List (FuncId×List AV×AV):=[
 (254,[.agg [.str (zS n.1),.str (zS n.2.1),.str (zS n.2.2),.str (zS o)]],.int .i64 0),
 (255,[zA s,zA n],.int .i64 0)]
theorem DS(nm:List UInt8)(n:Z3)(o:Int)(s:Z3)(hn:eS 99 n)(hz:ib n=false)(ho:o.natAbs≤1000)(hs:eS 99 s)(hd:AM s n=0)(x y:AV)(m:Mem):
  kF prog 191 [.agg [x,y],.agg (cb nm n o s)] m (.int .i64 0) m:=by
 have hG:aT prog 191=some f191:=by kernel_rfl
 have hO:kP prog (ag (cK (nF n o s))):=fa fun e he M=>by
  simp only[nF,List.mem_cons,List.not_mem_nil,or_false] at he;rcases he with rfl | rfl
  ·exact oC n o hn hz ho M
  ·exact zf s n hs hn hd M
 refine bB (K:=1) (lv:=fun _=>[]) hO ?_;simp[ad,hG,f191,ag,nF,cK,cb,zA]
noncomputable def lQ(t:Int×Int×Int×Int) (c:Z3):List (FuncId×List AV×AV):=[
 (245,[.agg [.int .i64 t.1,.int .i64 t.2.1,.int .i64 t.2.2.1,.int .i64 t.2.2.2]],.int .i64 0),
 (14,[zA c],.int .i64 0)]
theorem ui(c:Z3)(hc:eS 99 c)(M:Mem):kF prog 14 [zA c] M (.int .i64 0) M:=by have hE:=Vp hc;obtain⟨h1,h2,h3⟩:=hc;have s1:=fQ (n:=c.1) (by omega);have s2:=fQ (n:=c.2.1) (by omega);have s3:=fQ (n:=c.2.2) (by omega);have:=lO (zS c.1) (zS c.2.1) (zS c.2.2) (by unfold zS;omega) (by unfold zS;omega) (by unfold zS;omega) M;rw[hE] at this;exact this
theorem FT(nm:List UInt8)(i:Nat)(c:Z3)(hc:eS 99 c)(x y:AV)(m:Mem):
  kF prog 205 [.agg [x,y],.agg (dB nm (bR i) c)] m (.int .i64 0) m:=by
 have hG:aT prog 205=some f205:=by kernel_rfl
 have hO:kP prog (ag (cK (lQ (bR i) c))):=fa fun e he M=>by
  simp only[lQ,List.mem_cons,List.not_mem_nil,or_false] at he;rcases he with rfl | rfl
  ·exact B5 i M
  ·exact ui c hc M
 obtain⟨t,ht⟩:∃t,t=bR i:=⟨_,rfl⟩
 rw[←ht] at hO ⊢;have h:ad (aM prog) (fun _=>[]) (aT prog) (ag (cK (lQ t c))) 1 205 [.agg [x,y],.agg (dB nm t c)] m=some ⟨.int .i64 0,none,[]⟩:=by simp[ad,hG,f205,ag,lQ,cK,dB,zA]
 have:=(ak ae (aq _) hO (au _) h).1;simpa [HS.mem] using this
noncomputable def po(n:Z3) (o w:Int) (u:List UInt8):List (FuncId×List AV×AV):=[
 (254,[.agg [.str (zS n.1),.str (zS n.2.1),.str (zS n.2.2),.str (zS o)]],.int .i64 0),
 (55,[.str (aw (hQ w))],.int .i64 0),
 (89,[.str (aw (hQ w))],.int .i64 1),
 (109,[.str u],.int .i64 0)]
theorem WM{w:Int}(h:0<w):0<hQ w:=by
 rw[xq];have:(0:Rat)<(w:Rat):=by exact_mod_cast h
 grind
theorem FQ(nm:List UInt8)(n:Z3)(o w:Int)(u:List UInt8)(hn:eS 99 n)(hz:ib n=false)(ho:o.natAbs≤1000)(hw:0<w)(hw2:w<1000)(hu:u∈bC)(x y:AV)(m:Mem):
  kF prog 200 [.agg [x,y],.agg (di nm n o w u)] m (.int .i64 0) m:=by
 have hG:aT prog 200=some f200:=by kernel_rfl
 have hl:=AT (z:=w) (by omega);have hO:kP prog (ag (cK (po n o w u))):=fa fun e he M=>by
  simp only[po,List.mem_cons,List.not_mem_nil,or_false] at he;rcases he with rfl | rfl | rfl | rfl
  ·exact oC n o hn hz ho M
  ·have:=o6 (aw (hQ w)) (by omega) M
   rw[tG ((R6 (z:=w) (by omega)).mono (by omega) (by omega))] at this;exact this
  ·have:=zG (hQ w) M
   have hp:=WM hw;rw[show mP (hQ w)=1 by
    have h1:0<(hQ w).num:=Rat.intCast_pos.mp hp;have h2:¬(hQ w).num<0:=by omega
    have h3:¬(hQ w).num=0:=by omega
    simp[mP,mw,h2,h3]] at this
   exact this
  ·exact dj u hu M
 refine bB (K:=1) (lv:=fun _=>[]) hO ?_;simp[ad,hG,f200,ag,po,cK,di]
theorem dR(s:aeE)(M:Mem)(b c:Nat)(o o' :Bool)(hb:M[b]? =some (.cells o 2 (pC s.P)))(hc:M[c]? =some (.cells o' 3 (tC s.T))):
  kF prog 59 [.agg [.slice b 0 s.P.length none,.slice c 0 s.T.length none]] M (.int .i64 0) M:=by
 have A':=(gL hb);have X5 :=(gL hc);have:=kF.frame (M:=M) (new:=[]) [b,c] rfl (by simp[A',X5]) (by rfl) (fun i t hs=>by
  match i with
  |0=>simp at hs;subst hs;exact bL (dQ _) hb List.take_length
  |1=>simp at hs;subst hs;exact bL (fJ _) hc List.take_length
  |i+2=>simp at hs) rfl (D3 s)
 simpa [AV.aeM,AV.ren,aF] using this
open Classical in
noncomputable def fM:List (FuncId×List AV×Mem×HS)→adM
 | [],_,_,_=>none
 |x::L,c,args,M=>if c=.fn x.1∧args=x.2.1∧M=x.2.2.1 then some x.2.2.2 else fM L c args M
theorem iO{L:List (FuncId×List AV×Mem×HS)}(h:∀x∈L,kF P x.1 x.2.1 x.2.2.1 x.2.2.2.v (x.2.2.2.mem x.2.2.1)∧∀p,x.2.2.2.pre=some p→p.length=x.2.2.1.length):kP P (fM L):=by
 have k:∀c args M r,fM L c args M=some r→∃x∈L,c=.fn x.1∧args=x.2.1∧M=x.2.2.1∧r=x.2.2.2:=by
  clear h;intro c args M r hr;induction L with
  |nil=>simp[fM] at hr
  |cons x L ih=>
   rw[fM] at hr;split at hr
   ·rename_i hc
    cases hr;exact⟨x,by simp,hc.1,hc.2.1,hc.2.2,rfl⟩
   ·obtain⟨y,hy,h1⟩:=ih hr
    exact⟨y,by simp[hy],h1⟩
 refine⟨fun f args M r hr=>?_,fun b args M r hr=>?_,fun c args M r p hr hp=>?_⟩
 ·obtain⟨x,hx,h1,rfl,rfl,rfl⟩:=k _ _ _ _ hr
  cases h1;exact(h x hx).1
 ·obtain⟨x,hx,h1,_⟩:=k _ _ _ _ hr
  cases h1
 ·obtain⟨x,hx,h1,rfl,rfl,rfl⟩:=k _ _ _ _ hr
  exact(h x hx).2 p hp
def gp(s:aeE) (ev:List AV):Mem:=[.cells false 2 (pC s.P),.cells false 3 (tC s.T),.cells true 0 [.slice 0 0 s.P.length none,.slice 1 0 s.T.length none],.cells true 0 ev]
def cS(k:Int) (nm:List UInt8):List AV:=[.int .i64 k,.str nm,.kK,.kK,.kK,.str [],.str [],.str [],.str [],.str [],.str [],.str [],.str [],.str [],.str [],.kK,.str [],.str [],.str [],.str [],.str [],.str [],.str [],.str [],.str [],.int .i64 0,.int .i64 0,.int .i64 0,.int .i64 0,.str [],.str [],.str []]
theorem vz(sh:aeE)(nm:List UInt8)(n:Z3)(o:Int)(s:Z3):
  kF prog 190 [.agg (cb nm n o s),.ptr 4 0] (gp sh (cb nm n o s)++[.cells true 0 (cS 2 nm)]) (.tuple []) (gp sh (cb nm n o s)++[.cells true 0 (cb nm n o s)]):=by
 have hG:aT prog 190=some f190:=by kernel_rfl
 have h:ad (aM prog) (fun _=>[]) (aT prog) bq 1 190 [.agg (cb nm n o s),.ptr 4 0] (gp sh (cb nm n o s)++[.cells true 0 (cS 2 nm)])=some ⟨.tuple [],some (gp sh (cb nm n o s)++[.cells true 0 (cb nm n o s)]),[]⟩:=by simp[ad,hG,f190,gp,cS,cb,dV,eO,gA,iS]
 have:=(ak ae (aq _) (ah _) (au _) h).1;simpa [HS.mem] using this
noncomputable def jS(nm:List UInt8) (ev:List AV):List (FuncId×List AV×AV):=[
 (109,[.str nm],.int .i64 0),
 (77,[.agg ev],.agg [.func 190 [],.func 191 [],.func 192 [],.func 69 [],.func 193 []]),
 (110,[.agg ev,.agg ev],.bool true)]
def shA(s:aeE):AV:=.agg [.slice 0 0 s.P.length none,.slice 1 0 s.T.length none]
noncomputable def jT(sh:aeE) (nm:List UInt8) (ev:List AV):List (FuncId×List AV×Mem×HS):=[
 (59,[shA sh],gp sh ev,⟨.int .i64 0,none,[]⟩),
 (190,[.agg ev,.ptr 4 0],gp sh ev++[.cells true 0 (cS 2 nm)],⟨.tuple [],some (gp sh ev++[.cells true 0 ev]),[]⟩),
 (191,[shA sh,.agg ev],gp sh ev++[.cells true 0 ev],⟨.int .i64 0,none,[]⟩)]
theorem kP.or'{O O' :adM}(h:kP P O)(h' :kP P O'):kP P (adM.or O O'):=by
 have k:∀c args mem r,adM.or O O' c args mem=some r→O c args mem=some r∨O' c args mem=some r:=fun c args mem r hr=>by
  unfold adM.or at hr;split at hr
  ·rename_i q hq
   cases hr;exact .inl hq
  ·exact .inr hr
 refine⟨fun f args mem r hr=>?_,fun f args mem r hr=>?_,fun c args mem r p hr hp=>?_⟩
 ·rcases k _ _ _ _ hr with h1 | h1
  ·exact h.fn _ _ _ _ h1
  ·exact h'.fn _ _ _ _ h1
 ·rcases k _ _ _ _ hr with h1 | h1
  ·exact h.yld _ _ _ _ h1
  ·exact h'.yld _ _ _ _ h1
 ·rcases k _ _ _ _ hr with h1 | h1
  ·exact h.pre _ _ _ _ _ h1 hp
  ·exact h'.pre _ _ _ _ _ h1 hp
theorem gr(a b c d e:AV):nb (aM prog) 168 (.agg [a,b,c,d,e]) 0=some a:=by kernel_rfl
theorem gu(a b c d e:AV):nb (aM prog) 168 (.agg [a,b,c,d,e]) 1=some b:=by kernel_rfl
theorem agv:aT prog 61=some f61:=by kernel_rfl
theorem agw:aX [0,1,3,0,15] 4=true:=by decide
theorem agx:aX [0,1,3,0,0,31,63] 6=true:=by decide
def agy:=bj (rfl:aG f61=_) (ls:=[[0,1,3,0,15],[0,1,3,0,0,31,63]]) (by kernel_rfl)
theorem ue(sh:aeE)(nm:List UInt8)(n:Z3)(o:Int)(s:Z3)(hm:nm∈bC)(hn:eS 99 n)(hz:ib n=false)(ho:o.natAbs≤1000)(hs:eS 99 s)(hd:AM s n=0):
  kF prog 61 [shA sh,.agg (cb nm n o s)] [.cells false 2 (pC sh.P),.cells false 3 (tC sh.T)] (.int .i64 0) [.cells false 2 (pC sh.P),.cells false 3 (tC sh.T)]:=by
 have IR:=agy;simp only[aG,bF,f61,List.nil_append,List.append_nil,List.cons_append,List.map_cons,List.map_nil,List.cons.injEq,and_true] at IR;obtain⟨XY,hb1⟩:=IR;obtain⟨ev,X9⟩:∃ev,ev=cb nm n o s:=⟨_,rfl⟩
 have YC:kP prog (ag (cK (jS nm ev))):=fa fun e he M=>by
  simp only[jS,List.mem_cons,List.not_mem_nil,or_false] at he;subst X9;rcases he with rfl | rfl | rfl
  ·exact dj nm hm M
  ·exact zv nm n o s M
  ·exact zq nm n o s M
 have Yn:kP prog (fM (jT sh nm ev)):=iO fun e he=>by
  simp only[jT,List.mem_cons,List.not_mem_nil,or_false] at he;subst X9;rcases he with rfl | rfl | rfl
  ·exact⟨by simpa [HS.mem,shA] using dR sh (gp sh (cb nm n o s)) 0 1 false false rfl rfl,by simp⟩
  ·exact⟨by simpa [HS.mem] using vz sh nm n o s,by simp[gp]⟩
  ·exact⟨by simpa [HS.mem,shA] using DS nm n o s hn hz ho hs hd _ _ _,by simp⟩
 have hO:=kP.or' YC Yn;obtain⟨O,hOO⟩:∃O,O=adM.or (ag (cK (jS nm ev))) (fM (jT sh nm ev)):=⟨_,rfl⟩
 rw[←hOO] at hO;have h:ad (aM prog) (fun _=>[]) (aT prog) O 1 61 [shA sh,.agg (cb nm n o s)] [.cells false 2 (pC sh.P),.cells false 3 (tC sh.T)]=some ⟨.int .i64 0,some [.cells false 2 (pC sh.P),.cells false 3 (tC sh.T)],[]⟩:=by rw[hOO,X9];simp[cz,-aE,aj XY,aj hb1,bn,bf,bm,agw,agx,Nat.testBit,-nb,gr,gu,ad,agv,f61,adM.or,ag,cK,fM,jS,jT,shA,gp,cS,cb,cM,aR,dV,eO,gA,iS,Bk,wW]
 have:=(ak ae (aq _) hO (au _) h).1;simpa [HS.mem] using this
theorem xR(sh:aeE)(nm:List UInt8)(n:Z3)(o w:Int)(u:List UInt8):
  kF prog 199 [.agg (di nm n o w u),.ptr 4 0] (gp sh (di nm n o w u)++[.cells true 0 (cS 4 nm)]) (.tuple []) (gp sh (di nm n o w u)++[.cells true 0 (di nm n o w u)]):=by
 have hG:aT prog 199=some f199:=by kernel_rfl
 have h:ad (aM prog) (fun _=>[]) (aT prog) bq 1 199 [.agg (di nm n o w u),.ptr 4 0] (gp sh (di nm n o w u)++[.cells true 0 (cS 4 nm)])=some ⟨.tuple [],some (gp sh (di nm n o w u)++[.cells true 0 (di nm n o w u)]),[]⟩:=by simp[ad,hG,f199,gp,cS,di,dV,eO,gA,iS]
 have:=(ak ae (aq _) (ah _) (au _) h).1;simpa [HS.mem] using this
noncomputable def lS(nm:List UInt8) (ev:List AV):List (FuncId×List AV×AV):=[
 (109,[.str nm],.int .i64 0),
 (77,[.agg ev],.agg [.func 199 [],.func 200 [],.func 201 [],.func 202 [],.func 203 []]),
 (110,[.agg ev,.agg ev],.bool true)]
noncomputable def lY(sh:aeE) (nm:List UInt8) (ev:List AV):List (FuncId×List AV×Mem×HS):=[
 (59,[shA sh],gp sh ev,⟨.int .i64 0,none,[]⟩),
 (199,[.agg ev,.ptr 4 0],gp sh ev++[.cells true 0 (cS 4 nm)],⟨.tuple [],some (gp sh ev++[.cells true 0 ev]),[]⟩),
 (200,[shA sh,.agg ev],gp sh ev++[.cells true 0 ev],⟨.int .i64 0,none,[]⟩)]
theorem vH(sh:aeE)(nm:List UInt8)(n:Z3)(o w:Int)(u:List UInt8)(hm:nm∈bC)(hn:eS 99 n)(hz:ib n=false)(ho:o.natAbs≤1000)(hw:0<w)(hw2:w<1000)(hu:u∈bC):
  kF prog 61 [shA sh,.agg (di nm n o w u)] [.cells false 2 (pC sh.P),.cells false 3 (tC sh.T)] (.int .i64 0) [.cells false 2 (pC sh.P),.cells false 3 (tC sh.T)]:=by
 have IR:=agy;simp only[aG,bF,f61,List.nil_append,List.append_nil,List.cons_append,List.map_cons,List.map_nil,List.cons.injEq,and_true] at IR;obtain⟨XY,hb1⟩:=IR;obtain⟨ev,X9⟩:∃ev,ev=di nm n o w u:=⟨_,rfl⟩
 have YC:kP prog (ag (cK (lS nm ev))):=fa fun e he M=>by
  simp only[lS,List.mem_cons,List.not_mem_nil,or_false] at he;subst X9;rcases he with rfl | rfl | rfl
  ·exact dj nm hm M
  ·exact BR nm n o w u M
  ·exact BO nm n o w u M
 have Yn:kP prog (fM (lY sh nm ev)):=iO fun e he=>by
  simp only[lY,List.mem_cons,List.not_mem_nil,or_false] at he;subst X9;rcases he with rfl | rfl | rfl
  ·exact⟨by simpa [HS.mem,shA] using dR sh (gp sh (di nm n o w u)) 0 1 false false rfl rfl,by simp⟩
  ·exact⟨by simpa [HS.mem] using xR sh nm n o w u,by simp[gp]⟩
  ·exact⟨by simpa [HS.mem,shA] using FQ nm n o w u hn hz ho hw hw2 hu _ _ _,by simp⟩
 have hO:=kP.or' YC Yn;obtain⟨O,hOO⟩:∃O,O=adM.or (ag (cK (lS nm ev))) (fM (lY sh nm ev)):=⟨_,rfl⟩
 rw[←hOO] at hO;have h:ad (aM prog) (fun _=>[]) (aT prog) O 1 61 [shA sh,.agg (di nm n o w u)] [.cells false 2 (pC sh.P),.cells false 3 (tC sh.T)]=some ⟨.int .i64 0,some [.cells false 2 (pC sh.P),.cells false 3 (tC sh.T)],[]⟩:=by rw[hOO,X9];simp[cz,-aE,aj XY,aj hb1,bn,bf,bm,agw,agx,Nat.testBit,-nb,gr,gu,ad,agv,f61,adM.or,ag,cK,fM,lS,lY,shA,gp,cS,di,cM,aR,dV,eO,gA,iS,Bk,wW]
 have:=(ak ae (aq _) hO (au _) h).1;simpa [HS.mem] using this
theorem xT(sh:aeE)(nm:List UInt8)(i:Nat)(c:Z3):
  kF prog 204 [.agg (dB nm (bR i) c),.ptr 4 0] (gp sh (dB nm (bR i) c)++[.cells true 0 (cS 5 nm)]) (.tuple []) (gp sh (dB nm (bR i) c)++[.cells true 0 (dB nm (bR i) c)]):=by
 have hG:aT prog 204=some f204:=by kernel_rfl
 have h:ad (aM prog) (fun _=>[]) (aT prog) bq 1 204 [.agg (dB nm (bR i) c),.ptr 4 0] (gp sh (dB nm (bR i) c)++[.cells true 0 (cS 5 nm)])=some ⟨.tuple [],some (gp sh (dB nm (bR i) c)++[.cells true 0 (dB nm (bR i) c)]),[]⟩:=by simp[ad,hG,f204,gp,cS,dB,dV,eO,gA,iS]
 have:=(ak ae (aq _) (ah _) (au _) h).1;simpa [HS.mem] using this
noncomputable def lU(nm:List UInt8) (ev:List AV):List (FuncId×List AV×AV):=[
 (109,[.str nm],.int .i64 0),
 (77,[.agg ev],.agg [.func 204 [],.func 205 [],.func 206 [],.func 207 [],.func 208 []]),
 (110,[.agg ev,.agg ev],.bool true)]
noncomputable def mc(sh:aeE) (nm:List UInt8) (ev:List AV):List (FuncId×List AV×Mem×HS):=[
 (59,[shA sh],gp sh ev,⟨.int .i64 0,none,[]⟩),
 (204,[.agg ev,.ptr 4 0],gp sh ev++[.cells true 0 (cS 5 nm)],⟨.tuple [],some (gp sh ev++[.cells true 0 ev]),[]⟩),
 (205,[shA sh,.agg ev],gp sh ev++[.cells true 0 ev],⟨.int .i64 0,none,[]⟩)]
theorem vJ(sh:aeE)(nm:List UInt8)(i:Nat)(c:Z3)(hm:nm∈bC)(hc:eS 99 c):
  kF prog 61 [shA sh,.agg (dB nm (bR i) c)] [.cells false 2 (pC sh.P),.cells false 3 (tC sh.T)] (.int .i64 0) [.cells false 2 (pC sh.P),.cells false 3 (tC sh.T)]:=by
 have IR:=agy;simp only[aG,bF,f61,List.nil_append,List.append_nil,List.cons_append,List.map_cons,List.map_nil,List.cons.injEq,and_true] at IR;obtain⟨XY,hb1⟩:=IR;obtain⟨ev,X9⟩:∃ev,ev=dB nm (bR i) c:=⟨_,rfl⟩
 have YC:kP prog (ag (cK (lU nm ev))):=fa fun e he M=>by
  simp only[lU,List.mem_cons,List.not_mem_nil,or_false] at he;subst X9;rcases he with rfl | rfl | rfl
  ·exact dj nm hm M
  ·exact BS nm (bR i) c M
  ·exact BQ nm (bR i) c M
 have Yn:kP prog (fM (mc sh nm ev)):=iO fun e he=>by
  simp only[mc,List.mem_cons,List.not_mem_nil,or_false] at he;subst X9;rcases he with rfl | rfl | rfl
  ·exact⟨by simpa [HS.mem,shA] using dR sh (gp sh (dB nm (bR i) c)) 0 1 false false rfl rfl,by simp⟩
  ·exact⟨by simpa [HS.mem] using xT sh nm i c,by simp[gp]⟩
  ·exact⟨by simpa [HS.mem,shA] using FT nm i c hc _ _ _,by simp⟩
 have hO:=kP.or' YC Yn;obtain⟨O,hOO⟩:∃O,O=adM.or (ag (cK (lU nm ev))) (fM (mc sh nm ev)):=⟨_,rfl⟩
 rw[←hOO] at hO;have h:ad (aM prog) (fun _=>[]) (aT prog) O 1 61 [shA sh,.agg (dB nm (bR i) c)] [.cells false 2 (pC sh.P),.cells false 3 (tC sh.T)]=some ⟨.int .i64 0,some [.cells false 2 (pC sh.P),.cells false 3 (tC sh.T)],[]⟩:=by rw[hOO,X9];simp[cz,-aE,aj XY,aj hb1,bn,bf,bm,agw,agx,Nat.testBit,-nb,gr,gu,ad,agv,f61,adM.or,ag,cK,fM,lU,mc,shA,gp,cS,dB,cM,aR,dV,eO,gA,iS,Bk,wW]
 have:=(ak ae (aq _) hO (au _) h).1;simpa [HS.mem] using this
end Go.Proofs
