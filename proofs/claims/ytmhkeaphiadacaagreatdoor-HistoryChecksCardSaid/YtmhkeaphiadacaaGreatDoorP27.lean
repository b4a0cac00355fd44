/- See P53. -/
import Derived.Test.YtmhkeaphiadacaaGreatDoorP26
set_option linter.all false
namespace Go.Proofs
open Go.Eng
open Tryz
def og:aac:=ar fun f args=>match f,args with
 |112,[]=>some (.agg jQ)
 |_,_=>none
theorem gp:qS prog og:=bZ fun f args v h mem=>by
 split at h
 ·cases h;exact Gd mem
 ·cases h
theorem zN(nm:List UInt8)(n:Z3)(o:Int)(s:Z3)(M:Mem):mB prog 81 [.agg (cX nm n o s)] M (.agg ((jQ.drop 5).take 5)) M:=by refine aB gp (lv:=ab) (K:=6) rfl rfl ?_ M;as_aux_lemma=>kernel_rfl
theorem BO(nm:List UInt8)(n:Z3)(o w:Int)(u:List UInt8)(M:Mem):mB prog 81 [.agg (dG nm n o w u)] M (.agg ((jQ.drop 15).take 5)) M:=by refine aB gp (lv:=ab) (K:=6) rfl rfl ?_ M;as_aux_lemma=>kernel_rfl
theorem BP(nm:List UInt8)(t:Int×Int×Int×Int)(c:Z3)(M:Mem):mB prog 81 [.agg (dZ nm t c)] M (.agg ((jQ.drop 20).take 5)) M:=by refine aB gp (lv:=ab) (K:=6) rfl rfl ?_ M;as_aux_lemma=>kernel_rfl
def rH:aac:=ar fun f args=>match f,args with
 |82,[.kO,.kO]=>some (.bool true)
 |32,[.kO,.kO]=>some (.bool true)
 |83,[.kO,.kO]=>some (.bool true)
 |84,[.kO,.kO]=>some (.bool true)
 |_,_=>none
theorem eA:qS prog rH:=bZ fun f args v h mem=>by
 split at h
 ·cases h;exact Ge mem
 ·cases h;exact Gw mem
 ·cases h;exact LC mem
 ·cases h;exact Gh mem
 ·cases h
theorem zJ(nm:List UInt8)(n:Z3)(o:Int)(s:Z3)(M:Mem):mB prog 49 [.agg (cX nm n o s),.agg (cX nm n o s)] M (.bool true) M:=
 iW eA rfl rfl rfl rfl
theorem BK(nm:List UInt8)(n:Z3)(o w:Int)(u:List UInt8)(M:Mem):mB prog 49 [.agg (dG nm n o w u),.agg (dG nm n o w u)] M (.bool true) M:=
 iW eA rfl rfl rfl rfl
theorem BM(nm:List UInt8)(t:Int×Int×Int×Int)(c:Z3)(M:Mem):mB prog 49 [.agg (dZ nm t c),.agg (dZ nm t c)] M (.bool true) M:=
 iW eA rfl rfl rfl rfl
theorem MF(t u v w:Int)(h:(t,u,v,w)∈[fk 0,fk 1,fk 2,fk 3,fk 4,fk 5]):(ow (aC prog) ab (aO prog) bt 8 6 (.fn 212) [.agg [.int .i64 t,.int .i64 u,.int .i64 v,.int .i64 w]] []).map (fun r=>(r.v,r.mem []))=some (.int .i64 0,[]++[]):=by simp only[List.mem_cons,List.not_mem_nil,or_false,fk,Prod.mk.injEq] at h;rcases h with⟨rfl,rfl,rfl,rfl⟩ | ⟨rfl,rfl,rfl,rfl⟩ | ⟨rfl,rfl,rfl,rfl⟩ | ⟨rfl,rfl,rfl,rfl⟩ | ⟨rfl,rfl,rfl,rfl⟩ | ⟨rfl,rfl,rfl,rfl⟩<;>(as_aux_lemma=>kernel_rfl)
theorem BY(i:Nat)(M:Mem):mB prog 212 [.agg [.int .i64 (fk i).1,.int .i64 (fk i).2.1,.int .i64 (fk i).2.2.1,.int .i64 (fk i).2.2.2]] M (.int .i64 0) M:=by
 refine mB.lift rfl rfl (bU (new:=[]) af (aw _) (ax _) (ah _) (MF _ _ _ _ ?_)) M
 match i with
 |0 | 1 | 2 | 3 | 4 | n+5=>simp[fk]
open Classical in
noncomputable def de:List (FuncId×List AV×AV)→FuncId→List AV→Option AV
 | [],_,_=>none
 |x::L,f,args=>if f=x.1∧args=x.2.1 then some x.2.2 else de L f args
variable{P:Program}
theorem fJ{L:List (FuncId×List AV×AV)}(h:∀x∈L,∀M,mB P x.1 x.2.1 M x.2.2 M):qS P (ar (de L)):=bZ fun f args v hv mem=>by
 induction L with
 |nil=>simp[de] at hv
 |cons x L ih=>
  rw[de] at hv;split at hv
  ·rename_i hc
   cases hv;rw[hc.1,hc.2];exact h x (by simp) mem
  ·exact ih (fun y hy=>h y (by simp[hy])) hv
noncomputable def nD(n:Z3) (o:Int) (s:Z3):List (FuncId×List AV×AV):=[
 (208,[.agg [.str (zS n.1),.str (zS n.2.1),.str (zS n.2.2),.str (zS o)]],.int .i64 0),
 (209,[zA s,zA n],.int .i64 0)]
theorem DR(nm:List UInt8)(n:Z3)(o:Int)(s:Z3)(hn:gm 99 n)(hz:iS n=false)(ho:o.natAbs≤1000)(hs:gm 99 s)(hd:Ld s n=0)(x y:AV)(m:Mem):
  mB prog 155 [.agg [x,y],.agg (cX nm n o s)] m (.int .i64 0) m:=by
 have hG:aO prog 155=some f155:=by kernel_rfl
 have hO:qS prog (ar (de (nD n o s))):=fJ fun e he M=>by
  simp only[nD,List.mem_cons,List.not_mem_nil,or_false] at he;rcases he with rfl | rfl
  ·exact oV n o hn hz ho M
  ·exact zw s n hs hn hd M
 refine aY (K:=1) (lv:=fun _=>[]) hO ?_;simp[ad,hG,f155,ar,nD,de,cX,zA]
noncomputable def lE(t:Int×Int×Int×Int) (c:Z3):List (FuncId×List AV×AV):=[
 (212,[.agg [.int .i64 t.1,.int .i64 t.2.1,.int .i64 t.2.2.1,.int .i64 t.2.2.2]],.int .i64 0),
 (53,[zA c],.int .i64 0)]
theorem uy(c:Z3)(hc:gm 99 c)(M:Mem):mB prog 53 [zA c] M (.int .i64 0) M:=by have hE:=Ul hc;obtain⟨h1,h2,h3⟩:=hc;have s1:=fE (n:=c.1) (by omega);have s2:=fE (n:=c.2.1) (by omega);have s3:=fE (n:=c.2.2) (by omega);have:=xe (zS c.1) (zS c.2.1) (zS c.2.2) (by unfold zS;omega) (by unfold zS;omega) (by unfold zS;omega) M;rw[hE] at this;exact this
theorem F9(nm:List UInt8)(i:Nat)(c:Z3)(hc:gm 99 c)(x y:AV)(m:Mem):
  mB prog 170 [.agg [x,y],.agg (dZ nm (fk i) c)] m (.int .i64 0) m:=by
 have hG:aO prog 170=some f170:=by kernel_rfl
 have hO:qS prog (ar (de (lE (fk i) c))):=fJ fun e he M=>by
  simp only[lE,List.mem_cons,List.not_mem_nil,or_false] at he;rcases he with rfl | rfl
  ·exact BY i M
  ·exact uy c hc M
 obtain⟨t,ht⟩:∃t,t=fk i:=⟨_,rfl⟩
 rw[←ht] at hO ⊢;have h:ad (aC prog) (fun _=>[]) (aO prog) (ar (de (lE t c))) 1 170 [.agg [x,y],.agg (dZ nm t c)] m=some ⟨.int .i64 0,none,[]⟩:=by simp[ad,hG,f170,ar,lE,de,dZ,zA]
 have:=(au af (aw _) hO (ax _) h).1;simpa [HS.mem] using this
noncomputable def pM(n:Z3) (o w:Int) (u:List UInt8):List (FuncId×List AV×AV):=[
 (208,[.agg [.str (zS n.1),.str (zS n.2.1),.str (zS n.2.2),.str (zS o)]],.int .i64 0),
 (125,[.str (aN (hQ w))],.int .i64 0),
 (104,[.str (aN (hQ w))],.int .i64 1),
 (80,[.str u],.int .i64 0)]
theorem VB{w:Int}(h:0<w):0<hQ w:=by
 rw[xC];have:(0:Rat)<(w:Rat):=by exact_mod_cast h
 grind
theorem F7(nm:List UInt8)(n:Z3)(o w:Int)(u:List UInt8)(hn:gm 99 n)(hz:iS n=false)(ho:o.natAbs≤1000)(hw:0<w)(ZG:w<1000)(hu:u∈bk)(x y:AV)(m:Mem):
  mB prog 165 [.agg [x,y],.agg (dG nm n o w u)] m (.int .i64 0) m:=by
 have hG:aO prog 165=some f165:=by kernel_rfl
 have hl:=A6 (z:=w) (by omega);have hO:qS prog (ar (de (pM n o w u))):=fJ fun e he M=>by
  simp only[pM,List.mem_cons,List.not_mem_nil,or_false] at he;rcases he with rfl | rfl | rfl | rfl
  ·exact oV n o hn hz ho M
  ·have:=pz (aN (hQ w)) (by omega) M
   rw[wD ((RA (z:=w) (by omega)).mono (by omega) (by omega))] at this;exact this
  ·have:=zV (hQ w) M
   have hp:=VB hw;rw[show nq (hQ w)=1 by
    have h1:0<(hQ w).num:=Rat.intCast_pos.mp hp;have h2:¬(hQ w).num<0:=by omega
    have h3:¬(hQ w).num=0:=by omega
    simp[nq,ns,h2,h3]] at this
   exact this
  ·exact cW u hu M
 refine aY (K:=1) (lv:=fun _=>[]) hO ?_;simp[ad,hG,f165,ar,pM,de,dG]
theorem bl(s:aaf)(M:Mem)(b c:Nat)(o o' :Bool)(hb:M[b]? =some (.cells o 2 (pC s.P)))(hc:M[c]? =some (.cells o' 3 (tC s.T))):
  mB prog 41 [.agg [.slice b 0 s.P.length none,.slice c 0 s.T.length none]] M (.int .i64 0) M:=by
 have AC:=(List.getElem?_eq_some_iff.1 hb).1;have WD :=(List.getElem?_eq_some_iff.1 hc).1;have:=mB.frame (M:=M) (new:=[]) [b,c] rfl (by simp[AC,WD]) (by rfl) (fun i t hs=>by
  match i with
  |0=>simp at hs;subst hs;exact aV (bV _) hb List.take_length
  |1=>simp at hs;subst hs;exact aV (dp _) hc List.take_length
  |i+2=>simp at hs) rfl (DZ s)
 simpa [AV.aal,AV.ren,dr] using this
open Classical in
noncomputable def gj:List (FuncId×List AV×Mem×HS)→aac
 | [],_,_,_=>none
 |x::L,c,args,M=>if c=.fn x.1∧args=x.2.1∧M=x.2.2.1 then some x.2.2.2 else gj L c args M
theorem iK{L:List (FuncId×List AV×Mem×HS)}(h:∀x∈L,mB P x.1 x.2.1 x.2.2.1 x.2.2.2.v (x.2.2.2.mem x.2.2.1)∧∀p,x.2.2.2.pre=some p→p.length=x.2.2.1.length):qS P (gj L):=by
 have k:∀c args M r,gj L c args M=some r→∃x∈L,c=.fn x.1∧args=x.2.1∧M=x.2.2.1∧r=x.2.2.2:=by
  clear h;intro c args M r hr;induction L with
  |nil=>simp[gj] at hr
  |cons x L ih=>
   rw[gj] at hr;split at hr
   ·rename_i hc
    cases hr;exact⟨x,by simp,hc.1,hc.2.1,hc.2.2,rfl⟩
   ·obtain⟨y,hy,h1⟩:=ih hr
    exact⟨y,by simp[hy],h1⟩
 refine⟨fun f args M r hr=>?_,fun b args M r hr=>?_,fun c args M r p hr hp=>?_⟩
 ·obtain⟨x,hx,h1,rfl,rfl,rfl⟩:=k _ _ _ _ hr
  cases h1;exact(h x hx).1
 ·obtain⟨x,hx,h1,_⟩:=k _ _ _ _ hr
  cases h1
 ·obtain⟨x,hx,h1,rfl,rfl,rfl⟩:=k _ _ _ _ hr
  exact(h x hx).2 p hp
def gh(s:aaf) (ev:List AV):Mem:=[.cells false 2 (pC s.P),.cells false 3 (tC s.T),.cells true 0 [.slice 0 0 s.P.length none,.slice 1 0 s.T.length none],.cells true 0 ev]
def cS(k:Int) (nm:List UInt8):List AV:=[.int .i64 k,.str nm,.kO,.kO,.kO,.str [],.str [],.str [],.str [],.str [],.str [],.str [],.str [],.str [],.str [],.kO,.str [],.str [],.str [],.str [],.str [],.str [],.str [],.str [],.str [],.int .i64 0,.int .i64 0,.int .i64 0,.int .i64 0,.str [],.str [],.str []]
theorem vL(sh:aaf)(nm:List UInt8)(n:Z3)(o:Int)(s:Z3):
  mB prog 154 [.agg (cX nm n o s),.ptr 4 0] (gh sh (cX nm n o s)++[.cells true 0 (cS 2 nm)]) (.tuple []) (gh sh (cX nm n o s)++[.cells true 0 (cX nm n o s)]):=by
 have hG:aO prog 154=some f154:=by kernel_rfl
 have h:ad (aC prog) (fun _=>[]) (aO prog) bt 1 154 [.agg (cX nm n o s),.ptr 4 0] (gh sh (cX nm n o s)++[.cells true 0 (cS 2 nm)])=some ⟨.tuple [],some (gh sh (cX nm n o s)++[.cells true 0 (cX nm n o s)]),[]⟩:=by simp[ad,hG,f154,gh,cS,cX,be,bM,cz,iQ]
 have:=(au af (aw _) (ah _) (ax _) h).1;simpa [HS.mem] using this
noncomputable def jG(nm:List UInt8) (ev:List AV):List (FuncId×List AV×AV):=[
 (80,[.str nm],.int .i64 0),
 (81,[.agg ev],.agg [.func 154 [],.func 155 [],.func 156 [],.func 157 [],.func 158 []]),
 (49,[.agg ev,.agg ev],.bool true)]
def shA(s:aaf):AV:=.agg [.slice 0 0 s.P.length none,.slice 1 0 s.T.length none]
noncomputable def jH(sh:aaf) (nm:List UInt8) (ev:List AV):List (FuncId×List AV×Mem×HS):=[
 (41,[shA sh],gh sh ev,⟨.int .i64 0,none,[]⟩),
 (154,[.agg ev,.ptr 4 0],gh sh ev++[.cells true 0 (cS 2 nm)],⟨.tuple [],some (gh sh ev++[.cells true 0 ev]),[]⟩),
 (155,[shA sh,.agg ev],gh sh ev++[.cells true 0 ev],⟨.int .i64 0,none,[]⟩)]
theorem qS.or'{O O' :aac}(h:qS P O)(h' :qS P O'):qS P (aac.or O O'):=by
 have k:∀c args mem r,aac.or O O' c args mem=some r→O c args mem=some r∨O' c args mem=some r:=fun c args mem r hr=>by
  unfold aac.or at hr;split at hr
  ·rename_i q hq
   cases hr;exact .inl hq
  ·exact .inr hr
 refine⟨fun f args mem r hr=>?_,fun f args mem r hr=>?_,fun c args mem r p hr hp=>?_⟩
 ·rcases k _ _ _ _ hr with h1 | h1
  ·exact h.fn _ _ _ _ h1
  ·exact h'.fn _ _ _ _ h1
 ·rcases k _ _ _ _ hr with h1 | h1
  ·exact h.yld _ _ _ _ h1
  ·exact h'.yld _ _ _ _ h1
 ·rcases k _ _ _ _ hr with h1 | h1
  ·exact h.pre _ _ _ _ _ h1 hp
  ·exact h'.pre _ _ _ _ _ h1 hp
theorem fz(a b c d e:AV):lY (aC prog) 169 (.agg [a,b,c,d,e]) 0=some a:=by kernel_rfl
theorem gn(a b c d e:AV):lY (aC prog) 169 (.agg [a,b,c,d,e]) 1=some b:=by kernel_rfl
theorem aca:aO prog 43=some f43:=by kernel_rfl
theorem acb:ba [0,1,3,0,15] 4=true:=by decide
theorem acd:ba [0,1,3,0,0,31,63] 6=true:=by decide
def ace:=bH (rfl:aP f43=_) (ls:=[[0,1,3,0,15],[0,1,3,0,0,31,63]]) (by kernel_rfl)
theorem uw(sh:aaf)(nm:List UInt8)(n:Z3)(o:Int)(s:Z3)(hm:nm∈bk)(hn:gm 99 n)(hz:iS n=false)(ho:o.natAbs≤1000)(hs:gm 99 s)(hd:Ld s n=0):
  mB prog 43 [shA sh,.agg (cX nm n o s)] [.cells false 2 (pC sh.P),.cells false 3 (tC sh.T)] (.int .i64 0) [.cells false 2 (pC sh.P),.cells false 3 (tC sh.T)]:=by
 have PP:=ace;simp only[aP,bQ,f43,List.nil_append,List.append_nil,List.cons_append,List.map_cons,List.map_nil,List.cons.injEq,and_true] at PP;obtain⟨WS,hb1⟩:=PP;obtain⟨ev,WQ⟩:∃ev,ev=cX nm n o s:=⟨_,rfl⟩
 have Xx:qS prog (ar (de (jG nm ev))):=fJ fun e he M=>by
  simp only[jG,List.mem_cons,List.not_mem_nil,or_false] at he;subst WQ;rcases he with rfl | rfl | rfl
  ·exact cW nm hm M
  ·exact zN nm n o s M
  ·exact zJ nm n o s M
 have W0:qS prog (gj (jH sh nm ev)):=iK fun e he=>by
  simp only[jH,List.mem_cons,List.not_mem_nil,or_false] at he;subst WQ;rcases he with rfl | rfl | rfl
  ·exact⟨by simpa [HS.mem,shA] using bl sh (gh sh (cX nm n o s)) 0 1 false false rfl rfl,by simp⟩
  ·exact⟨by simpa [HS.mem] using vL sh nm n o s,by simp[gh]⟩
  ·exact⟨by simpa [HS.mem,shA] using DR nm n o s hn hz ho hs hd _ _ _,by simp⟩
 have hO:=qS.or' Xx W0;obtain⟨O,Ye⟩:∃O,O=aac.or (ar (de (jG nm ev))) (gj (jH sh nm ev)):=⟨_,rfl⟩
 rw[←Ye] at hO;have h:ad (aC prog) (fun _=>[]) (aO prog) O 1 43 [shA sh,.agg (cX nm n o s)] [.cells false 2 (pC sh.P),.cells false 3 (tC sh.T)]=some ⟨.int .i64 0,some [.cells false 2 (pC sh.P),.cells false 3 (tC sh.T)],[]⟩:=by rw[Ye,WQ];simp[cf,-ay,ag WS,ag hb1,aJ,aG,aH,acb,acd,Nat.testBit,-lY,fz,gn,ad,aca,f43,aac.or,ar,de,gj,jG,jH,shA,gh,cS,cX,bO,aL,be,bM,cz,iQ,oI,BB]
 have:=(au af (aw _) hO (ax _) h).1;simpa [HS.mem] using this
theorem yd(sh:aaf)(nm:List UInt8)(n:Z3)(o w:Int)(u:List UInt8):
  mB prog 164 [.agg (dG nm n o w u),.ptr 4 0] (gh sh (dG nm n o w u)++[.cells true 0 (cS 4 nm)]) (.tuple []) (gh sh (dG nm n o w u)++[.cells true 0 (dG nm n o w u)]):=by
 have hG:aO prog 164=some f164:=by kernel_rfl
 have h:ad (aC prog) (fun _=>[]) (aO prog) bt 1 164 [.agg (dG nm n o w u),.ptr 4 0] (gh sh (dG nm n o w u)++[.cells true 0 (cS 4 nm)])=some ⟨.tuple [],some (gh sh (dG nm n o w u)++[.cells true 0 (dG nm n o w u)]),[]⟩:=by simp[ad,hG,f164,gh,cS,dG,be,bM,cz,iQ]
 have:=(au af (aw _) (ah _) (ax _) h).1;simpa [HS.mem] using this
noncomputable def lG(nm:List UInt8) (ev:List AV):List (FuncId×List AV×AV):=[
 (80,[.str nm],.int .i64 0),
 (81,[.agg ev],.agg [.func 164 [],.func 165 [],.func 166 [],.func 167 [],.func 168 []]),
 (49,[.agg ev,.agg ev],.bool true)]
noncomputable def lL(sh:aaf) (nm:List UInt8) (ev:List AV):List (FuncId×List AV×Mem×HS):=[
 (41,[shA sh],gh sh ev,⟨.int .i64 0,none,[]⟩),
 (164,[.agg ev,.ptr 4 0],gh sh ev++[.cells true 0 (cS 4 nm)],⟨.tuple [],some (gh sh ev++[.cells true 0 ev]),[]⟩),
 (165,[shA sh,.agg ev],gh sh ev++[.cells true 0 ev],⟨.int .i64 0,none,[]⟩)]
theorem vQ(sh:aaf)(nm:List UInt8)(n:Z3)(o w:Int)(u:List UInt8)(hm:nm∈bk)(hn:gm 99 n)(hz:iS n=false)(ho:o.natAbs≤1000)(hw:0<w)(ZG:w<1000)(hu:u∈bk):
  mB prog 43 [shA sh,.agg (dG nm n o w u)] [.cells false 2 (pC sh.P),.cells false 3 (tC sh.T)] (.int .i64 0) [.cells false 2 (pC sh.P),.cells false 3 (tC sh.T)]:=by
 have PP:=ace;simp only[aP,bQ,f43,List.nil_append,List.append_nil,List.cons_append,List.map_cons,List.map_nil,List.cons.injEq,and_true] at PP;obtain⟨WS,hb1⟩:=PP;obtain⟨ev,WQ⟩:∃ev,ev=dG nm n o w u:=⟨_,rfl⟩
 have Xx:qS prog (ar (de (lG nm ev))):=fJ fun e he M=>by
  simp only[lG,List.mem_cons,List.not_mem_nil,or_false] at he;subst WQ;rcases he with rfl | rfl | rfl
  ·exact cW nm hm M
  ·exact BO nm n o w u M
  ·exact BK nm n o w u M
 have W0:qS prog (gj (lL sh nm ev)):=iK fun e he=>by
  simp only[lL,List.mem_cons,List.not_mem_nil,or_false] at he;subst WQ;rcases he with rfl | rfl | rfl
  ·exact⟨by simpa [HS.mem,shA] using bl sh (gh sh (dG nm n o w u)) 0 1 false false rfl rfl,by simp⟩
  ·exact⟨by simpa [HS.mem] using yd sh nm n o w u,by simp[gh]⟩
  ·exact⟨by simpa [HS.mem,shA] using F7 nm n o w u hn hz ho hw ZG hu _ _ _,by simp⟩
 have hO:=qS.or' Xx W0;obtain⟨O,Ye⟩:∃O,O=aac.or (ar (de (lG nm ev))) (gj (lL sh nm ev)):=⟨_,rfl⟩
 rw[←Ye] at hO;have h:ad (aC prog) (fun _=>[]) (aO prog) O 1 43 [shA sh,.agg (dG nm n o w u)] [.cells false 2 (pC sh.P),.cells false 3 (tC sh.T)]=some ⟨.int .i64 0,some [.cells false 2 (pC sh.P),.cells false 3 (tC sh.T)],[]⟩:=by rw[Ye,WQ];simp[cf,-ay,ag WS,ag hb1,aJ,aG,aH,acb,acd,Nat.testBit,-lY,fz,gn,ad,aca,f43,aac.or,ar,de,gj,lG,lL,shA,gh,cS,dG,bO,aL,be,bM,cz,iQ,oI,BB]
 have:=(au af (aw _) hO (ax _) h).1;simpa [HS.mem] using this
theorem yf(sh:aaf)(nm:List UInt8)(i:Nat)(c:Z3):
  mB prog 169 [.agg (dZ nm (fk i) c),.ptr 4 0] (gh sh (dZ nm (fk i) c)++[.cells true 0 (cS 5 nm)]) (.tuple []) (gh sh (dZ nm (fk i) c)++[.cells true 0 (dZ nm (fk i) c)]):=by
 have hG:aO prog 169=some f169:=by kernel_rfl
 have h:ad (aC prog) (fun _=>[]) (aO prog) bt 1 169 [.agg (dZ nm (fk i) c),.ptr 4 0] (gh sh (dZ nm (fk i) c)++[.cells true 0 (cS 5 nm)])=some ⟨.tuple [],some (gh sh (dZ nm (fk i) c)++[.cells true 0 (dZ nm (fk i) c)]),[]⟩:=by simp[ad,hG,f169,gh,cS,dZ,be,bM,cz,iQ]
 have:=(au af (aw _) (ah _) (ax _) h).1;simpa [HS.mem] using this
noncomputable def lH(nm:List UInt8) (ev:List AV):List (FuncId×List AV×AV):=[
 (80,[.str nm],.int .i64 0),
 (81,[.agg ev],.agg [.func 169 [],.func 170 [],.func 171 [],.func 172 [],.func 173 []]),
 (49,[.agg ev,.agg ev],.bool true)]
noncomputable def lO(sh:aaf) (nm:List UInt8) (ev:List AV):List (FuncId×List AV×Mem×HS):=[
 (41,[shA sh],gh sh ev,⟨.int .i64 0,none,[]⟩),
 (169,[.agg ev,.ptr 4 0],gh sh ev++[.cells true 0 (cS 5 nm)],⟨.tuple [],some (gh sh ev++[.cells true 0 ev]),[]⟩),
 (170,[shA sh,.agg ev],gh sh ev++[.cells true 0 ev],⟨.int .i64 0,none,[]⟩)]
theorem vT(sh:aaf)(nm:List UInt8)(i:Nat)(c:Z3)(hm:nm∈bk)(hc:gm 99 c):
  mB prog 43 [shA sh,.agg (dZ nm (fk i) c)] [.cells false 2 (pC sh.P),.cells false 3 (tC sh.T)] (.int .i64 0) [.cells false 2 (pC sh.P),.cells false 3 (tC sh.T)]:=by
 have PP:=ace;simp only[aP,bQ,f43,List.nil_append,List.append_nil,List.cons_append,List.map_cons,List.map_nil,List.cons.injEq,and_true] at PP;obtain⟨WS,hb1⟩:=PP;obtain⟨ev,WQ⟩:∃ev,ev=dZ nm (fk i) c:=⟨_,rfl⟩
 have Xx:qS prog (ar (de (lH nm ev))):=fJ fun e he M=>by
  simp only[lH,List.mem_cons,List.not_mem_nil,or_false] at he;subst WQ;rcases he with rfl | rfl | rfl
  ·exact cW nm hm M
  ·exact BP nm (fk i) c M
  ·exact BM nm (fk i) c M
 have W0:qS prog (gj (lO sh nm ev)):=iK fun e he=>by
  simp only[lO,List.mem_cons,List.not_mem_nil,or_false] at he;subst WQ;rcases he with rfl | rfl | rfl
  ·exact⟨by simpa [HS.mem,shA] using bl sh (gh sh (dZ nm (fk i) c)) 0 1 false false rfl rfl,by simp⟩
  ·exact⟨by simpa [HS.mem] using yf sh nm i c,by simp[gh]⟩
  ·exact⟨by simpa [HS.mem,shA] using F9 nm i c hc _ _ _,by simp⟩
 have hO:=qS.or' Xx W0;obtain⟨O,Ye⟩:∃O,O=aac.or (ar (de (lH nm ev))) (gj (lO sh nm ev)):=⟨_,rfl⟩
 rw[←Ye] at hO;have h:ad (aC prog) (fun _=>[]) (aO prog) O 1 43 [shA sh,.agg (dZ nm (fk i) c)] [.cells false 2 (pC sh.P),.cells false 3 (tC sh.T)]=some ⟨.int .i64 0,some [.cells false 2 (pC sh.P),.cells false 3 (tC sh.T)],[]⟩:=by rw[Ye,WQ];simp[cf,-ay,ag WS,ag hb1,aJ,aG,aH,acb,acd,Nat.testBit,-lY,fz,gn,ad,aca,f43,aac.or,ar,de,gj,lH,lO,shA,gh,cS,dZ,bO,aL,be,bM,cz,iQ,oI,BB]
 have:=(au af (aw _) hO (ax _) h).1;simpa [HS.mem] using this
end Go.Proofs
