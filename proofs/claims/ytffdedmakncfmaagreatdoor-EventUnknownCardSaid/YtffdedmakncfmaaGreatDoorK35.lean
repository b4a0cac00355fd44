/- See K51. -/
import Derived.Test.YtffdedmakncfmaaGreatDoorK34
set_option linter.all false
namespace Go.Proofs
open Go.Eng
def Ce:Oracle:=ai fun f args=>match f,args with
 |110,[]=>some (.agg ui)
 |_,_=>none
theorem IC:OracleOk Tryz.prog Ce:=bM fun f args v h mem=>by
 split at h
 ·cases h;exact Dk mem
 ·cases h
open Classical in
noncomputable def cG:List (FuncId×List AV×AV)→FuncId→List AV→Option AV
 | [],_,_=>none
 |x::L,f,args=>if f=x.1∧args=x.2.1 then some x.2.2 else cG L f args
theorem dL{P:Program}{L:List (FuncId×List AV×AV)}(h:∀x∈L,∀M,ACallsTo P x.1 x.2.1 M x.2.2 M):OracleOk P (ai (cG L)):=bM fun f args v hv mem=>by
 induction L with
 |nil=>simp[cG] at hv
 |cons x L ih=>
  rw[cG] at hv
  split at hv
  ·rename_i hc
   cases hv
   rw[hc.1,hc.2]
   exact h x (by simp) mem
  ·exact ih (fun y hy=>h y (by simp[hy])) hv
theorem RE{w:Int}(h:0<w):0<hQ w:=by
 rw[jU]
 have:(0:Rat)<(w:Rat):=by exact_mod_cast h
 grind
theorem se(s:Sheet) (M:Mem) (b c:Nat) (o o' :Bool) (hb:M[b]? =some (.cells o 2 (pC s.P))) (hc:M[c]? =some (.cells o' 3 (tC s.T))):
  ACallsTo Tryz.prog 131 [.agg [.slice b 0 s.P.length none,.slice c 0 s.T.length none]] M (.int .i64 0) M:=by
 have hlt:=(List.getElem?_eq_some_iff.1 hb).1
 have hlt' :=(List.getElem?_eq_some_iff.1 hc).1
 have:=ACallsTo.frame (M:=M) (new:=[]) [b,c] rfl (by simp[hlt,hlt']) (by rfl) (fun i t hs=>by
  match i with
  |0=>simp at hs;subst hs;exact dO (fh _) hb List.take_length
  |1=>simp at hs;subst hs;exact dO (jB _) hc List.take_length
  |i+2=>simp at hs) rfl (BG s)
 simpa [AV.rens,AV.ren,eK] using this
open Classical in
noncomputable def oz:List (FuncId×List AV×Mem×CallRes)→Oracle
 | [],_,_,_=>none
 |x::L,c,args,M=>if c=.fn x.1∧args=x.2.1∧M=x.2.2.1 then some x.2.2.2 else oz L c args M
theorem sR{P:Program}{L:List (FuncId×List AV×Mem×CallRes)}(h:∀x∈L,ACallsTo P x.1 x.2.1 x.2.2.1 x.2.2.2.v (x.2.2.2.mem x.2.2.1)∧∀p,x.2.2.2.pre=some p→p.length=x.2.2.1.length):OracleOk P (oz L):=by
 have k:∀c args M r,oz L c args M=some r→∃x∈L,c=.fn x.1∧args=x.2.1∧M=x.2.2.1∧r=x.2.2.2:=by
  clear h
  intro c args M r hr
  induction L with
  |nil=>simp[oz] at hr
  |cons x L ih=>
   rw[oz] at hr
   split at hr
   ·rename_i hc
    cases hr
    exact⟨x,by simp,hc.1,hc.2.1,hc.2.2,rfl⟩
   ·obtain⟨y,hy,h1⟩:=ih hr
    exact⟨y,by simp[hy],h1⟩
 refine⟨fun f args M r hr=>?_,fun b args M r hr=>?_,fun c args M r p hr hp=>?_⟩
 ·obtain⟨x,hx,h1,rfl,rfl,rfl⟩:=k _ _ _ _ hr
  cases h1
  exact(h x hx).1
 ·obtain⟨x,hx,h1,_⟩:=k _ _ _ _ hr
  cases h1
 ·obtain⟨x,hx,h1,rfl,rfl,rfl⟩:=k _ _ _ _ hr
  exact(h x hx).2 p hp
def shA(s:Sheet):AV:=.agg [.slice 0 0 s.P.length none,.slice 1 0 s.T.length none]
theorem OracleOk.or'{P:Program}{O O' :Oracle}(h:OracleOk P O) (h' :OracleOk P O'):OracleOk P (Oracle.or O O'):=by
 have k:∀c args mem r,Oracle.or O O' c args mem=some r→O c args mem=some r∨O' c args mem=some r:=fun c args mem r hr=>by
  unfold Oracle.or at hr
  split at hr
  ·rename_i q hq
   cases hr;exact .inl hq
  ·exact .inr hr
 refine⟨fun f args mem r hr=>?_,fun f args mem r hr=>?_,fun c args mem r p hr hp=>?_⟩
 ·rcases k _ _ _ _ hr with h1 | h1
  ·exact h.fn _ _ _ _ h1
  ·exact h'.fn _ _ _ _ h1
 ·rcases k _ _ _ _ hr with h1 | h1
  ·exact h.yld _ _ _ _ h1
  ·exact h'.yld _ _ _ _ h1
 ·rcases k _ _ _ _ hr with h1 | h1
  ·exact h.pre _ _ _ _ _ h1 hp
  ·exact h'.pre _ _ _ _ _ h1 hp
theorem FZ(a b c d e:AV):jS (aO Tryz.prog) 147 (.agg [a,b,c,d,e]) 0=some a:=by kernel_rfl
theorem F0(a b c d e:AV):jS (aO Tryz.prog) 147 (.agg [a,b,c,d,e]) 1=some b:=by kernel_rfl
end Go.Proofs
