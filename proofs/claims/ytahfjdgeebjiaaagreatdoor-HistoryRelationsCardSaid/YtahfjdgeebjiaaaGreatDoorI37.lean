/- See I57. -/
import Derived.Test.YtahfjdgeebjiaaaGreatDoorI36
set_option linter.all false
namespace Go.Proofs
open Go.Eng
def Tryz.kO1 : Oracle := pureO fun f args => match f,args with
 | 141,[] => some (.agg Tryz.kindC)
 | _,_ => none
theorem Tryz.kO1_ok : OracleOk Tryz.prog Tryz.kO1 := pureO_ok fun f args v h mem => by
 split at h
 ·cases h; exact Tryz.aEKinds mem
 ·cases h
theorem Tryz.aEOf_fault (nm : List UInt8) (n : Z3) (o : Int) (s : Z3) (M : Mem) : ACallsTo Tryz.prog 87 [.agg (evFault nm n o s)] M (.agg ((Tryz.kindC.drop 5).take 5)) M := by
 refine Tryz.run Tryz.kO1_ok (lv := writesC) (K := 6) rfl rfl ?_ M
 as_aux_lemma => kernel_rfl
theorem Tryz.aEOf_dike (nm : List UInt8) (n : Z3) (o w : Int) (u : List UInt8) (M : Mem) : ACallsTo Tryz.prog 87 [.agg (evDike nm n o w u)] M (.agg ((Tryz.kindC.drop 15).take 5)) M := by
 refine Tryz.run Tryz.kO1_ok (lv := writesC) (K := 6) rfl rfl ?_ M
 as_aux_lemma => kernel_rfl
theorem Tryz.aEOf_tilt (nm : List UInt8) (t : Int × Int × Int × Int) (c : Z3) (M : Mem) : ACallsTo Tryz.prog 87 [.agg (evTilt nm t c)] M (.agg ((Tryz.kindC.drop 20).take 5)) M := by
 refine Tryz.run Tryz.kO1_ok (lv := writesC) (K := 6) rfl rfl ?_ M
 as_aux_lemma => kernel_rfl
def Tryz.kO2 : Oracle := pureO fun f args => match f,args with
 | 142,[.nilslice,.nilslice] => some (.bool true)
 | 14,[.nilslice,.nilslice] => some (.bool true)
 | 143,[.nilslice,.nilslice] => some (.bool true)
 | 144,[.nilslice,.nilslice] => some (.bool true)
 | _,_ => none
theorem Tryz.kO2_ok : OracleOk Tryz.prog Tryz.kO2 := pureO_ok fun f args v h mem => by
 split at h
 ·cases h; exact Tryz.aFEqNil mem
 ·cases h; exact Tryz.aSEqNil mem
 ·cases h; exact Tryz.aSFNil mem
 ·cases h; exact Tryz.aKEqNil mem
 ·cases h
theorem Tryz.aEEq_fault (nm : List UInt8) (n : Z3) (o : Int) (s : Z3) (M : Mem) : ACallsTo Tryz.prog 88 [.agg (evFault nm n o s),.agg (evFault nm n o s)] M (.bool true) M :=
 Tryz.aEEqG Tryz.kO2_ok rfl rfl rfl rfl
theorem Tryz.aEEq_dike (nm : List UInt8) (n : Z3) (o w : Int) (u : List UInt8) (M : Mem) : ACallsTo Tryz.prog 88 [.agg (evDike nm n o w u),.agg (evDike nm n o w u)] M (.bool true) M :=
 Tryz.aEEqG Tryz.kO2_ok rfl rfl rfl rfl
theorem Tryz.aEEq_tilt (nm : List UInt8) (t : Int × Int × Int × Int) (c : Z3) (M : Mem) : ACallsTo Tryz.prog 88 [.agg (evTilt nm t c),.agg (evTilt nm t c)] M (.bool true) M :=
 Tryz.aEEqG Tryz.kO2_ok rfl rfl rfl rfl
theorem Tryz.rotRun (t u v w : Int) (h : (t,u,v,w) ∈ [turnT 0,turnT 1,turnT 2,turnT 3,turnT 4,turnT 5]) : (callF (tyOf Tryz.prog) writesC (fnOf Tryz.prog) noOracle 8 6 (.fn 286) [.agg [.int .i64 t,.int .i64 u,.int .i64 v,.int .i64 w]] []).map (fun r => (r.v,r.mem [])) = some (.int .i64 0,[] ++ []) := by
 simp only [List.mem_cons,List.not_mem_nil,or_false,turnT,Prod.mk.injEq] at h
 rcases h with ⟨rfl,rfl,rfl,rfl⟩ | ⟨rfl,rfl,rfl,rfl⟩ | ⟨rfl,rfl,rfl,rfl⟩ | ⟨rfl,rfl,rfl,rfl⟩ | ⟨rfl,rfl,rfl,rfl⟩ | ⟨rfl,rfl,rfl,rfl⟩ <;> (as_aux_lemma => kernel_rfl)
theorem Tryz.aRotCheck (i : Nat) (M : Mem) : ACallsTo Tryz.prog 286 [.agg [.int .i64 (turnT i).1,.int .i64 (turnT i).2.1,.int .i64 (turnT i).2.2.1,.int .i64 (turnT i).2.2.2]] M (.int .i64 0) M := by
 refine ACallsTo.lift rfl rfl (memo_of (new := []) Tryz.mixed (tyOf_ok _) (fnOf_ok _) (noOracle_ok _) (Tryz.rotRun _ _ _ _ ?_)) M
 match i with
 | 0 | 1 | 2 | 3 | 4 | n + 5 => simp [turnT]
open Classical in
noncomputable def factF : List (FuncId × List AV × AV) → FuncId → List AV → Option AV
 | [],_,_ => none
 | x :: L,f,args => if f = x.1 ∧ args = x.2.1 then some x.2.2 else factF L f args
theorem factF_ok {P : Program} {L : List (FuncId × List AV × AV)} (h : ∀ x ∈ L,∀ M,ACallsTo P x.1 x.2.1 M x.2.2 M) : OracleOk P (pureO (factF L)) := pureO_ok fun f args v hv mem => by
 induction L with
 | nil => simp [factF] at hv
 | cons x L ih =>
  rw [factF] at hv
  split at hv
  ·rename_i hc
   cases hv
   rw [hc.1,hc.2]
   exact h x (by simp) mem
  ·exact ih (fun y hy => h y (by simp [hy])) hv
noncomputable def Tryz.ckLFault (n : Z3) (o : Int) (s : Z3) : List (FuncId × List AV × AV) := [
 (282,[.agg [.str (zS n.1),.str (zS n.2.1),.str (zS n.2.2),.str (zS o)]],.int .i64 0),
 (283,[zA s,zA n],.int .i64 0)]
theorem Tryz.aCkFault (nm : List UInt8) (n : Z3) (o : Int) (s : Z3) (hn : z3Le 99 n) (hz : zeroZ n = false) (ho : o.natAbs ≤ 1000) (hs : z3Le 99 s) (hd : dotZ s n = 0) (x y : AV) (m : Mem) :
  ACallsTo Tryz.prog 206 [.agg [x,y],.agg (evFault nm n o s)] m (.int .i64 0) m := by
 have hG : fnOf Tryz.prog 206 = some Tryz.f206 := by kernel_rfl
 have hO : OracleOk Tryz.prog (pureO (factF (Tryz.ckLFault n o s))) := factF_ok fun e he M => by
  simp only [Tryz.ckLFault,List.mem_cons,List.not_mem_nil,or_false] at he
  rcases he with rfl | rfl
  ·exact Tryz.aCheckPlane n o hn hz ho M
  ·exact Tryz.aAlong s n hs hn hd M
 have h : callFn (tyOf Tryz.prog) (fun _ => []) (fnOf Tryz.prog) (pureO (factF (Tryz.ckLFault n o s))) 1 206 [.agg [x,y],.agg (evFault nm n o s)] m = some ⟨.int .i64 0,none,[]⟩ := by
  simp [callFn,hG,Tryz.f206,pureO,Tryz.ckLFault,factF,evFault,zA]
 have := (callFn_sound Tryz.mixed (tyOf_ok _) hO (fnOf_ok _) h).1
 simpa [CallRes.mem] using this
noncomputable def Tryz.ckLTilt (t : Int × Int × Int × Int) (c : Z3) : List (FuncId × List AV × AV) := [
 (286,[.agg [.int .i64 t.1,.int .i64 t.2.1,.int .i64 t.2.2.1,.int .i64 t.2.2.2]],.int .i64 0),
 (68,[zA c],.int .i64 0)]
theorem Tryz.aVCheckZ (c : Z3) (hc : z3Le 99 c) (M : Mem) : ACallsTo Tryz.prog 68 [zA c] M (.int .i64 0) M := by
 have hE := numE_z hc
 obtain ⟨h1,h2,h3⟩ := hc
 have s1 := zS_len (n := c.1) (by omega)
 have s2 := zS_len (n := c.2.1) (by omega)
 have s3 := zS_len (n := c.2.2) (by omega)
 have := Tryz.aVCheck (zS c.1) (zS c.2.1) (zS c.2.2) (by unfold zS; omega) (by unfold zS; omega) (by unfold zS; omega) M
 rw [hE] at this
 exact this
theorem Tryz.aCkTilt (nm : List UInt8) (i : Nat) (c : Z3) (hc : z3Le 99 c) (x y : AV) (m : Mem) :
  ACallsTo Tryz.prog 221 [.agg [x,y],.agg (evTilt nm (turnT i) c)] m (.int .i64 0) m := by
 have hG : fnOf Tryz.prog 221 = some Tryz.f221 := by kernel_rfl
 have hO : OracleOk Tryz.prog (pureO (factF (Tryz.ckLTilt (turnT i) c))) := factF_ok fun e he M => by
  simp only [Tryz.ckLTilt,List.mem_cons,List.not_mem_nil,or_false] at he
  rcases he with rfl | rfl
  ·exact Tryz.aRotCheck i M
  ·exact Tryz.aVCheckZ c hc M
 obtain ⟨t,ht⟩ : ∃ t,t = turnT i := ⟨_,rfl⟩
 rw [← ht] at hO ⊢
 have h : callFn (tyOf Tryz.prog) (fun _ => []) (fnOf Tryz.prog) (pureO (factF (Tryz.ckLTilt t c))) 1 221 [.agg [x,y],.agg (evTilt nm t c)] m = some ⟨.int .i64 0,none,[]⟩ := by
  simp [callFn,hG,Tryz.f221,pureO,Tryz.ckLTilt,factF,evTilt,zA]
 have := (callFn_sound Tryz.mixed (tyOf_ok _) hO (fnOf_ok _) h).1
 simpa [CallRes.mem] using this
noncomputable def Tryz.ckLDike (n : Z3) (o w : Int) (u : List UInt8) : List (FuncId × List AV × AV) := [
 (282,[.agg [.str (zS n.1),.str (zS n.2.1),.str (zS n.2.2),.str (zS o)]],.int .i64 0),
 (166,[.str (ratS (hQ w))],.int .i64 0),
 (116,[.str (ratS (hQ w))],.int .i64 1),
 (86,[.str u],.int .i64 0)]
theorem hQ_pos {w : Int} (h : 0 < w) : 0 < hQ w := by
 rw [hQ_div]
 have : (0 : Rat) < (w : Rat) := by exact_mod_cast h
 grind
theorem Tryz.aCkDike (nm : List UInt8) (n : Z3) (o w : Int) (u : List UInt8) (hn : z3Le 99 n) (hz : zeroZ n = false) (ho : o.natAbs ≤ 1000) (hw : 0 < w) (hw2 : w < 1000) (hu : u ∈ eNames) (x y : AV) (m : Mem) :
  ACallsTo Tryz.prog 216 [.agg [x,y],.agg (evDike nm n o w u)] m (.int .i64 0) m := by
 have hG : fnOf Tryz.prog 216 = some Tryz.f216 := by kernel_rfl
 have hl := hQ_len (z := w) (by omega)
 have hO : OracleOk Tryz.prog (pureO (factF (Tryz.ckLDike n o w u))) := factF_ok fun e he M => by
  simp only [Tryz.ckLDike,List.mem_cons,List.not_mem_nil,or_false] at he
  rcases he with rfl | rfl | rfl | rfl
  ·exact Tryz.aCheckPlane n o hn hz ho M
  ·have := Tryz.aCheckR (ratS (hQ w)) (by omega) M
   rw [chkR_dg ((hQ_dg (z := w) (by omega)).mono (by omega) (by omega))] at this
   exact this
  ·have := Tryz.aSignR (hQ w) M
   have hp := hQ_pos hw
   rw [show sgnR (hQ w) = 1 by
    have h1 : 0 < (hQ w).num := Rat.intCast_pos.mp hp
    have h2 : ¬(hQ w).num < 0 := by omega
    have h3 : ¬(hQ w).num = 0 := by omega
    simp [sgnR,sgnI,h1,h2,h3]] at this
   exact this
  ·exact Tryz.aEName u hu M
 have h : callFn (tyOf Tryz.prog) (fun _ => []) (fnOf Tryz.prog) (pureO (factF (Tryz.ckLDike n o w u))) 1 216 [.agg [x,y],.agg (evDike nm n o w u)] m = some ⟨.int .i64 0,none,[]⟩ := by
  simp [callFn,hG,Tryz.f216,pureO,Tryz.ckLDike,factF,evDike,zA]
 have := (callFn_sound Tryz.mixed (tyOf_ok _) hO (fnOf_ok _) h).1
 simpa [CallRes.mem] using this
theorem Tryz.aMCheckX (s : Sheet) (M : Mem) (b c : Nat) (o o' : Bool) (hb : M[b]? = some (.cells o 2 (pC s.P))) (hc : M[c]? = some (.cells o' 3 (tC s.T))) :
  ACallsTo Tryz.prog 54 [.agg [.slice b 0 s.P.length none,.slice c 0 s.T.length none]] M (.int .i64 0) M := by
 have hlt := (List.getElem?_eq_some_iff.1 hb).1
 have hlt' := (List.getElem?_eq_some_iff.1 hc).1
 have := ACallsTo.frame (M := M) (new := []) [b,c] rfl (by simp [hlt,hlt']) (by rfl) (fun i t hs => by
  match i with
  | 0 => simp at hs; subst hs; exact rowC_sub (pC_closed _) hb List.take_length
  | 1 => simp at hs; subst hs; exact rowC_sub (tC_closed _) hc List.take_length
  | i + 2 => simp at hs) rfl (Tryz.aMCheckS s)
 simpa [AV.rens,AV.ren,back] using this
open Classical in
noncomputable def factC : List (FuncId × List AV × Mem × CallRes) → Oracle
 | [],_,_,_ => none
 | x :: L,c,args,M => if c = .fn x.1 ∧ args = x.2.1 ∧ M = x.2.2.1 then some x.2.2.2 else factC L c args M
theorem factC_ok {P : Program} {L : List (FuncId × List AV × Mem × CallRes)} (h : ∀ x ∈ L,ACallsTo P x.1 x.2.1 x.2.2.1 x.2.2.2.v (x.2.2.2.mem x.2.2.1) ∧ ∀ p,x.2.2.2.pre = some p → p.length = x.2.2.1.length) : OracleOk P (factC L) := by
 have k : ∀ c args M r,factC L c args M = some r → ∃ x ∈ L,c = .fn x.1 ∧ args = x.2.1 ∧ M = x.2.2.1 ∧ r = x.2.2.2 := by
  clear h
  intro c args M r hr
  induction L with
  | nil => simp [factC] at hr
  | cons x L ih =>
   rw [factC] at hr
   split at hr
   ·rename_i hc
    cases hr
    exact ⟨x,by simp,hc.1,hc.2.1,hc.2.2,rfl⟩
   ·obtain ⟨y,hy,h1⟩ := ih hr
    exact ⟨y,by simp [hy],h1⟩
 refine ⟨fun f args M r hr => ?_,fun b args M r hr => ?_,fun c args M r p hr hp => ?_⟩
 ·obtain ⟨x,hx,h1,rfl,rfl,rfl⟩ := k _ _ _ _ hr
  cases h1
  exact (h x hx).1
 ·obtain ⟨x,hx,h1,_⟩ := k _ _ _ _ hr
  cases h1
 ·obtain ⟨x,hx,h1,rfl,rfl,rfl⟩ := k _ _ _ _ hr
  exact (h x hx).2 p hp
def ckMem (s : Sheet) (ev : List AV) : Mem := [.cells false 2 (pC s.P),.cells false 3 (tC s.T),.cells true 0 [.slice 0 0 s.P.length none,.slice 1 0 s.T.length none],.cells true 0 ev]
def blankE (k : Int) (nm : List UInt8) : List AV := [.int .i64 k,.str nm,.nilslice,.nilslice,.nilslice,.str [],.str [],.str [],.str [],.str [],.str [],.str [],.str [],.str [],.str [],.nilslice,.str [],.str [],.str [],.str [],.str [],.str [],.str [],.str [],.str [],.int .i64 0,.int .i64 0,.int .i64 0,.int .i64 0,.str [],.str [],.str []]
theorem Tryz.aAlone_fault (sh : Sheet) (nm : List UInt8) (n : Z3) (o : Int) (s : Z3) :
  ACallsTo Tryz.prog 205 [.agg (evFault nm n o s),.ptr 4 0] (ckMem sh (evFault nm n o s) ++ [.cells true 0 (blankE 2 nm)]) (.tuple []) (ckMem sh (evFault nm n o s) ++ [.cells true 0 (evFault nm n o s)]) := by
 have hG : fnOf Tryz.prog 205 = some Tryz.f205 := by kernel_rfl
 have h : callFn (tyOf Tryz.prog) (fun _ => []) (fnOf Tryz.prog) noOracle 1 205 [.agg (evFault nm n o s),.ptr 4 0] (ckMem sh (evFault nm n o s) ++ [.cells true 0 (blankE 2 nm)]) = some ⟨.tuple [],some (ckMem sh (evFault nm n o s) ++ [.cells true 0 (evFault nm n o s)]),[]⟩ := by
  simp [callFn,hG,Tryz.f205,ckMem,blankE,evFault,pC_refs,tC_refs,pC_ren,tC_ren,List.idxOf?_cons]
 have := (callFn_sound Tryz.mixed (tyOf_ok _) (noOracle_ok _) (fnOf_ok _) h).1
 simpa [CallRes.mem] using this
noncomputable def Tryz.evLFault (nm : List UInt8) (ev : List AV) : List (FuncId × List AV × AV) := [
 (86,[.str nm],.int .i64 0),
 (87,[.agg ev],.agg [.func 205 [],.func 206 [],.func 207 [],.func 208 [],.func 209 []]),
 (88,[.agg ev,.agg ev],.bool true)]
def shA (s : Sheet) : AV := .agg [.slice 0 0 s.P.length none,.slice 1 0 s.T.length none]
noncomputable def Tryz.evMFault (sh : Sheet) (nm : List UInt8) (ev : List AV) : List (FuncId × List AV × Mem × CallRes) := [
 (54,[shA sh],ckMem sh ev,⟨.int .i64 0,none,[]⟩),
 (205,[.agg ev,.ptr 4 0],ckMem sh ev ++ [.cells true 0 (blankE 2 nm)],⟨.tuple [],some (ckMem sh ev ++ [.cells true 0 ev]),[]⟩),
 (206,[shA sh,.agg ev],ckMem sh ev ++ [.cells true 0 ev],⟨.int .i64 0,none,[]⟩)]
theorem OracleOk.or' {P : Program} {O O' : Oracle} (h : OracleOk P O) (h' : OracleOk P O') : OracleOk P (Oracle.or O O') := by
 have k : ∀ c args mem r,Oracle.or O O' c args mem = some r → O c args mem = some r ∨ O' c args mem = some r := fun c args mem r hr => by
  unfold Oracle.or at hr
  split at hr
  ·rename_i q hq
   cases hr; exact .inl hq
  ·exact .inr hr
 refine ⟨fun f args mem r hr => ?_,fun f args mem r hr => ?_,fun c args mem r p hr hp => ?_⟩
 ·rcases k _ _ _ _ hr with h1 | h1
  ·exact h.fn _ _ _ _ h1
  ·exact h'.fn _ _ _ _ h1
 ·rcases k _ _ _ _ hr with h1 | h1
  ·exact h.yld _ _ _ _ h1
  ·exact h'.yld _ _ _ _ h1
 ·rcases k _ _ _ _ hr with h1 | h1
  ·exact h.pre _ _ _ _ _ h1 hp
  ·exact h'.pre _ _ _ _ _ h1 hp
theorem Tryz.fieldK0 (a b c d e : AV) : aField (tyOf Tryz.prog) 200 (.agg [a,b,c,d,e]) 0 = some a := by kernel_rfl
theorem Tryz.fieldK1 (a b c d e : AV) : aField (tyOf Tryz.prog) 200 (.agg [a,b,c,d,e]) 1 = some b := by kernel_rfl
theorem Tryz.aECheck_fault (sh : Sheet) (nm : List UInt8) (n : Z3) (o : Int) (s : Z3) (hm : nm ∈ eNames) (hn : z3Le 99 n) (hz : zeroZ n = false) (ho : o.natAbs ≤ 1000) (hs : z3Le 99 s) (hd : dotZ s n = 0) :
  ACallsTo Tryz.prog 55 [shA sh,.agg (evFault nm n o s)] [.cells false 2 (pC sh.P),.cells false 3 (tC sh.T)] (.int .i64 0) [.cells false 2 (pC sh.P),.cells false 3 (tC sh.T)] := by
 have hG : fnOf Tryz.prog 55 = some Tryz.f55 := by kernel_rfl
 obtain ⟨os,hops⟩ : ∃ os,drawsF Tryz.f55 = os := ⟨_,rfl⟩
 have hbs := draws_map hops (ls := [[0,1,3,0,15],[0,1,3,0,0,31,63]]) (by kernel_rfl)
 simp only [drawsF,drawsC,Tryz.f55,List.nil_append,List.append_nil,List.cons_append] at hops
 subst hops
 simp only [List.map_cons,List.map_nil,List.cons.injEq,and_true] at hbs
 obtain ⟨hb0,hb1⟩ := hbs
 have a0 : allBef [0,1,3,0,15] 4 = true := by decide
 have a1 : allBef [0,1,3,0,0,31,63] 6 = true := by decide
 obtain ⟨ev,hev⟩ : ∃ ev,ev = evFault nm n o s := ⟨_,rfl⟩
 have hO1 : OracleOk Tryz.prog (pureO (factF (Tryz.evLFault nm ev))) := factF_ok fun e he M => by
  simp only [Tryz.evLFault,List.mem_cons,List.not_mem_nil,or_false] at he
  subst hev
  rcases he with rfl | rfl | rfl
  ·exact Tryz.aEName nm hm M
  ·exact Tryz.aEOf_fault nm n o s M
  ·exact Tryz.aEEq_fault nm n o s M
 have hO2 : OracleOk Tryz.prog (factC (Tryz.evMFault sh nm ev)) := factC_ok fun e he => by
  simp only [Tryz.evMFault,List.mem_cons,List.not_mem_nil,or_false] at he
  subst hev
  rcases he with rfl | rfl | rfl
  ·exact ⟨by simpa [CallRes.mem,shA] using Tryz.aMCheckX sh (ckMem sh (evFault nm n o s)) 0 1 false false rfl rfl,by simp⟩
  ·exact ⟨by simpa [CallRes.mem] using Tryz.aAlone_fault sh nm n o s,by simp [ckMem]⟩
  ·exact ⟨by simpa [CallRes.mem,shA] using Tryz.aCkFault nm n o s hn hz ho hs hd _ _ _,by simp⟩
 have hO := OracleOk.or' hO1 hO2
 obtain ⟨O,hOO⟩ : ∃ O,O = Oracle.or (pureO (factF (Tryz.evLFault nm ev))) (factC (Tryz.evMFault sh nm ev)) := ⟨_,rfl⟩
 rw [← hOO] at hO
 have h : callFn (tyOf Tryz.prog) (fun _ => []) (fnOf Tryz.prog) O 1 55 [shA sh,.agg (evFault nm n o s)] [.cells false 2 (pC sh.P),.cells false 3 (tC sh.T)] = some ⟨.int .i64 0,some [.cells false 2 (pC sh.P),.cells false 3 (tC sh.T)],[]⟩ := by
  rw [hOO,hev]
  simp [presentIds,-runDraw,runDraw_light hb0,runDraw_light hb1,runDrawL,lightAll,lightRec,a0,a1,Nat.testBit,-aField,Tryz.fieldK0,Tryz.fieldK1,callFn,hG,Tryz.f55,Oracle.or,pureO,factF,factC,Tryz.evLFault,Tryz.evMFault,shA,ckMem,blankE,evFault,aBuild,fieldPlaces,pC_refs,tC_refs,pC_ren,tC_ren,pC_ok,tC_ok,List.idxOf?_cons]
 have := (callFn_sound Tryz.mixed (tyOf_ok _) hO (fnOf_ok _) h).1
 simpa [CallRes.mem] using this
theorem Tryz.aAlone_dike (sh : Sheet) (nm : List UInt8) (n : Z3) (o w : Int) (u : List UInt8) :
  ACallsTo Tryz.prog 215 [.agg (evDike nm n o w u),.ptr 4 0] (ckMem sh (evDike nm n o w u) ++ [.cells true 0 (blankE 4 nm)]) (.tuple []) (ckMem sh (evDike nm n o w u) ++ [.cells true 0 (evDike nm n o w u)]) := by
 have hG : fnOf Tryz.prog 215 = some Tryz.f215 := by kernel_rfl
 have h : callFn (tyOf Tryz.prog) (fun _ => []) (fnOf Tryz.prog) noOracle 1 215 [.agg (evDike nm n o w u),.ptr 4 0] (ckMem sh (evDike nm n o w u) ++ [.cells true 0 (blankE 4 nm)]) = some ⟨.tuple [],some (ckMem sh (evDike nm n o w u) ++ [.cells true 0 (evDike nm n o w u)]),[]⟩ := by
  simp [callFn,hG,Tryz.f215,ckMem,blankE,evDike,pC_refs,tC_refs,pC_ren,tC_ren,List.idxOf?_cons]
 have := (callFn_sound Tryz.mixed (tyOf_ok _) (noOracle_ok _) (fnOf_ok _) h).1
 simpa [CallRes.mem] using this
noncomputable def Tryz.evLDike (nm : List UInt8) (ev : List AV) : List (FuncId × List AV × AV) := [
 (86,[.str nm],.int .i64 0),
 (87,[.agg ev],.agg [.func 215 [],.func 216 [],.func 217 [],.func 218 [],.func 219 []]),
 (88,[.agg ev,.agg ev],.bool true)]
noncomputable def Tryz.evMDike (sh : Sheet) (nm : List UInt8) (ev : List AV) : List (FuncId × List AV × Mem × CallRes) := [
 (54,[shA sh],ckMem sh ev,⟨.int .i64 0,none,[]⟩),
 (215,[.agg ev,.ptr 4 0],ckMem sh ev ++ [.cells true 0 (blankE 4 nm)],⟨.tuple [],some (ckMem sh ev ++ [.cells true 0 ev]),[]⟩),
 (216,[shA sh,.agg ev],ckMem sh ev ++ [.cells true 0 ev],⟨.int .i64 0,none,[]⟩)]
theorem Tryz.aECheck_dike (sh : Sheet) (nm : List UInt8) (n : Z3) (o w : Int) (u : List UInt8) (hm : nm ∈ eNames) (hn : z3Le 99 n) (hz : zeroZ n = false) (ho : o.natAbs ≤ 1000) (hw : 0 < w) (hw2 : w < 1000) (hu : u ∈ eNames) :
  ACallsTo Tryz.prog 55 [shA sh,.agg (evDike nm n o w u)] [.cells false 2 (pC sh.P),.cells false 3 (tC sh.T)] (.int .i64 0) [.cells false 2 (pC sh.P),.cells false 3 (tC sh.T)] := by
 have hG : fnOf Tryz.prog 55 = some Tryz.f55 := by kernel_rfl
 obtain ⟨os,hops⟩ : ∃ os,drawsF Tryz.f55 = os := ⟨_,rfl⟩
 have hbs := draws_map hops (ls := [[0,1,3,0,15],[0,1,3,0,0,31,63]]) (by kernel_rfl)
 simp only [drawsF,drawsC,Tryz.f55,List.nil_append,List.append_nil,List.cons_append] at hops
 subst hops
 simp only [List.map_cons,List.map_nil,List.cons.injEq,and_true] at hbs
 obtain ⟨hb0,hb1⟩ := hbs
 have a0 : allBef [0,1,3,0,15] 4 = true := by decide
 have a1 : allBef [0,1,3,0,0,31,63] 6 = true := by decide
 obtain ⟨ev,hev⟩ : ∃ ev,ev = evDike nm n o w u := ⟨_,rfl⟩
 have hO1 : OracleOk Tryz.prog (pureO (factF (Tryz.evLDike nm ev))) := factF_ok fun e he M => by
  simp only [Tryz.evLDike,List.mem_cons,List.not_mem_nil,or_false] at he
  subst hev
  rcases he with rfl | rfl | rfl
  ·exact Tryz.aEName nm hm M
  ·exact Tryz.aEOf_dike nm n o w u M
  ·exact Tryz.aEEq_dike nm n o w u M
 have hO2 : OracleOk Tryz.prog (factC (Tryz.evMDike sh nm ev)) := factC_ok fun e he => by
  simp only [Tryz.evMDike,List.mem_cons,List.not_mem_nil,or_false] at he
  subst hev
  rcases he with rfl | rfl | rfl
  ·exact ⟨by simpa [CallRes.mem,shA] using Tryz.aMCheckX sh (ckMem sh (evDike nm n o w u)) 0 1 false false rfl rfl,by simp⟩
  ·exact ⟨by simpa [CallRes.mem] using Tryz.aAlone_dike sh nm n o w u,by simp [ckMem]⟩
  ·exact ⟨by simpa [CallRes.mem,shA] using Tryz.aCkDike nm n o w u hn hz ho hw hw2 hu _ _ _,by simp⟩
 have hO := OracleOk.or' hO1 hO2
 obtain ⟨O,hOO⟩ : ∃ O,O = Oracle.or (pureO (factF (Tryz.evLDike nm ev))) (factC (Tryz.evMDike sh nm ev)) := ⟨_,rfl⟩
 rw [← hOO] at hO
 have h : callFn (tyOf Tryz.prog) (fun _ => []) (fnOf Tryz.prog) O 1 55 [shA sh,.agg (evDike nm n o w u)] [.cells false 2 (pC sh.P),.cells false 3 (tC sh.T)] = some ⟨.int .i64 0,some [.cells false 2 (pC sh.P),.cells false 3 (tC sh.T)],[]⟩ := by
  rw [hOO,hev]
  simp [presentIds,-runDraw,runDraw_light hb0,runDraw_light hb1,runDrawL,lightAll,lightRec,a0,a1,Nat.testBit,-aField,Tryz.fieldK0,Tryz.fieldK1,callFn,hG,Tryz.f55,Oracle.or,pureO,factF,factC,Tryz.evLDike,Tryz.evMDike,shA,ckMem,blankE,evDike,aBuild,fieldPlaces,pC_refs,tC_refs,pC_ren,tC_ren,pC_ok,tC_ok,List.idxOf?_cons]
 have := (callFn_sound Tryz.mixed (tyOf_ok _) hO (fnOf_ok _) h).1
 simpa [CallRes.mem] using this
theorem Tryz.aAlone_tilt (sh : Sheet) (nm : List UInt8) (i : Nat) (c : Z3) :
  ACallsTo Tryz.prog 220 [.agg (evTilt nm (turnT i) c),.ptr 4 0] (ckMem sh (evTilt nm (turnT i) c) ++ [.cells true 0 (blankE 5 nm)]) (.tuple []) (ckMem sh (evTilt nm (turnT i) c) ++ [.cells true 0 (evTilt nm (turnT i) c)]) := by
 have hG : fnOf Tryz.prog 220 = some Tryz.f220 := by kernel_rfl
 have h : callFn (tyOf Tryz.prog) (fun _ => []) (fnOf Tryz.prog) noOracle 1 220 [.agg (evTilt nm (turnT i) c),.ptr 4 0] (ckMem sh (evTilt nm (turnT i) c) ++ [.cells true 0 (blankE 5 nm)]) = some ⟨.tuple [],some (ckMem sh (evTilt nm (turnT i) c) ++ [.cells true 0 (evTilt nm (turnT i) c)]),[]⟩ := by
  simp [callFn,hG,Tryz.f220,ckMem,blankE,evTilt,pC_refs,tC_refs,pC_ren,tC_ren,List.idxOf?_cons]
 have := (callFn_sound Tryz.mixed (tyOf_ok _) (noOracle_ok _) (fnOf_ok _) h).1
 simpa [CallRes.mem] using this
noncomputable def Tryz.evLTilt (nm : List UInt8) (ev : List AV) : List (FuncId × List AV × AV) := [
 (86,[.str nm],.int .i64 0),
 (87,[.agg ev],.agg [.func 220 [],.func 221 [],.func 222 [],.func 223 [],.func 224 []]),
 (88,[.agg ev,.agg ev],.bool true)]
noncomputable def Tryz.evMTilt (sh : Sheet) (nm : List UInt8) (ev : List AV) : List (FuncId × List AV × Mem × CallRes) := [
 (54,[shA sh],ckMem sh ev,⟨.int .i64 0,none,[]⟩),
 (220,[.agg ev,.ptr 4 0],ckMem sh ev ++ [.cells true 0 (blankE 5 nm)],⟨.tuple [],some (ckMem sh ev ++ [.cells true 0 ev]),[]⟩),
 (221,[shA sh,.agg ev],ckMem sh ev ++ [.cells true 0 ev],⟨.int .i64 0,none,[]⟩)]
theorem Tryz.aECheck_tilt (sh : Sheet) (nm : List UInt8) (i : Nat) (c : Z3) (hm : nm ∈ eNames) (hc : z3Le 99 c) :
  ACallsTo Tryz.prog 55 [shA sh,.agg (evTilt nm (turnT i) c)] [.cells false 2 (pC sh.P),.cells false 3 (tC sh.T)] (.int .i64 0) [.cells false 2 (pC sh.P),.cells false 3 (tC sh.T)] := by
 have hG : fnOf Tryz.prog 55 = some Tryz.f55 := by kernel_rfl
 obtain ⟨os,hops⟩ : ∃ os,drawsF Tryz.f55 = os := ⟨_,rfl⟩
 have hbs := draws_map hops (ls := [[0,1,3,0,15],[0,1,3,0,0,31,63]]) (by kernel_rfl)
 simp only [drawsF,drawsC,Tryz.f55,List.nil_append,List.append_nil,List.cons_append] at hops
 subst hops
 simp only [List.map_cons,List.map_nil,List.cons.injEq,and_true] at hbs
 obtain ⟨hb0,hb1⟩ := hbs
 have a0 : allBef [0,1,3,0,15] 4 = true := by decide
 have a1 : allBef [0,1,3,0,0,31,63] 6 = true := by decide
 obtain ⟨ev,hev⟩ : ∃ ev,ev = evTilt nm (turnT i) c := ⟨_,rfl⟩
 have hO1 : OracleOk Tryz.prog (pureO (factF (Tryz.evLTilt nm ev))) := factF_ok fun e he M => by
  simp only [Tryz.evLTilt,List.mem_cons,List.not_mem_nil,or_false] at he
  subst hev
  rcases he with rfl | rfl | rfl
  ·exact Tryz.aEName nm hm M
  ·exact Tryz.aEOf_tilt nm (turnT i) c M
  ·exact Tryz.aEEq_tilt nm (turnT i) c M
 have hO2 : OracleOk Tryz.prog (factC (Tryz.evMTilt sh nm ev)) := factC_ok fun e he => by
  simp only [Tryz.evMTilt,List.mem_cons,List.not_mem_nil,or_false] at he
  subst hev
  rcases he with rfl | rfl | rfl
  ·exact ⟨by simpa [CallRes.mem,shA] using Tryz.aMCheckX sh (ckMem sh (evTilt nm (turnT i) c)) 0 1 false false rfl rfl,by simp⟩
  ·exact ⟨by simpa [CallRes.mem] using Tryz.aAlone_tilt sh nm i c,by simp [ckMem]⟩
  ·exact ⟨by simpa [CallRes.mem,shA] using Tryz.aCkTilt nm i c hc _ _ _,by simp⟩
 have hO := OracleOk.or' hO1 hO2
 obtain ⟨O,hOO⟩ : ∃ O,O = Oracle.or (pureO (factF (Tryz.evLTilt nm ev))) (factC (Tryz.evMTilt sh nm ev)) := ⟨_,rfl⟩
 rw [← hOO] at hO
 have h : callFn (tyOf Tryz.prog) (fun _ => []) (fnOf Tryz.prog) O 1 55 [shA sh,.agg (evTilt nm (turnT i) c)] [.cells false 2 (pC sh.P),.cells false 3 (tC sh.T)] = some ⟨.int .i64 0,some [.cells false 2 (pC sh.P),.cells false 3 (tC sh.T)],[]⟩ := by
  rw [hOO,hev]
  simp [presentIds,-runDraw,runDraw_light hb0,runDraw_light hb1,runDrawL,lightAll,lightRec,a0,a1,Nat.testBit,-aField,Tryz.fieldK0,Tryz.fieldK1,callFn,hG,Tryz.f55,Oracle.or,pureO,factF,factC,Tryz.evLTilt,Tryz.evMTilt,shA,ckMem,blankE,evTilt,aBuild,fieldPlaces,pC_refs,tC_refs,pC_ren,tC_ren,pC_ok,tC_ok,List.idxOf?_cons]
 have := (callFn_sound Tryz.mixed (tyOf_ok _) hO (fnOf_ok _) h).1
 simpa [CallRes.mem] using this
end Go.Proofs
