/- See I57. -/
import Derived.Test.YtahfjdgeebjiaaaGreatDoorI41
set_option linter.all false
namespace Go.Proofs
open Go.Eng
theorem Tryz.aFEq (L : List (List UInt8)) (hl : L.length ≤ 1000) (m : Mem) (b : Nat) (o : Bool) (hb : m[b]? = some (.cells o 1 (stC L))) :
  ACallsTo Tryz.prog 142 [.slice b 0 L.length none,.slice b 0 L.length none] m (.bool true) m := by
 have hG : fnOf Tryz.prog 142 = some Tryz.f142 := by kernel_rfl
 have lb := (List.getElem?_eq_some_iff.1 hb).1
 have hO : OracleOk Tryz.prog (condO 225 [.slice b 0 L.length none,.slice b 0 L.length none] (.bool true) (fun M => ∃ ext,M = m ++ ext)) := condO_ok fun M hM => by
  obtain ⟨ext,rfl⟩ := hM
  exact Tryz.aEqF L hl _ b o (by rw [List.getElem?_append_left lb]; exact hb)
 have h : callFn (tyOf Tryz.prog) (fun _ => []) (fnOf Tryz.prog) (condO 225 [.slice b 0 L.length none,.slice b 0 L.length none] (.bool true) (fun M => ∃ ext,M = m ++ ext)) 1 142 [.slice b 0 L.length none,.slice b 0 L.length none] m = some ⟨.bool true,none,[]⟩ := by
  have e0 : ∃ ext,m = m ++ ext := ⟨[],by simp⟩
  have e1 : (∃ ext,m = m ++ ext) = True := eq_true e0
  clear hO
  simp [callFn,hG,Tryz.f142,condO,-List.self_eq_append_right,e1]
 have := (callFn_sound Tryz.mixed (tyOf_ok _) hO (fnOf_ok _) h).1
 simpa [CallRes.mem] using this
set_option maxHeartbeats 1600000 in
theorem Tryz.aEqFn1 (n : Nat) (hn : n ≤ 1000) (L1 : List (List UInt8)) (hl1 : L1.length = n) (m : Mem) (c r1 : Nat) (o q1 : Bool) (hc : m[c]? = some (.cells o 1 [.slice r1 0 n none])) (hr1 : m[r1]? = some (.cells q1 1 (stC L1))) :
  ACallsTo Tryz.prog 226 [.slice c 0 1 none,.slice c 0 1 none,.func 142 []] m (.bool true) m := by
 have hG : fnOf Tryz.prog 226 = some Tryz.f226 := by kernel_rfl
 have hO : OracleOk Tryz.prog (condF [(142,[.slice r1 0 n none,.slice r1 0 n none],.bool true)] (fun M => M = m)) := condF_ok fun e he M hM => by
  subst hM
  simp only [List.mem_cons,List.not_mem_nil,or_false] at he
  subst he
  ·have := Tryz.aFEq L1 (by omega) M r1 q1 hr1
   rw [hl1] at this
   exact this
 have w1 : IntKind.i64.wrap 1 = 1 := rfl
 have w2 : IntKind.i64.wrap 2 = 2 := rfl
 have h : callFn (tyOf Tryz.prog) (fun _ => [17]) (fnOf Tryz.prog) (condF [(142,[.slice r1 0 n none,.slice r1 0 n none],.bool true)] (fun M => M = m)) 5 226 [.slice c 0 1 none,.slice c 0 1 none,.func 142 []] m = some ⟨.bool true,none,[]⟩ := by
  clear hO
  simp [callFn,hG,Tryz.f226,condF,pureO,factF,execC_loop,iter,hc,w1,w2]
 have := (callFn_sound Tryz.mixed (tyOf_ok _) hO (fnOf_ok _) h).1
 simpa [CallRes.mem] using this
set_option maxHeartbeats 1600000 in
theorem Tryz.aEqFn2 (n : Nat) (hn : n ≤ 1000) (L1 : List (List UInt8)) (hl1 : L1.length = n) (L2 : List (List UInt8)) (hl2 : L2.length = n) (m : Mem) (c r1 r2 : Nat) (o q1 q2 : Bool) (hc : m[c]? = some (.cells o 1 [.slice r1 0 n none,.slice r2 0 n none])) (hr1 : m[r1]? = some (.cells q1 1 (stC L1))) (hr2 : m[r2]? = some (.cells q2 1 (stC L2))) :
  ACallsTo Tryz.prog 226 [.slice c 0 2 none,.slice c 0 2 none,.func 142 []] m (.bool true) m := by
 have hG : fnOf Tryz.prog 226 = some Tryz.f226 := by kernel_rfl
 have hO : OracleOk Tryz.prog (condF [(142,[.slice r1 0 n none,.slice r1 0 n none],.bool true),(142,[.slice r2 0 n none,.slice r2 0 n none],.bool true)] (fun M => M = m)) := condF_ok fun e he M hM => by
  subst hM
  simp only [List.mem_cons,List.not_mem_nil,or_false] at he
  rcases he with rfl | rfl
  ·have := Tryz.aFEq L1 (by omega) M r1 q1 hr1
   rw [hl1] at this
   exact this
  ·have := Tryz.aFEq L2 (by omega) M r2 q2 hr2
   rw [hl2] at this
   exact this
 have w1 : IntKind.i64.wrap 1 = 1 := rfl
 have w2 : IntKind.i64.wrap 2 = 2 := rfl
 have h : callFn (tyOf Tryz.prog) (fun _ => [17]) (fnOf Tryz.prog) (condF [(142,[.slice r1 0 n none,.slice r1 0 n none],.bool true),(142,[.slice r2 0 n none,.slice r2 0 n none],.bool true)] (fun M => M = m)) 5 226 [.slice c 0 2 none,.slice c 0 2 none,.func 142 []] m = some ⟨.bool true,none,[]⟩ := by
  clear hO
  simp [callFn,hG,Tryz.f226,condF,pureO,factF,execC_loop,iter,hc,w1,w2]
 have := (callFn_sound Tryz.mixed (tyOf_ok _) hO (fnOf_ok _) h).1
 simpa [CallRes.mem] using this
theorem Tryz.aSF1 (n : Nat) (hn : n ≤ 1000) (L1 : List (List UInt8)) (hl1 : L1.length = n) (m : Mem) (c r1 : Nat) (o q1 : Bool) (hc : m[c]? = some (.cells o 1 [.slice r1 0 n none])) (hr1 : m[r1]? = some (.cells q1 1 (stC L1))) :
  ACallsTo Tryz.prog 143 [.slice c 0 1 none,.slice c 0 1 none] m (.bool true) m := by
 have hG : fnOf Tryz.prog 143 = some Tryz.f143 := by kernel_rfl
 have hO : OracleOk Tryz.prog (condO 226 [.slice c 0 1 none,.slice c 0 1 none,.func 142 []] (.bool true) (fun M => M = m)) := condO_ok fun M hM => by
  subst hM
  exact Tryz.aEqFn1 n hn L1 hl1 M c r1 o q1 hc hr1
 have h : callFn (tyOf Tryz.prog) (fun _ => []) (fnOf Tryz.prog) (condO 226 [.slice c 0 1 none,.slice c 0 1 none,.func 142 []] (.bool true) (fun M => M = m)) 1 143 [.slice c 0 1 none,.slice c 0 1 none] m = some ⟨.bool true,none,[]⟩ := by
  clear hO
  simp [callFn,hG,Tryz.f143,condO]
 have := (callFn_sound Tryz.mixed (tyOf_ok _) hO (fnOf_ok _) h).1
 simpa [CallRes.mem] using this
theorem Tryz.aSF2 (n : Nat) (hn : n ≤ 1000) (L1 : List (List UInt8)) (hl1 : L1.length = n) (L2 : List (List UInt8)) (hl2 : L2.length = n) (m : Mem) (c r1 r2 : Nat) (o q1 q2 : Bool) (hc : m[c]? = some (.cells o 1 [.slice r1 0 n none,.slice r2 0 n none])) (hr1 : m[r1]? = some (.cells q1 1 (stC L1))) (hr2 : m[r2]? = some (.cells q2 1 (stC L2))) :
  ACallsTo Tryz.prog 143 [.slice c 0 2 none,.slice c 0 2 none] m (.bool true) m := by
 have hG : fnOf Tryz.prog 143 = some Tryz.f143 := by kernel_rfl
 have hO : OracleOk Tryz.prog (condO 226 [.slice c 0 2 none,.slice c 0 2 none,.func 142 []] (.bool true) (fun M => M = m)) := condO_ok fun M hM => by
  subst hM
  exact Tryz.aEqFn2 n hn L1 hl1 L2 hl2 M c r1 r2 o q1 q2 hc hr1 hr2
 have h : callFn (tyOf Tryz.prog) (fun _ => []) (fnOf Tryz.prog) (condO 226 [.slice c 0 2 none,.slice c 0 2 none,.func 142 []] (.bool true) (fun M => M = m)) 1 143 [.slice c 0 2 none,.slice c 0 2 none] m = some ⟨.bool true,none,[]⟩ := by
  clear hO
  simp [callFn,hG,Tryz.f143,condO]
 have := (callFn_sound Tryz.mixed (tyOf_ok _) hO (fnOf_ok _) h).1
 simpa [CallRes.mem] using this
theorem Tryz.aEEq_dep0 (nm : List UInt8) (B U : List (List UInt8)) (hB : B.length ≤ 1000) (hU : U.length ≤ 1000) (m : Mem) (b u : Nat) (o1 o2 : Bool) (hb : m[b]? = some (.cells o1 1 (stC B))) (hu : m[u]? = some (.cells o2 1 (stC U))) :
  ACallsTo Tryz.prog 88 [.agg (evDep nm (.slice b 0 B.length none) (.slice u 0 U.length none) (.nilslice)),.agg (evDep nm (.slice b 0 B.length none) (.slice u 0 U.length none) (.nilslice))] m (.bool true) m := by
 have lb := (List.getElem?_eq_some_iff.1 hb).1
 have lu := (List.getElem?_eq_some_iff.1 hu).1
 have hO : OracleOk Tryz.prog (condF [(142,[.slice b 0 B.length none,.slice b 0 B.length none],.bool true),(14,[.slice u 0 U.length none,.slice u 0 U.length none],.bool true)] (fun M => ∃ ext,M = m ++ ext)) := condF_ok fun e he M hM => by
  obtain ⟨ext,rfl⟩ := hM
  simp only [List.mem_cons,List.not_mem_nil,or_false] at he
  rcases he with rfl | rfl
  ·exact Tryz.aFEq B hB _ b o1 (by rw [List.getElem?_append_left lb]; exact hb)
  ·exact Tryz.aEqS U hU _ u o2 (by rw [List.getElem?_append_left lu]; exact hu)
 have k : ∀ f args v E,(f,args,v) ∈ [(142,[.slice b 0 B.length none,.slice b 0 B.length none],.bool true),(14,[.slice u 0 U.length none,.slice u 0 U.length none],.bool true)] → condF [(142,[.slice b 0 B.length none,.slice b 0 B.length none],.bool true),(14,[.slice u 0 U.length none,.slice u 0 U.length none],.bool true)] (fun M => ∃ ext,M = m ++ ext) (.fn f) args (m ++ E) = some ⟨v,none,[]⟩ := fun f args v E h => by
  simp only [List.mem_cons,List.not_mem_nil,or_false,Prod.mk.injEq] at h
  rcases h with ⟨rfl,rfl,rfl⟩ | ⟨rfl,rfl,rfl⟩ <;> simp [condF,pureO,factF]
 have k2 : ∀ f args E,condF [(142,[.slice b 0 B.length none,.slice b 0 B.length none],.bool true),(14,[.slice u 0 U.length none,.slice u 0 U.length none],.bool true)] (fun M => ∃ ext,M = m ++ ext) (.fn f) args (m ++ E) = pureO (factF [(142,[.slice b 0 B.length none,.slice b 0 B.length none],.bool true),(14,[.slice u 0 U.length none,.slice u 0 U.length none],.bool true)]) (.fn f) args (m ++ E) := fun f args E => by
  simp [condF]
 refine Tryz.aEEqG (OracleOk.or' hO Tryz.kO2_ok) ?_ ?_ ?_ ?_
 ·unfold Oracle.or
  rw [k _ _ (.bool true) _ (by simp)]
 ·unfold Oracle.or
  rw [k _ _ (.bool true) _ (by simp)]
 ·unfold Oracle.or
  rw [k2]
  simp [pureO,factF,Tryz.kO2]
 ·unfold Oracle.or
  rw [k2]
  simp [pureO,factF,Tryz.kO2]
theorem Tryz.aEEq_dep1 (nm : List UInt8) (B U : List (List UInt8)) (hB : B.length ≤ 1000) (hU : U.length ≤ 1000) (L1 : List (List UInt8)) (hl1 : L1.length = B.length) (m : Mem) (b u c r1 : Nat) (o1 o2 o3 q1 : Bool) (hb : m[b]? = some (.cells o1 1 (stC B))) (hu : m[u]? = some (.cells o2 1 (stC U))) (hc : m[c]? = some (.cells o3 1 [.slice r1 0 B.length none])) (hr1 : m[r1]? = some (.cells q1 1 (stC L1))) :
  ACallsTo Tryz.prog 88 [.agg (evDep nm (.slice b 0 B.length none) (.slice u 0 U.length none) (.slice c 0 1 none)),.agg (evDep nm (.slice b 0 B.length none) (.slice u 0 U.length none) (.slice c 0 1 none))] m (.bool true) m := by
 have lb := (List.getElem?_eq_some_iff.1 hb).1
 have lu := (List.getElem?_eq_some_iff.1 hu).1
 have lc := (List.getElem?_eq_some_iff.1 hc).1
 have lr1 := (List.getElem?_eq_some_iff.1 hr1).1
 have hO : OracleOk Tryz.prog (condF [(142,[.slice b 0 B.length none,.slice b 0 B.length none],.bool true),(14,[.slice u 0 U.length none,.slice u 0 U.length none],.bool true),(143,[.slice c 0 1 none,.slice c 0 1 none],.bool true)] (fun M => ∃ ext,M = m ++ ext)) := condF_ok fun e he M hM => by
  obtain ⟨ext,rfl⟩ := hM
  simp only [List.mem_cons,List.not_mem_nil,or_false] at he
  rcases he with rfl | rfl | rfl
  ·exact Tryz.aFEq B hB _ b o1 (by rw [List.getElem?_append_left lb]; exact hb)
  ·exact Tryz.aEqS U hU _ u o2 (by rw [List.getElem?_append_left lu]; exact hu)
  ·exact Tryz.aSF1 B.length hB L1 hl1 _ c r1 o3 q1 (by rw [List.getElem?_append_left lc]; exact hc) (by rw [List.getElem?_append_left lr1]; exact hr1)
 have k : ∀ f args v E,(f,args,v) ∈ [(142,[.slice b 0 B.length none,.slice b 0 B.length none],.bool true),(14,[.slice u 0 U.length none,.slice u 0 U.length none],.bool true),(143,[.slice c 0 1 none,.slice c 0 1 none],.bool true)] → condF [(142,[.slice b 0 B.length none,.slice b 0 B.length none],.bool true),(14,[.slice u 0 U.length none,.slice u 0 U.length none],.bool true),(143,[.slice c 0 1 none,.slice c 0 1 none],.bool true)] (fun M => ∃ ext,M = m ++ ext) (.fn f) args (m ++ E) = some ⟨v,none,[]⟩ := fun f args v E h => by
  simp only [List.mem_cons,List.not_mem_nil,or_false,Prod.mk.injEq] at h
  rcases h with ⟨rfl,rfl,rfl⟩ | ⟨rfl,rfl,rfl⟩ | ⟨rfl,rfl,rfl⟩ <;> simp [condF,pureO,factF]
 have k2 : ∀ f args E,condF [(142,[.slice b 0 B.length none,.slice b 0 B.length none],.bool true),(14,[.slice u 0 U.length none,.slice u 0 U.length none],.bool true),(143,[.slice c 0 1 none,.slice c 0 1 none],.bool true)] (fun M => ∃ ext,M = m ++ ext) (.fn f) args (m ++ E) = pureO (factF [(142,[.slice b 0 B.length none,.slice b 0 B.length none],.bool true),(14,[.slice u 0 U.length none,.slice u 0 U.length none],.bool true),(143,[.slice c 0 1 none,.slice c 0 1 none],.bool true)]) (.fn f) args (m ++ E) := fun f args E => by
  simp [condF]
 refine Tryz.aEEqG (OracleOk.or' hO Tryz.kO2_ok) ?_ ?_ ?_ ?_
 ·unfold Oracle.or
  rw [k _ _ (.bool true) _ (by simp)]
 ·unfold Oracle.or
  rw [k _ _ (.bool true) _ (by simp)]
 ·unfold Oracle.or
  rw [k _ _ (.bool true) _ (by simp)]
 ·unfold Oracle.or
  rw [k2]
  simp [pureO,factF,Tryz.kO2]
theorem Tryz.aEEq_dep2 (nm : List UInt8) (B U : List (List UInt8)) (hB : B.length ≤ 1000) (hU : U.length ≤ 1000) (L1 : List (List UInt8)) (hl1 : L1.length = B.length) (L2 : List (List UInt8)) (hl2 : L2.length = B.length) (m : Mem) (b u c r1 r2 : Nat) (o1 o2 o3 q1 q2 : Bool) (hb : m[b]? = some (.cells o1 1 (stC B))) (hu : m[u]? = some (.cells o2 1 (stC U))) (hc : m[c]? = some (.cells o3 1 [.slice r1 0 B.length none,.slice r2 0 B.length none])) (hr1 : m[r1]? = some (.cells q1 1 (stC L1))) (hr2 : m[r2]? = some (.cells q2 1 (stC L2))) :
  ACallsTo Tryz.prog 88 [.agg (evDep nm (.slice b 0 B.length none) (.slice u 0 U.length none) (.slice c 0 2 none)),.agg (evDep nm (.slice b 0 B.length none) (.slice u 0 U.length none) (.slice c 0 2 none))] m (.bool true) m := by
 have lb := (List.getElem?_eq_some_iff.1 hb).1
 have lu := (List.getElem?_eq_some_iff.1 hu).1
 have lc := (List.getElem?_eq_some_iff.1 hc).1
 have lr1 := (List.getElem?_eq_some_iff.1 hr1).1
 have lr2 := (List.getElem?_eq_some_iff.1 hr2).1
 have hO : OracleOk Tryz.prog (condF [(142,[.slice b 0 B.length none,.slice b 0 B.length none],.bool true),(14,[.slice u 0 U.length none,.slice u 0 U.length none],.bool true),(143,[.slice c 0 2 none,.slice c 0 2 none],.bool true)] (fun M => ∃ ext,M = m ++ ext)) := condF_ok fun e he M hM => by
  obtain ⟨ext,rfl⟩ := hM
  simp only [List.mem_cons,List.not_mem_nil,or_false] at he
  rcases he with rfl | rfl | rfl
  ·exact Tryz.aFEq B hB _ b o1 (by rw [List.getElem?_append_left lb]; exact hb)
  ·exact Tryz.aEqS U hU _ u o2 (by rw [List.getElem?_append_left lu]; exact hu)
  ·exact Tryz.aSF2 B.length hB L1 hl1 L2 hl2 _ c r1 r2 o3 q1 q2 (by rw [List.getElem?_append_left lc]; exact hc) (by rw [List.getElem?_append_left lr1]; exact hr1) (by rw [List.getElem?_append_left lr2]; exact hr2)
 have k : ∀ f args v E,(f,args,v) ∈ [(142,[.slice b 0 B.length none,.slice b 0 B.length none],.bool true),(14,[.slice u 0 U.length none,.slice u 0 U.length none],.bool true),(143,[.slice c 0 2 none,.slice c 0 2 none],.bool true)] → condF [(142,[.slice b 0 B.length none,.slice b 0 B.length none],.bool true),(14,[.slice u 0 U.length none,.slice u 0 U.length none],.bool true),(143,[.slice c 0 2 none,.slice c 0 2 none],.bool true)] (fun M => ∃ ext,M = m ++ ext) (.fn f) args (m ++ E) = some ⟨v,none,[]⟩ := fun f args v E h => by
  simp only [List.mem_cons,List.not_mem_nil,or_false,Prod.mk.injEq] at h
  rcases h with ⟨rfl,rfl,rfl⟩ | ⟨rfl,rfl,rfl⟩ | ⟨rfl,rfl,rfl⟩ <;> simp [condF,pureO,factF]
 have k2 : ∀ f args E,condF [(142,[.slice b 0 B.length none,.slice b 0 B.length none],.bool true),(14,[.slice u 0 U.length none,.slice u 0 U.length none],.bool true),(143,[.slice c 0 2 none,.slice c 0 2 none],.bool true)] (fun M => ∃ ext,M = m ++ ext) (.fn f) args (m ++ E) = pureO (factF [(142,[.slice b 0 B.length none,.slice b 0 B.length none],.bool true),(14,[.slice u 0 U.length none,.slice u 0 U.length none],.bool true),(143,[.slice c 0 2 none,.slice c 0 2 none],.bool true)]) (.fn f) args (m ++ E) := fun f args E => by
  simp [condF]
 refine Tryz.aEEqG (OracleOk.or' hO Tryz.kO2_ok) ?_ ?_ ?_ ?_
 ·unfold Oracle.or
  rw [k _ _ (.bool true) _ (by simp)]
 ·unfold Oracle.or
  rw [k _ _ (.bool true) _ (by simp)]
 ·unfold Oracle.or
  rw [k _ _ (.bool true) _ (by simp)]
 ·unfold Oracle.or
  rw [k2]
  simp [pureO,factF,Tryz.kO2]
def Tryz.kindDep : AV := .agg [.func 200 [],.func 201 [],.func 202 [],.func 203 [],.func 204 []]
theorem Tryz.aEOf_dep00 (nm : List UInt8) (n k : Nat) : ACallsTo Tryz.prog 87 [.agg (evDep nm (.slice 0 0 n none) (.slice 1 0 k none) (.nilslice))] [.absent,.absent] Tryz.kindDep [.absent,.absent] := by
 have h : callFn (tyOf Tryz.prog) writesC (fnOf Tryz.prog) Tryz.kO1 6 87 [.agg (evDep nm (.slice 0 0 n none) (.slice 1 0 k none) (.nilslice))] [.absent,.absent] = some ⟨Tryz.kindDep,none,[]⟩ := by as_aux_lemma => kernel_rfl
 have := (callFn_sound Tryz.mixed (tyOf_ok _) Tryz.kO1_ok (fnOf_ok _) h).1
 simpa [CallRes.mem] using this
theorem Tryz.aEOf_dep0 (nm : List UInt8) (n k : Nat) (M : Mem) (hM : 5 ≤ M.length ∨ (4 ≤ M.length ∧ 0 = 0)) : ACallsTo Tryz.prog 87 [.agg (evDep nm (.slice 2 0 n none) (.slice 3 0 k none) (.nilslice))] M Tryz.kindDep M := by
 have := ACallsTo.frame (M := M) (new := []) [2,3] rfl (by intro k hk; simp at hk; omega) (by rfl) (fun i t hs => by
  match i with
  | 0 => simp at hs; subst hs; trivial
  | 1 => simp at hs; subst hs; trivial
  | i + 2 => simp at hs) rfl (Tryz.aEOf_dep00 nm n k)
 simpa [evDep,AV.rens,AV.ren,back,Tryz.kindDep] using this
def dpBase0 (s : Sheet) (u0 : List UInt8) (Z : List Int) : Mem := [.cells false 2 (pC s.P),.cells false 3 (tC s.T),.cells false 1 (qC (qH Z)),.cells false 1 [.str u0]]
def dpMem0 (s : Sheet) (u0 : List UInt8) (Z : List Int) (ev : List AV) : Mem := [.cells false 2 (pC s.P),.cells false 3 (tC s.T),.cells false 1 (qC (qH Z)),.cells false 1 [.str u0],.cells true 0 [.slice 0 0 s.P.length none,.slice 1 0 s.T.length none],.cells true 0 ev]
set_option maxHeartbeats 1600000 in
theorem Tryz.aAlone_dep0 (s : Sheet) (nm : List UInt8) (u0 : List UInt8) (Z : List Int) :
  ACallsTo Tryz.prog 200 [.agg (evDep nm (.slice 2 0 Z.length none) (.slice 3 0 1 none) (.nilslice)),.ptr 6 0] (dpMem0 s u0 Z (evDep nm (.slice 2 0 Z.length none) (.slice 3 0 1 none) (.nilslice)) ++ [.cells true 0 (blankE 1 nm)]) (.tuple []) (dpMem0 s u0 Z (evDep nm (.slice 2 0 Z.length none) (.slice 3 0 1 none) (.nilslice)) ++ [.cells true 0 (evDep nm (.slice 2 0 Z.length none) (.slice 3 0 1 none) (.nilslice))]) := by
 have hG : fnOf Tryz.prog 200 = some Tryz.f200 := by kernel_rfl
 have h : callFn (tyOf Tryz.prog) (fun _ => []) (fnOf Tryz.prog) noOracle 1 200 [.agg (evDep nm (.slice 2 0 Z.length none) (.slice 3 0 1 none) (.nilslice)),.ptr 6 0] (dpMem0 s u0 Z (evDep nm (.slice 2 0 Z.length none) (.slice 3 0 1 none) (.nilslice)) ++ [.cells true 0 (blankE 1 nm)]) = some ⟨.tuple [],some (dpMem0 s u0 Z (evDep nm (.slice 2 0 Z.length none) (.slice 3 0 1 none) (.nilslice)) ++ [.cells true 0 (evDep nm (.slice 2 0 Z.length none) (.slice 3 0 1 none) (.nilslice))]),[]⟩ := by
  simp [callFn,hG,Tryz.f200,dpMem0,blankE,evDep,pC_refs,tC_refs,pC_ren,tC_ren,qC_refs,qC_ren,List.idxOf?_cons]
 have := (callFn_sound Tryz.mixed (tyOf_ok _) (noOracle_ok _) (fnOf_ok _) h).1
 simpa [CallRes.mem] using this
noncomputable def Tryz.evMDep0 (s : Sheet) (u0 : List UInt8) (Z : List Int) (nm : List UInt8) (ev : List AV) : List (FuncId × List AV × Mem × CallRes) := [
 (54,[shA s],dpMem0 s u0 Z ev,⟨.int .i64 0,none,[]⟩),
 (87,[.agg ev],dpMem0 s u0 Z ev ++ [.cells true 0 (blankE 1 nm)],⟨Tryz.kindDep,none,[]⟩),
 (200,[.agg ev,.ptr 6 0],dpMem0 s u0 Z ev ++ [.cells true 0 (blankE 1 nm)],⟨.tuple [],some (dpMem0 s u0 Z ev ++ [.cells true 0 ev]),[]⟩),
 (88,[.agg ev,.agg ev],dpMem0 s u0 Z ev ++ [.cells true 0 ev],⟨.bool true,none,[]⟩),
 (87,[.agg ev],dpMem0 s u0 Z ev ++ [.cells true 0 ev],⟨Tryz.kindDep,none,[]⟩),
 (201,[shA s,.agg ev],dpMem0 s u0 Z ev ++ [.cells true 0 ev],⟨.int .i64 0,none,[]⟩)]
set_option maxHeartbeats 4000000 in
theorem Tryz.aECheck_dep0 (s : Sheet) (nm : List UInt8) (u0 : List UInt8) (Z : List Int) (hm : nm ∈ eNames) (n0 : u0 ∈ eNames)  (hZ : ∀ z ∈ Z,z.natAbs < 1000) (hl : Z.length ≤ 1000) (hn : Z.length = s.P.length) :
  ACallsTo Tryz.prog 55 [shA s,.agg (evDep nm (.slice 2 0 Z.length none) (.slice 3 0 1 none) (.nilslice))] (dpBase0 s u0 Z) (.int .i64 0) (dpBase0 s u0 Z) := by
 have hG : fnOf Tryz.prog 55 = some Tryz.f55 := by kernel_rfl
 obtain ⟨os,hops⟩ : ∃ os,drawsF Tryz.f55 = os := ⟨_,rfl⟩
 have hbs := draws_map hops (ls := [[0,1,3,0,15],[0,1,3,0,0,31,63]]) (by kernel_rfl)
 simp only [drawsF,drawsC,Tryz.f55,List.nil_append,List.append_nil,List.cons_append] at hops
 subst hops
 simp only [List.map_cons,List.map_nil,List.cons.injEq,and_true] at hbs
 obtain ⟨hb0,hb1⟩ := hbs
 have a0 : allBef [0,1,3,0,15] 4 = true := by decide
 have a1 : allBef [0,1,3,0,0,31,63] 6 = true := by decide
 have hO1 : OracleOk Tryz.prog (pureO (factF [(86,[.str nm],.int .i64 0)])) := factF_ok fun e he M => by
  simp only [List.mem_cons,List.not_mem_nil,or_false] at he
  subst he
  exact Tryz.aEName nm hm M
 obtain ⟨ev,hev⟩ : ∃ ev,ev = evDep nm (.slice 2 0 Z.length none) (.slice 3 0 1 none) (.nilslice) := ⟨_,rfl⟩
 have hO2 : OracleOk Tryz.prog (factC (Tryz.evMDep0 s u0 Z nm ev)) := factC_ok fun e he => by
  simp only [Tryz.evMDep0,List.mem_cons,List.not_mem_nil,or_false] at he
  subst hev
  have hc := Tryz.aCkDep0 s nm u0 n0  Z hZ hl hn (dpMem0 s u0 Z (evDep nm (.slice 2 0 Z.length none) (.slice 3 0 1 none) (.nilslice)) ++ [.cells true 0 (evDep nm (.slice 2 0 Z.length none) (.slice 3 0 1 none) (.nilslice))]) 2 3 false false false false rfl rfl rfl rfl
  have hq := Tryz.aEEq_dep0 nm ((qH Z).map ratS) [u0] (by simp [qH]; omega) (by simp) (dpMem0 s u0 Z (evDep nm (.slice 2 0 Z.length none) (.slice 3 0 1 none) (.nilslice)) ++ [.cells true 0 (evDep nm (.slice 2 0 Z.length none) (.slice 3 0 1 none) (.nilslice))]) 2 3 false false (by rw [← qC_stC]; rfl) rfl
  have hz : ((qH Z).map ratS).length = Z.length := by simp [qH]
  rw [hz] at hq
  rcases he with rfl | rfl | rfl | rfl | rfl | rfl
  ·exact ⟨by simpa [CallRes.mem,shA] using Tryz.aMCheckX s (dpMem0 s u0 Z (evDep nm (.slice 2 0 Z.length none) (.slice 3 0 1 none) (.nilslice))) 0 1 false false rfl rfl,by simp⟩
  ·exact ⟨by simpa [CallRes.mem] using Tryz.aEOf_dep0 nm Z.length 1 (dpMem0 s u0 Z (evDep nm (.slice 2 0 Z.length none) (.slice 3 0 1 none) (.nilslice)) ++ [.cells true 0 (blankE 1 nm)]) (by simp [dpMem0]),by simp⟩
  ·exact ⟨by simpa [CallRes.mem] using Tryz.aAlone_dep0 s nm u0 Z,by simp [dpMem0]⟩
  ·exact ⟨by simpa [CallRes.mem] using hq,by simp⟩
  ·exact ⟨by simpa [CallRes.mem] using Tryz.aEOf_dep0 nm Z.length 1 (dpMem0 s u0 Z (evDep nm (.slice 2 0 Z.length none) (.slice 3 0 1 none) (.nilslice)) ++ [.cells true 0 (evDep nm (.slice 2 0 Z.length none) (.slice 3 0 1 none) (.nilslice))]) (by simp [dpMem0]),by simp⟩
  ·exact ⟨by simpa [CallRes.mem] using hc,by simp⟩
 have hO := OracleOk.or' hO1 hO2
 have h : callFn (tyOf Tryz.prog) (fun _ => []) (fnOf Tryz.prog) (Oracle.or (pureO (factF [(86,[.str nm],.int .i64 0)])) (factC (Tryz.evMDep0 s u0 Z nm ev))) 1 55 [shA s,.agg (evDep nm (.slice 2 0 Z.length none) (.slice 3 0 1 none) (.nilslice))] (dpBase0 s u0 Z) = some ⟨.int .i64 0,some (dpBase0 s u0 Z),[]⟩ := by
  rw [hev]
  clear hO hO1 hO2 hn
  simp [presentIds,-runDraw,runDraw_light hb0,runDraw_light hb1,runDrawL,lightAll,lightRec,a0,a1,Nat.testBit,-aField,Tryz.fieldK0,Tryz.fieldK1,callFn,hG,Tryz.f55,Oracle.or,pureO,factF,factC,Tryz.evMDep0,Tryz.kindDep,shA,dpMem0,dpBase0,blankE,evDep,aBuild,fieldPlaces,pC_refs,tC_refs,pC_ren,tC_ren,pC_ok,tC_ok,qC_refs,qC_ren,qC_ok,List.idxOf?_cons]
 have := (callFn_sound Tryz.mixed (tyOf_ok _) hO (fnOf_ok _) h).1
 simpa [CallRes.mem] using this
theorem Tryz.aEOf_dep10 (nm : List UInt8) (n k : Nat) : ACallsTo Tryz.prog 87 [.agg (evDep nm (.slice 0 0 n none) (.slice 1 0 k none) (.slice 2 0 1 none))] [.absent,.absent,.absent] Tryz.kindDep [.absent,.absent,.absent] := by
 have h : callFn (tyOf Tryz.prog) writesC (fnOf Tryz.prog) Tryz.kO1 6 87 [.agg (evDep nm (.slice 0 0 n none) (.slice 1 0 k none) (.slice 2 0 1 none))] [.absent,.absent,.absent] = some ⟨Tryz.kindDep,none,[]⟩ := by as_aux_lemma => kernel_rfl
 have := (callFn_sound Tryz.mixed (tyOf_ok _) Tryz.kO1_ok (fnOf_ok _) h).1
 simpa [CallRes.mem] using this
theorem Tryz.aEOf_dep1 (nm : List UInt8) (n k : Nat) (M : Mem) (hM : 5 ≤ M.length ∨ (4 ≤ M.length ∧ 1 = 0)) : ACallsTo Tryz.prog 87 [.agg (evDep nm (.slice 2 0 n none) (.slice 3 0 k none) (.slice 4 0 1 none))] M Tryz.kindDep M := by
 have := ACallsTo.frame (M := M) (new := []) [2,3,4] rfl (by intro k hk; simp at hk; omega) (by rfl) (fun i t hs => by
  match i with
  | 0 => simp at hs; subst hs; trivial
  | 1 => simp at hs; subst hs; trivial
  | 2 => simp at hs; subst hs; trivial
  | i + 3 => simp at hs) rfl (Tryz.aEOf_dep10 nm n k)
 simpa [evDep,AV.rens,AV.ren,back,Tryz.kindDep] using this
def dpBase1 (s : Sheet) (u0 u1 : List UInt8) (Z Y1 : List Int) : Mem := [.cells false 2 (pC s.P),.cells false 3 (tC s.T),.cells false 1 (qC (qH Z)),.cells false 1 [.str u0,.str u1],.cells false 1 [.slice 5 0 Z.length none],.cells false 1 (qC (qH Y1))]
def dpMem1 (s : Sheet) (u0 u1 : List UInt8) (Z Y1 : List Int) (ev : List AV) : Mem := [.cells false 2 (pC s.P),.cells false 3 (tC s.T),.cells false 1 (qC (qH Z)),.cells false 1 [.str u0,.str u1],.cells false 1 [.slice 5 0 Z.length none],.cells false 1 (qC (qH Y1)),.cells true 0 [.slice 0 0 s.P.length none,.slice 1 0 s.T.length none],.cells true 0 ev]
set_option maxHeartbeats 1600000 in
theorem Tryz.aAlone_dep1 (s : Sheet) (nm : List UInt8) (u0 u1 : List UInt8) (Z Y1 : List Int) :
  ACallsTo Tryz.prog 200 [.agg (evDep nm (.slice 2 0 Z.length none) (.slice 3 0 2 none) (.slice 4 0 1 none)),.ptr 8 0] (dpMem1 s u0 u1 Z Y1 (evDep nm (.slice 2 0 Z.length none) (.slice 3 0 2 none) (.slice 4 0 1 none)) ++ [.cells true 0 (blankE 1 nm)]) (.tuple []) (dpMem1 s u0 u1 Z Y1 (evDep nm (.slice 2 0 Z.length none) (.slice 3 0 2 none) (.slice 4 0 1 none)) ++ [.cells true 0 (evDep nm (.slice 2 0 Z.length none) (.slice 3 0 2 none) (.slice 4 0 1 none))]) := by
 have hG : fnOf Tryz.prog 200 = some Tryz.f200 := by kernel_rfl
 have h : callFn (tyOf Tryz.prog) (fun _ => []) (fnOf Tryz.prog) noOracle 1 200 [.agg (evDep nm (.slice 2 0 Z.length none) (.slice 3 0 2 none) (.slice 4 0 1 none)),.ptr 8 0] (dpMem1 s u0 u1 Z Y1 (evDep nm (.slice 2 0 Z.length none) (.slice 3 0 2 none) (.slice 4 0 1 none)) ++ [.cells true 0 (blankE 1 nm)]) = some ⟨.tuple [],some (dpMem1 s u0 u1 Z Y1 (evDep nm (.slice 2 0 Z.length none) (.slice 3 0 2 none) (.slice 4 0 1 none)) ++ [.cells true 0 (evDep nm (.slice 2 0 Z.length none) (.slice 3 0 2 none) (.slice 4 0 1 none))]),[]⟩ := by
  simp [callFn,hG,Tryz.f200,dpMem1,blankE,evDep,pC_refs,tC_refs,pC_ren,tC_ren,qC_refs,qC_ren,List.idxOf?_cons]
 have := (callFn_sound Tryz.mixed (tyOf_ok _) (noOracle_ok _) (fnOf_ok _) h).1
 simpa [CallRes.mem] using this
noncomputable def Tryz.evMDep1 (s : Sheet) (u0 u1 : List UInt8) (Z Y1 : List Int) (nm : List UInt8) (ev : List AV) : List (FuncId × List AV × Mem × CallRes) := [
 (54,[shA s],dpMem1 s u0 u1 Z Y1 ev,⟨.int .i64 0,none,[]⟩),
 (87,[.agg ev],dpMem1 s u0 u1 Z Y1 ev ++ [.cells true 0 (blankE 1 nm)],⟨Tryz.kindDep,none,[]⟩),
 (200,[.agg ev,.ptr 8 0],dpMem1 s u0 u1 Z Y1 ev ++ [.cells true 0 (blankE 1 nm)],⟨.tuple [],some (dpMem1 s u0 u1 Z Y1 ev ++ [.cells true 0 ev]),[]⟩),
 (88,[.agg ev,.agg ev],dpMem1 s u0 u1 Z Y1 ev ++ [.cells true 0 ev],⟨.bool true,none,[]⟩),
 (87,[.agg ev],dpMem1 s u0 u1 Z Y1 ev ++ [.cells true 0 ev],⟨Tryz.kindDep,none,[]⟩),
 (201,[shA s,.agg ev],dpMem1 s u0 u1 Z Y1 ev ++ [.cells true 0 ev],⟨.int .i64 0,none,[]⟩)]
set_option maxHeartbeats 4000000 in
theorem Tryz.aECheck_dep1 (s : Sheet) (nm : List UInt8) (u0 u1 : List UInt8) (Z Y1 : List Int) (hm : nm ∈ eNames) (n0 : u0 ∈ eNames) (n1 : u1 ∈ eNames) (d01 : u1 ≠ u0) (hZ : ∀ z ∈ Z,z.natAbs < 1000) (hl : Z.length ≤ 1000) (hn : Z.length = s.P.length) (hY1 : ∀ z ∈ Y1,z.natAbs < 1000) (hl1 : Y1.length = s.P.length) (hle1 : ∀ (i : Nat) z y,Z[i]? = some z → Y1[i]? = some y → z ≤ y) :
  ACallsTo Tryz.prog 55 [shA s,.agg (evDep nm (.slice 2 0 Z.length none) (.slice 3 0 2 none) (.slice 4 0 1 none))] (dpBase1 s u0 u1 Z Y1) (.int .i64 0) (dpBase1 s u0 u1 Z Y1) := by
 have hG : fnOf Tryz.prog 55 = some Tryz.f55 := by kernel_rfl
 obtain ⟨os,hops⟩ : ∃ os,drawsF Tryz.f55 = os := ⟨_,rfl⟩
 have hbs := draws_map hops (ls := [[0,1,3,0,15],[0,1,3,0,0,31,63]]) (by kernel_rfl)
 simp only [drawsF,drawsC,Tryz.f55,List.nil_append,List.append_nil,List.cons_append] at hops
 subst hops
 simp only [List.map_cons,List.map_nil,List.cons.injEq,and_true] at hbs
 obtain ⟨hb0,hb1⟩ := hbs
 have a0 : allBef [0,1,3,0,15] 4 = true := by decide
 have a1 : allBef [0,1,3,0,0,31,63] 6 = true := by decide
 have hO1 : OracleOk Tryz.prog (pureO (factF [(86,[.str nm],.int .i64 0)])) := factF_ok fun e he M => by
  simp only [List.mem_cons,List.not_mem_nil,or_false] at he
  subst he
  exact Tryz.aEName nm hm M
 obtain ⟨ev,hev⟩ : ∃ ev,ev = evDep nm (.slice 2 0 Z.length none) (.slice 3 0 2 none) (.slice 4 0 1 none) := ⟨_,rfl⟩
 have hO2 : OracleOk Tryz.prog (factC (Tryz.evMDep1 s u0 u1 Z Y1 nm ev)) := factC_ok fun e he => by
  simp only [Tryz.evMDep1,List.mem_cons,List.not_mem_nil,or_false] at he
  subst hev
  have hc := Tryz.aCkDep1 s nm u0 u1 n0 n1 d01 Z hZ hl hn Y1 hY1 hl1 hle1 (dpMem1 s u0 u1 Z Y1 (evDep nm (.slice 2 0 Z.length none) (.slice 3 0 2 none) (.slice 4 0 1 none)) ++ [.cells true 0 (evDep nm (.slice 2 0 Z.length none) (.slice 3 0 2 none) (.slice 4 0 1 none))]) 2 3 4 5 false false false false false false rfl rfl rfl rfl rfl rfl
  have hq := Tryz.aEEq_dep1 nm ((qH Z).map ratS) [u0,u1] (by simp [qH]; omega) (by simp) ((qH Y1).map ratS) (by simp [qH]; omega) (dpMem1 s u0 u1 Z Y1 (evDep nm (.slice 2 0 Z.length none) (.slice 3 0 2 none) (.slice 4 0 1 none)) ++ [.cells true 0 (evDep nm (.slice 2 0 Z.length none) (.slice 3 0 2 none) (.slice 4 0 1 none))]) 2 3 4 5 false false false false (by rw [← qC_stC]; rfl) rfl (by rw [show ((qH Z).map ratS).length = Z.length by simp [qH]]; rfl) (by rw [← qC_stC]; rfl)
  have hz : ((qH Z).map ratS).length = Z.length := by simp [qH]
  rw [hz] at hq
  rcases he with rfl | rfl | rfl | rfl | rfl | rfl
  ·exact ⟨by simpa [CallRes.mem,shA] using Tryz.aMCheckX s (dpMem1 s u0 u1 Z Y1 (evDep nm (.slice 2 0 Z.length none) (.slice 3 0 2 none) (.slice 4 0 1 none))) 0 1 false false rfl rfl,by simp⟩
  ·exact ⟨by simpa [CallRes.mem] using Tryz.aEOf_dep1 nm Z.length 2 (dpMem1 s u0 u1 Z Y1 (evDep nm (.slice 2 0 Z.length none) (.slice 3 0 2 none) (.slice 4 0 1 none)) ++ [.cells true 0 (blankE 1 nm)]) (by simp [dpMem1]),by simp⟩
  ·exact ⟨by simpa [CallRes.mem] using Tryz.aAlone_dep1 s nm u0 u1 Z Y1,by simp [dpMem1]⟩
  ·exact ⟨by simpa [CallRes.mem] using hq,by simp⟩
  ·exact ⟨by simpa [CallRes.mem] using Tryz.aEOf_dep1 nm Z.length 2 (dpMem1 s u0 u1 Z Y1 (evDep nm (.slice 2 0 Z.length none) (.slice 3 0 2 none) (.slice 4 0 1 none)) ++ [.cells true 0 (evDep nm (.slice 2 0 Z.length none) (.slice 3 0 2 none) (.slice 4 0 1 none))]) (by simp [dpMem1]),by simp⟩
  ·exact ⟨by simpa [CallRes.mem] using hc,by simp⟩
 have hO := OracleOk.or' hO1 hO2
 have h : callFn (tyOf Tryz.prog) (fun _ => []) (fnOf Tryz.prog) (Oracle.or (pureO (factF [(86,[.str nm],.int .i64 0)])) (factC (Tryz.evMDep1 s u0 u1 Z Y1 nm ev))) 1 55 [shA s,.agg (evDep nm (.slice 2 0 Z.length none) (.slice 3 0 2 none) (.slice 4 0 1 none))] (dpBase1 s u0 u1 Z Y1) = some ⟨.int .i64 0,some (dpBase1 s u0 u1 Z Y1),[]⟩ := by
  rw [hev]
  clear hO hO1 hO2 hn
  simp [presentIds,-runDraw,runDraw_light hb0,runDraw_light hb1,runDrawL,lightAll,lightRec,a0,a1,Nat.testBit,-aField,Tryz.fieldK0,Tryz.fieldK1,callFn,hG,Tryz.f55,Oracle.or,pureO,factF,factC,Tryz.evMDep1,Tryz.kindDep,shA,dpMem1,dpBase1,blankE,evDep,aBuild,fieldPlaces,pC_refs,tC_refs,pC_ren,tC_ren,pC_ok,tC_ok,qC_refs,qC_ren,qC_ok,List.idxOf?_cons]
 have := (callFn_sound Tryz.mixed (tyOf_ok _) hO (fnOf_ok _) h).1
 simpa [CallRes.mem] using this
theorem Tryz.aEOf_dep20 (nm : List UInt8) (n k : Nat) : ACallsTo Tryz.prog 87 [.agg (evDep nm (.slice 0 0 n none) (.slice 1 0 k none) (.slice 2 0 2 none))] [.absent,.absent,.absent] Tryz.kindDep [.absent,.absent,.absent] := by
 have h : callFn (tyOf Tryz.prog) writesC (fnOf Tryz.prog) Tryz.kO1 6 87 [.agg (evDep nm (.slice 0 0 n none) (.slice 1 0 k none) (.slice 2 0 2 none))] [.absent,.absent,.absent] = some ⟨Tryz.kindDep,none,[]⟩ := by as_aux_lemma => kernel_rfl
 have := (callFn_sound Tryz.mixed (tyOf_ok _) Tryz.kO1_ok (fnOf_ok _) h).1
 simpa [CallRes.mem] using this
theorem Tryz.aEOf_dep2 (nm : List UInt8) (n k : Nat) (M : Mem) (hM : 5 ≤ M.length ∨ (4 ≤ M.length ∧ 2 = 0)) : ACallsTo Tryz.prog 87 [.agg (evDep nm (.slice 2 0 n none) (.slice 3 0 k none) (.slice 4 0 2 none))] M Tryz.kindDep M := by
 have := ACallsTo.frame (M := M) (new := []) [2,3,4] rfl (by intro k hk; simp at hk; omega) (by rfl) (fun i t hs => by
  match i with
  | 0 => simp at hs; subst hs; trivial
  | 1 => simp at hs; subst hs; trivial
  | 2 => simp at hs; subst hs; trivial
  | i + 3 => simp at hs) rfl (Tryz.aEOf_dep20 nm n k)
 simpa [evDep,AV.rens,AV.ren,back,Tryz.kindDep] using this
def dpBase2 (s : Sheet) (u0 u1 u2 : List UInt8) (Z Y1 Y2 : List Int) : Mem := [.cells false 2 (pC s.P),.cells false 3 (tC s.T),.cells false 1 (qC (qH Z)),.cells false 1 [.str u0,.str u1,.str u2],.cells false 1 [.slice 5 0 Z.length none,.slice 6 0 Z.length none],.cells false 1 (qC (qH Y1)),.cells false 1 (qC (qH Y2))]
def dpMem2 (s : Sheet) (u0 u1 u2 : List UInt8) (Z Y1 Y2 : List Int) (ev : List AV) : Mem := [.cells false 2 (pC s.P),.cells false 3 (tC s.T),.cells false 1 (qC (qH Z)),.cells false 1 [.str u0,.str u1,.str u2],.cells false 1 [.slice 5 0 Z.length none,.slice 6 0 Z.length none],.cells false 1 (qC (qH Y1)),.cells false 1 (qC (qH Y2)),.cells true 0 [.slice 0 0 s.P.length none,.slice 1 0 s.T.length none],.cells true 0 ev]
set_option maxHeartbeats 1600000 in
theorem Tryz.aAlone_dep2 (s : Sheet) (nm : List UInt8) (u0 u1 u2 : List UInt8) (Z Y1 Y2 : List Int) :
  ACallsTo Tryz.prog 200 [.agg (evDep nm (.slice 2 0 Z.length none) (.slice 3 0 3 none) (.slice 4 0 2 none)),.ptr 9 0] (dpMem2 s u0 u1 u2 Z Y1 Y2 (evDep nm (.slice 2 0 Z.length none) (.slice 3 0 3 none) (.slice 4 0 2 none)) ++ [.cells true 0 (blankE 1 nm)]) (.tuple []) (dpMem2 s u0 u1 u2 Z Y1 Y2 (evDep nm (.slice 2 0 Z.length none) (.slice 3 0 3 none) (.slice 4 0 2 none)) ++ [.cells true 0 (evDep nm (.slice 2 0 Z.length none) (.slice 3 0 3 none) (.slice 4 0 2 none))]) := by
 have hG : fnOf Tryz.prog 200 = some Tryz.f200 := by kernel_rfl
 have h : callFn (tyOf Tryz.prog) (fun _ => []) (fnOf Tryz.prog) noOracle 1 200 [.agg (evDep nm (.slice 2 0 Z.length none) (.slice 3 0 3 none) (.slice 4 0 2 none)),.ptr 9 0] (dpMem2 s u0 u1 u2 Z Y1 Y2 (evDep nm (.slice 2 0 Z.length none) (.slice 3 0 3 none) (.slice 4 0 2 none)) ++ [.cells true 0 (blankE 1 nm)]) = some ⟨.tuple [],some (dpMem2 s u0 u1 u2 Z Y1 Y2 (evDep nm (.slice 2 0 Z.length none) (.slice 3 0 3 none) (.slice 4 0 2 none)) ++ [.cells true 0 (evDep nm (.slice 2 0 Z.length none) (.slice 3 0 3 none) (.slice 4 0 2 none))]),[]⟩ := by
  simp [callFn,hG,Tryz.f200,dpMem2,blankE,evDep,pC_refs,tC_refs,pC_ren,tC_ren,qC_refs,qC_ren,List.idxOf?_cons]
 have := (callFn_sound Tryz.mixed (tyOf_ok _) (noOracle_ok _) (fnOf_ok _) h).1
 simpa [CallRes.mem] using this
noncomputable def Tryz.evMDep2 (s : Sheet) (u0 u1 u2 : List UInt8) (Z Y1 Y2 : List Int) (nm : List UInt8) (ev : List AV) : List (FuncId × List AV × Mem × CallRes) := [
 (54,[shA s],dpMem2 s u0 u1 u2 Z Y1 Y2 ev,⟨.int .i64 0,none,[]⟩),
 (87,[.agg ev],dpMem2 s u0 u1 u2 Z Y1 Y2 ev ++ [.cells true 0 (blankE 1 nm)],⟨Tryz.kindDep,none,[]⟩),
 (200,[.agg ev,.ptr 9 0],dpMem2 s u0 u1 u2 Z Y1 Y2 ev ++ [.cells true 0 (blankE 1 nm)],⟨.tuple [],some (dpMem2 s u0 u1 u2 Z Y1 Y2 ev ++ [.cells true 0 ev]),[]⟩),
 (88,[.agg ev,.agg ev],dpMem2 s u0 u1 u2 Z Y1 Y2 ev ++ [.cells true 0 ev],⟨.bool true,none,[]⟩),
 (87,[.agg ev],dpMem2 s u0 u1 u2 Z Y1 Y2 ev ++ [.cells true 0 ev],⟨Tryz.kindDep,none,[]⟩),
 (201,[shA s,.agg ev],dpMem2 s u0 u1 u2 Z Y1 Y2 ev ++ [.cells true 0 ev],⟨.int .i64 0,none,[]⟩)]
set_option maxHeartbeats 4000000 in
theorem Tryz.aECheck_dep2 (s : Sheet) (nm : List UInt8) (u0 u1 u2 : List UInt8) (Z Y1 Y2 : List Int) (hm : nm ∈ eNames) (n0 : u0 ∈ eNames) (n1 : u1 ∈ eNames) (n2 : u2 ∈ eNames) (d01 : u1 ≠ u0) (d02 : u2 ≠ u0) (d12 : u2 ≠ u1) (hZ : ∀ z ∈ Z,z.natAbs < 1000) (hl : Z.length ≤ 1000) (hn : Z.length = s.P.length) (hY1 : ∀ z ∈ Y1,z.natAbs < 1000) (hl1 : Y1.length = s.P.length) (hle1 : ∀ (i : Nat) z y,Z[i]? = some z → Y1[i]? = some y → z ≤ y) (hY2 : ∀ z ∈ Y2,z.natAbs < 1000) (hl2 : Y2.length = s.P.length) (hle2 : ∀ (i : Nat) z y,Y1[i]? = some z → Y2[i]? = some y → z ≤ y) :
  ACallsTo Tryz.prog 55 [shA s,.agg (evDep nm (.slice 2 0 Z.length none) (.slice 3 0 3 none) (.slice 4 0 2 none))] (dpBase2 s u0 u1 u2 Z Y1 Y2) (.int .i64 0) (dpBase2 s u0 u1 u2 Z Y1 Y2) := by
 have hG : fnOf Tryz.prog 55 = some Tryz.f55 := by kernel_rfl
 obtain ⟨os,hops⟩ : ∃ os,drawsF Tryz.f55 = os := ⟨_,rfl⟩
 have hbs := draws_map hops (ls := [[0,1,3,0,15],[0,1,3,0,0,31,63]]) (by kernel_rfl)
 simp only [drawsF,drawsC,Tryz.f55,List.nil_append,List.append_nil,List.cons_append] at hops
 subst hops
 simp only [List.map_cons,List.map_nil,List.cons.injEq,and_true] at hbs
 obtain ⟨hb0,hb1⟩ := hbs
 have a0 : allBef [0,1,3,0,15] 4 = true := by decide
 have a1 : allBef [0,1,3,0,0,31,63] 6 = true := by decide
 have hO1 : OracleOk Tryz.prog (pureO (factF [(86,[.str nm],.int .i64 0)])) := factF_ok fun e he M => by
  simp only [List.mem_cons,List.not_mem_nil,or_false] at he
  subst he
  exact Tryz.aEName nm hm M
 obtain ⟨ev,hev⟩ : ∃ ev,ev = evDep nm (.slice 2 0 Z.length none) (.slice 3 0 3 none) (.slice 4 0 2 none) := ⟨_,rfl⟩
 have hO2 : OracleOk Tryz.prog (factC (Tryz.evMDep2 s u0 u1 u2 Z Y1 Y2 nm ev)) := factC_ok fun e he => by
  simp only [Tryz.evMDep2,List.mem_cons,List.not_mem_nil,or_false] at he
  subst hev
  have hc := Tryz.aCkDep2 s nm u0 u1 u2 n0 n1 n2 d01 d02 d12 Z hZ hl hn Y1 Y2 hY1 hl1 hle1 hY2 hl2 hle2 (dpMem2 s u0 u1 u2 Z Y1 Y2 (evDep nm (.slice 2 0 Z.length none) (.slice 3 0 3 none) (.slice 4 0 2 none)) ++ [.cells true 0 (evDep nm (.slice 2 0 Z.length none) (.slice 3 0 3 none) (.slice 4 0 2 none))]) 2 3 4 5 6 false false false false false false false rfl rfl rfl rfl rfl rfl rfl
  have hq := Tryz.aEEq_dep2 nm ((qH Z).map ratS) [u0,u1,u2] (by simp [qH]; omega) (by simp) ((qH Y1).map ratS) (by simp [qH]; omega) ((qH Y2).map ratS) (by simp [qH]; omega) (dpMem2 s u0 u1 u2 Z Y1 Y2 (evDep nm (.slice 2 0 Z.length none) (.slice 3 0 3 none) (.slice 4 0 2 none)) ++ [.cells true 0 (evDep nm (.slice 2 0 Z.length none) (.slice 3 0 3 none) (.slice 4 0 2 none))]) 2 3 4 5 6 false false false false false (by rw [← qC_stC]; rfl) rfl (by rw [show ((qH Z).map ratS).length = Z.length by simp [qH]]; rfl) (by rw [← qC_stC]; rfl) (by rw [← qC_stC]; rfl)
  have hz : ((qH Z).map ratS).length = Z.length := by simp [qH]
  rw [hz] at hq
  rcases he with rfl | rfl | rfl | rfl | rfl | rfl
  ·exact ⟨by simpa [CallRes.mem,shA] using Tryz.aMCheckX s (dpMem2 s u0 u1 u2 Z Y1 Y2 (evDep nm (.slice 2 0 Z.length none) (.slice 3 0 3 none) (.slice 4 0 2 none))) 0 1 false false rfl rfl,by simp⟩
  ·exact ⟨by simpa [CallRes.mem] using Tryz.aEOf_dep2 nm Z.length 3 (dpMem2 s u0 u1 u2 Z Y1 Y2 (evDep nm (.slice 2 0 Z.length none) (.slice 3 0 3 none) (.slice 4 0 2 none)) ++ [.cells true 0 (blankE 1 nm)]) (by simp [dpMem2]),by simp⟩
  ·exact ⟨by simpa [CallRes.mem] using Tryz.aAlone_dep2 s nm u0 u1 u2 Z Y1 Y2,by simp [dpMem2]⟩
  ·exact ⟨by simpa [CallRes.mem] using hq,by simp⟩
  ·exact ⟨by simpa [CallRes.mem] using Tryz.aEOf_dep2 nm Z.length 3 (dpMem2 s u0 u1 u2 Z Y1 Y2 (evDep nm (.slice 2 0 Z.length none) (.slice 3 0 3 none) (.slice 4 0 2 none)) ++ [.cells true 0 (evDep nm (.slice 2 0 Z.length none) (.slice 3 0 3 none) (.slice 4 0 2 none))]) (by simp [dpMem2]),by simp⟩
  ·exact ⟨by simpa [CallRes.mem] using hc,by simp⟩
 have hO := OracleOk.or' hO1 hO2
 have h : callFn (tyOf Tryz.prog) (fun _ => []) (fnOf Tryz.prog) (Oracle.or (pureO (factF [(86,[.str nm],.int .i64 0)])) (factC (Tryz.evMDep2 s u0 u1 u2 Z Y1 Y2 nm ev))) 1 55 [shA s,.agg (evDep nm (.slice 2 0 Z.length none) (.slice 3 0 3 none) (.slice 4 0 2 none))] (dpBase2 s u0 u1 u2 Z Y1 Y2) = some ⟨.int .i64 0,some (dpBase2 s u0 u1 u2 Z Y1 Y2),[]⟩ := by
  rw [hev]
  clear hO hO1 hO2 hn
  simp [presentIds,-runDraw,runDraw_light hb0,runDraw_light hb1,runDrawL,lightAll,lightRec,a0,a1,Nat.testBit,-aField,Tryz.fieldK0,Tryz.fieldK1,callFn,hG,Tryz.f55,Oracle.or,pureO,factF,factC,Tryz.evMDep2,Tryz.kindDep,shA,dpMem2,dpBase2,blankE,evDep,aBuild,fieldPlaces,pC_refs,tC_refs,pC_ren,tC_ren,pC_ok,tC_ok,qC_refs,qC_ren,qC_ok,List.idxOf?_cons]
 have := (callFn_sound Tryz.mixed (tyOf_ok _) hO (fnOf_ok _) h).1
 simpa [CallRes.mem] using this
end Go.Proofs
