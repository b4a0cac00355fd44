/- See I57. -/
import Derived.Test.YtahfjdgeebjiaaaGreatDoorI42
set_option linter.all false
namespace Go.Proofs
open Go.Eng
theorem rowK_sub {ks : List Nat} {M : Mem} {b es : Nat} {o : Bool} {cs cs' : List AV} (hu : AV.unders ks.length cs = true) (h : M[b]? = some (.cells o es cs')) (hr : cs' = AV.rens (back ks M.length) cs) : SubSlot ks M b (.cells false es cs) := by
 refine ⟨hu,o,cs',h,fun j v hv => ?_⟩
 rw [hr,rens_eq_map,List.getElem?_map,hv]
 rfl
theorem Tryz.aECheckM_fault (s : Sheet) (nm : List UInt8) (n : Z3) (a : Int) (v : Z3) (hm : nm ∈ eNames) (hn : z3Le 99 n) (hz : zeroZ n = false) (ho : a.natAbs ≤ 1000) (hs : z3Le 99 v) (hd : dotZ v n = 0) (M : Mem) (p t : Nat) (o o' : Bool) (hp : M[p]? = some (.cells o 2 (pC s.P))) (ht : M[t]? = some (.cells o' 3 (tC s.T))) :
  ACallsTo Tryz.prog 55 [.agg [.slice p 0 s.P.length none,.slice t 0 s.T.length none],.agg (evFault nm n a v)] M (.int .i64 0) M := by
 have l0 := (List.getElem?_eq_some_iff.1 hp).1
 have l1 := (List.getElem?_eq_some_iff.1 ht).1
 have := ACallsTo.frame (M := M) (new := []) [p,t] rfl (by simp [l0,l1]) (by rfl) (fun i q hs => by
  match i with
  | 0 => simp at hs; subst hs; exact rowC_sub (pC_closed _) hp List.take_length
  | 1 => simp at hs; subst hs; exact rowC_sub (tC_closed _) ht List.take_length
  | i + 2 => simp at hs) rfl (Tryz.aECheck_fault s nm n a v hm hn hz ho hs hd)
 simpa [shA,evFault,AV.rens,AV.ren,back] using this
theorem Tryz.aECheckM_dike (s : Sheet) (nm : List UInt8) (n : Z3) (a w : Int) (u : List UInt8) (hm : nm ∈ eNames) (hn : z3Le 99 n) (hz : zeroZ n = false) (ho : a.natAbs ≤ 1000) (hw : 0 < w) (hw2 : w < 1000) (hu : u ∈ eNames) (M : Mem) (p t : Nat) (o o' : Bool) (hp : M[p]? = some (.cells o 2 (pC s.P))) (ht : M[t]? = some (.cells o' 3 (tC s.T))) :
  ACallsTo Tryz.prog 55 [.agg [.slice p 0 s.P.length none,.slice t 0 s.T.length none],.agg (evDike nm n a w u)] M (.int .i64 0) M := by
 have l0 := (List.getElem?_eq_some_iff.1 hp).1
 have l1 := (List.getElem?_eq_some_iff.1 ht).1
 have := ACallsTo.frame (M := M) (new := []) [p,t] rfl (by simp [l0,l1]) (by rfl) (fun i q hs => by
  match i with
  | 0 => simp at hs; subst hs; exact rowC_sub (pC_closed _) hp List.take_length
  | 1 => simp at hs; subst hs; exact rowC_sub (tC_closed _) ht List.take_length
  | i + 2 => simp at hs) rfl (Tryz.aECheck_dike s nm n a w u hm hn hz ho hw hw2 hu)
 simpa [shA,evDike,AV.rens,AV.ren,back] using this
theorem Tryz.aECheckM_tilt (s : Sheet) (nm : List UInt8) (i : Nat) (c : Z3) (hm : nm ∈ eNames) (hc : z3Le 99 c) (M : Mem) (p t : Nat) (o o' : Bool) (hp : M[p]? = some (.cells o 2 (pC s.P))) (ht : M[t]? = some (.cells o' 3 (tC s.T))) :
  ACallsTo Tryz.prog 55 [.agg [.slice p 0 s.P.length none,.slice t 0 s.T.length none],.agg (evTilt nm (turnT i) c)] M (.int .i64 0) M := by
 have l0 := (List.getElem?_eq_some_iff.1 hp).1
 have l1 := (List.getElem?_eq_some_iff.1 ht).1
 have := ACallsTo.frame (M := M) (new := []) [p,t] rfl (by simp [l0,l1]) (by rfl) (fun i q hs => by
  match i with
  | 0 => simp at hs; subst hs; exact rowC_sub (pC_closed _) hp List.take_length
  | 1 => simp at hs; subst hs; exact rowC_sub (tC_closed _) ht List.take_length
  | i + 2 => simp at hs) rfl (Tryz.aECheck_tilt s nm i c hm hc)
 simpa [shA,evTilt,AV.rens,AV.ren,back] using this
theorem Tryz.aECheckM_fold (s : Sheet) (nm : List UInt8) (n v : Z3) (d : Deed) (c : Nat) (h1 : 0 < c) (hc : c ≤ 3) (hm : nm ∈ eNames) (hn : z3Le 99 n) (hz : zeroZ n = false) (hs : z3Le 99 v) (hd : dotZ v n = 0) (M : Mem) (p t : Nat) (o o' : Bool) (hp : M[p]? = some (.cells o 2 (pC s.P))) (ht : M[t]? = some (.cells o' 3 (tC s.T))) (b : Nat) (q : Bool) (hb : M[b]? = some (.cells q 2 (pC (knotsL d c)))) :
  ACallsTo Tryz.prog 55 [.agg [.slice p 0 s.P.length none,.slice t 0 s.T.length none],.agg (evFold nm n (.slice b 0 c none) v)] M (.int .i64 0) M := by
 have l0 := (List.getElem?_eq_some_iff.1 hp).1
 have l1 := (List.getElem?_eq_some_iff.1 ht).1
 have l2 := (List.getElem?_eq_some_iff.1 hb).1
 have := ACallsTo.frame (M := M) (new := []) [p,t,b] rfl (by simp [l0,l1,l2]) (by rfl) (fun i q hs => by
  match i with
  | 0 => simp [fkBase] at hs; subst hs; exact rowC_sub (pC_closed _) hp List.take_length
  | 1 => simp [fkBase] at hs; subst hs; exact rowC_sub (tC_closed _) ht List.take_length
  | 2 => simp [fkBase] at hs; subst hs; exact rowC_sub (pC_closed _) hb List.take_length
  | i + 3 => simp [fkBase] at hs) rfl (Tryz.aECheck_fold s nm n v d c h1 hc hm hn hz hs hd)
 simpa [shA,evFold,AV.rens,AV.ren,back] using this
theorem Tryz.aECheckM_dep0 (s : Sheet) (nm : List UInt8) (u0 : List UInt8) (Z : List Int) (hm : nm ∈ eNames) (n0 : u0 ∈ eNames)  (hZ : ∀ z ∈ Z,z.natAbs < 1000) (hl : Z.length ≤ 1000) (hn : Z.length = s.P.length) (M : Mem) (p t : Nat) (o o' : Bool) (hp : M[p]? = some (.cells o 2 (pC s.P))) (ht : M[t]? = some (.cells o' 3 (tC s.T))) (b u : Nat) (q1 q2 : Bool) (hb : M[b]? = some (.cells q1 1 (qC (qH Z)))) (hu : M[u]? = some (.cells q2 1 [.str u0])) :
  ACallsTo Tryz.prog 55 [.agg [.slice p 0 s.P.length none,.slice t 0 s.T.length none],.agg (evDep nm (.slice b 0 Z.length none) (.slice u 0 1 none) (.nilslice))] M (.int .i64 0) M := by
 have lp := (List.getElem?_eq_some_iff.1 hp).1
 have lt := (List.getElem?_eq_some_iff.1 ht).1
 have lb := (List.getElem?_eq_some_iff.1 hb).1
 have lu := (List.getElem?_eq_some_iff.1 hu).1
 have := ACallsTo.frame (M := M) (new := []) [p,t,b,u] rfl (by simp [lp,lt,lb,lu]) (by rfl) (fun i q hs => by
  match i with
  | 0 => simp [dpBase0] at hs; subst hs; exact rowC_sub (pC_closed _) hp List.take_length
  | 1 => simp [dpBase0] at hs; subst hs; exact rowC_sub (tC_closed _) ht List.take_length
  | 2 => simp [dpBase0] at hs; subst hs; exact rowC_sub (qC_closed _) hb List.take_length
  | 3 => simp [dpBase0] at hs; subst hs; exact rowC_sub (by rfl) hu List.take_length
  | i + 4 => simp [dpBase0] at hs) rfl (Tryz.aECheck_dep0 s nm u0 Z hm n0  hZ hl hn)
 simpa [shA,evDep,AV.rens,AV.ren,back] using this
theorem Tryz.aECheckM_dep1 (s : Sheet) (nm : List UInt8) (u0 u1 : List UInt8) (Z Y1 : List Int) (hm : nm ∈ eNames) (n0 : u0 ∈ eNames) (n1 : u1 ∈ eNames) (d01 : u1 ≠ u0) (hZ : ∀ z ∈ Z,z.natAbs < 1000) (hl : Z.length ≤ 1000) (hn : Z.length = s.P.length) (hY1 : ∀ z ∈ Y1,z.natAbs < 1000) (hl1 : Y1.length = s.P.length) (hle1 : ∀ (i : Nat) z y,Z[i]? = some z → Y1[i]? = some y → z ≤ y) (M : Mem) (p t : Nat) (o o' : Bool) (hp : M[p]? = some (.cells o 2 (pC s.P))) (ht : M[t]? = some (.cells o' 3 (tC s.T))) (b u : Nat) (q1 q2 : Bool) (hb : M[b]? = some (.cells q1 1 (qC (qH Z)))) (hu : M[u]? = some (.cells q2 1 [.str u0,.str u1])) (c r1 : Nat) (q3 w1 : Bool) (hc : M[c]? = some (.cells q3 1 [.slice r1 0 Z.length none])) (hr1 : M[r1]? = some (.cells w1 1 (qC (qH Y1)))) :
  ACallsTo Tryz.prog 55 [.agg [.slice p 0 s.P.length none,.slice t 0 s.T.length none],.agg (evDep nm (.slice b 0 Z.length none) (.slice u 0 2 none) (.slice c 0 1 none))] M (.int .i64 0) M := by
 have lp := (List.getElem?_eq_some_iff.1 hp).1
 have lt := (List.getElem?_eq_some_iff.1 ht).1
 have lb := (List.getElem?_eq_some_iff.1 hb).1
 have lu := (List.getElem?_eq_some_iff.1 hu).1
 have lc := (List.getElem?_eq_some_iff.1 hc).1
 have lr1 := (List.getElem?_eq_some_iff.1 hr1).1
 have := ACallsTo.frame (M := M) (new := []) [p,t,b,u,c,r1] rfl (by simp [lp,lt,lb,lu,lc,lr1]) (by rfl) (fun i q hs => by
  match i with
  | 0 => simp [dpBase1] at hs; subst hs; exact rowC_sub (pC_closed _) hp List.take_length
  | 1 => simp [dpBase1] at hs; subst hs; exact rowC_sub (tC_closed _) ht List.take_length
  | 2 => simp [dpBase1] at hs; subst hs; exact rowC_sub (qC_closed _) hb List.take_length
  | 3 => simp [dpBase1] at hs; subst hs; exact rowC_sub (by rfl) hu List.take_length
  | 4 => simp [dpBase1] at hs; subst hs; exact rowK_sub (by rfl) hc (by simp [AV.rens,AV.ren,back])
  | 5 => simp [dpBase1] at hs; subst hs; exact rowC_sub (qC_closed _) hr1 List.take_length
  | i + 6 => simp [dpBase1] at hs) rfl (Tryz.aECheck_dep1 s nm u0 u1 Z Y1 hm n0 n1 d01 hZ hl hn hY1 hl1 hle1)
 simpa [shA,evDep,AV.rens,AV.ren,back] using this
theorem Tryz.aECheckM_dep2 (s : Sheet) (nm : List UInt8) (u0 u1 u2 : List UInt8) (Z Y1 Y2 : List Int) (hm : nm ∈ eNames) (n0 : u0 ∈ eNames) (n1 : u1 ∈ eNames) (n2 : u2 ∈ eNames) (d01 : u1 ≠ u0) (d02 : u2 ≠ u0) (d12 : u2 ≠ u1) (hZ : ∀ z ∈ Z,z.natAbs < 1000) (hl : Z.length ≤ 1000) (hn : Z.length = s.P.length) (hY1 : ∀ z ∈ Y1,z.natAbs < 1000) (hl1 : Y1.length = s.P.length) (hle1 : ∀ (i : Nat) z y,Z[i]? = some z → Y1[i]? = some y → z ≤ y) (hY2 : ∀ z ∈ Y2,z.natAbs < 1000) (hl2 : Y2.length = s.P.length) (hle2 : ∀ (i : Nat) z y,Y1[i]? = some z → Y2[i]? = some y → z ≤ y) (M : Mem) (p t : Nat) (o o' : Bool) (hp : M[p]? = some (.cells o 2 (pC s.P))) (ht : M[t]? = some (.cells o' 3 (tC s.T))) (b u : Nat) (q1 q2 : Bool) (hb : M[b]? = some (.cells q1 1 (qC (qH Z)))) (hu : M[u]? = some (.cells q2 1 [.str u0,.str u1,.str u2])) (c r1 r2 : Nat) (q3 w1 w2 : Bool) (hc : M[c]? = some (.cells q3 1 [.slice r1 0 Z.length none,.slice r2 0 Z.length none])) (hr1 : M[r1]? = some (.cells w1 1 (qC (qH Y1)))) (hr2 : M[r2]? = some (.cells w2 1 (qC (qH Y2)))) :
  ACallsTo Tryz.prog 55 [.agg [.slice p 0 s.P.length none,.slice t 0 s.T.length none],.agg (evDep nm (.slice b 0 Z.length none) (.slice u 0 3 none) (.slice c 0 2 none))] M (.int .i64 0) M := by
 have lp := (List.getElem?_eq_some_iff.1 hp).1
 have lt := (List.getElem?_eq_some_iff.1 ht).1
 have lb := (List.getElem?_eq_some_iff.1 hb).1
 have lu := (List.getElem?_eq_some_iff.1 hu).1
 have lc := (List.getElem?_eq_some_iff.1 hc).1
 have lr1 := (List.getElem?_eq_some_iff.1 hr1).1
 have lr2 := (List.getElem?_eq_some_iff.1 hr2).1
 have := ACallsTo.frame (M := M) (new := []) [p,t,b,u,c,r1,r2] rfl (by simp [lp,lt,lb,lu,lc,lr1,lr2]) (by rfl) (fun i q hs => by
  match i with
  | 0 => simp [dpBase2] at hs; subst hs; exact rowC_sub (pC_closed _) hp List.take_length
  | 1 => simp [dpBase2] at hs; subst hs; exact rowC_sub (tC_closed _) ht List.take_length
  | 2 => simp [dpBase2] at hs; subst hs; exact rowC_sub (qC_closed _) hb List.take_length
  | 3 => simp [dpBase2] at hs; subst hs; exact rowC_sub (by rfl) hu List.take_length
  | 4 => simp [dpBase2] at hs; subst hs; exact rowK_sub (by rfl) hc (by simp [AV.rens,AV.ren,back])
  | 5 => simp [dpBase2] at hs; subst hs; exact rowC_sub (qC_closed _) hr1 List.take_length
  | 6 => simp [dpBase2] at hs; subst hs; exact rowC_sub (qC_closed _) hr2 List.take_length
  | i + 7 => simp [dpBase2] at hs) rfl (Tryz.aECheck_dep2 s nm u0 u1 u2 Z Y1 Y2 hm n0 n1 n2 d01 d02 d12 hZ hl hn hY1 hl1 hle1 hY2 hl2 hle2)
 simpa [shA,evDep,AV.rens,AV.ren,back] using this
theorem Tryz.aUnits_fault (nm : List UInt8) (n : Z3) (a : Int) (v : Z3) (M : Mem) : ACallsTo Tryz.prog 15 [.agg (evFault nm n a v)] M .nilslice M := by
 have hG : fnOf Tryz.prog 15 = some Tryz.f15 := by kernel_rfl
 refine Tryz.run (noOracle_ok _) (lv := fun _ => []) (K := 1) rfl rfl ?_ M
 simp [callFn,hG,Tryz.f15,evFault]
theorem Tryz.aUnits_tilt (nm : List UInt8) (q : Int × Int × Int × Int) (c : Z3) (M : Mem) : ACallsTo Tryz.prog 15 [.agg (evTilt nm q c)] M .nilslice M := by
 have hG : fnOf Tryz.prog 15 = some Tryz.f15 := by kernel_rfl
 refine Tryz.run (noOracle_ok _) (lv := fun _ => []) (K := 1) rfl rfl ?_ M
 simp [callFn,hG,Tryz.f15,evTilt]
theorem Tryz.aUnits_fold (nm : List UInt8) (n v : Z3) (x : AV) (M : Mem) : ACallsTo Tryz.prog 15 [.agg (evFold nm n x v)] M .nilslice M := by
 have hG : fnOf Tryz.prog 15 = some Tryz.f15 := by kernel_rfl
 have h : callFn (tyOf Tryz.prog) (fun _ => []) (fnOf Tryz.prog) noOracle 1 15 [.agg (evFold nm n x v)] M = some ⟨.nilslice,none,[]⟩ := by
  simp [callFn,hG,Tryz.f15,evFold]
 have := (callFn_sound Tryz.mixed (tyOf_ok _) (noOracle_ok _) (fnOf_ok _) h).1
 simpa [CallRes.mem] using this
theorem Tryz.aUnits_dike (nm : List UInt8) (n : Z3) (a w : Int) (u : List UInt8) (M : Mem) : ACallsTo Tryz.prog 15 [.agg (evDike nm n a w u)] M (.slice M.length 0 1 none) (M ++ [.cells true 1 [.str u]]) := by
 have hG : fnOf Tryz.prog 15 = some Tryz.f15 := by kernel_rfl
 have h : callFn (tyOf Tryz.prog) (fun _ => []) (fnOf Tryz.prog) noOracle 1 15 [.agg (evDike nm n a w u)] [] = some ⟨.slice 0 0 1 none,none,[.cells true 1 [.str u]]⟩ := by
  simp [callFn,hG,Tryz.f15,evDike,List.idxOf?_cons]
 have h1 := (callFn_sound Tryz.mixed (tyOf_ok _) (noOracle_ok _) (fnOf_ok _) h).1
 have h2 : ACallsTo Tryz.prog 15 [.agg (evDike nm n a w u)] [] (.slice 0 0 1 none) ([] ++ [.cells true 1 [.str u]]) := by simpa [CallRes.mem] using h1
 have := ACallsTo.frame (M := M) (m := []) (new := [.cells true 1 [.str u]]) [] rfl (by simp) (by rfl) (fun i q hs => by simp at hs) rfl h2
 simpa [evDike,AV.rens,AV.ren,Slot.ren,back] using this
theorem Tryz.aClone0 (L : List (List UInt8)) (h1 : 0 < L.length) (h3 : L.length ≤ 3) : ACallsTo Tryz.prog 33 [.slice 0 0 L.length none] [.cells false 1 (stC L)] (.slice 1 0 L.length none) [.cells false 1 (stC L),.cells true 1 (stC L)] := by
 have hG : fnOf Tryz.prog 33 = some Tryz.f33 := by kernel_rfl
 have h : callFn (tyOf Tryz.prog) (fun _ => []) (fnOf Tryz.prog) noOracle 1 33 [.slice 0 0 L.length none] [.cells false 1 (stC L)] = some ⟨.slice 1 0 L.length none,none,[.cells true 1 (stC L)]⟩ := by
  match L,h1,h3 with
  | [u],_,_ => simp [callFn,hG,Tryz.f33,stC,aNil,List.idxOf?_cons]
  | [u,v],_,_ => simp [callFn,hG,Tryz.f33,stC,aNil,List.idxOf?_cons]
  | [u,v,w],_,_ => simp [callFn,hG,Tryz.f33,stC,aNil,List.idxOf?_cons]
 have := (callFn_sound Tryz.mixed (tyOf_ok _) (noOracle_ok _) (fnOf_ok _) h).1
 simpa [CallRes.mem] using this
theorem Tryz.aClone (L : List (List UInt8)) (h1 : 0 < L.length) (h3 : L.length ≤ 3) (M : Mem) (b : Nat) (o : Bool) (hb : M[b]? = some (.cells o 1 (stC L))) : ACallsTo Tryz.prog 33 [.slice b 0 L.length none] M (.slice M.length 0 L.length none) (M ++ [.cells true 1 (stC L)]) := by
 obtain ⟨b',h,_,h2⟩ := ACallsTo.rows1C (rest := []) (new := [.cells true 1 (stC L)]) (stC_closed L) rfl rfl (Tryz.aClone0 L h1 h3) (M := M) (x := .slice b 0 L.length none) ⟨b,o,_,rfl,hb,List.take_length⟩
 cases h
 simpa [AV.ren,Slot.ren,back,rens_closeds (stC_closed L)] using h2
theorem Tryz.aUnits_dep (nm : List UInt8) (x y : AV) (L : List (List UInt8)) (h1 : 0 < L.length) (h3 : L.length ≤ 3) (M : Mem) (b : Nat) (o : Bool) (hb : M[b]? = some (.cells o 1 (stC L))) :
  ACallsTo Tryz.prog 15 [.agg (evDep nm x (.slice b 0 L.length none) y)] M (.slice (M.length + 1) 0 L.length none) (M ++ [.cells true 0 (evDep nm x (.slice b 0 L.length none) y),.cells true 1 (stC L)]) := by
 have hG : fnOf Tryz.prog 15 = some Tryz.f15 := by kernel_rfl
 have lb := (List.getElem?_eq_some_iff.1 hb).1
 obtain ⟨E,hE⟩ : ∃ E : Mem,E = [.cells true 0 (evDep nm x (.slice b 0 L.length none) y)] := ⟨_,rfl⟩
 have hc := Tryz.aClone L h1 h3 (M ++ E) b o (by rw [List.getElem?_append_left lb]; exact hb)
 have hO : OracleOk Tryz.prog (factC [(33,[.slice b 0 L.length none],M ++ E,⟨.slice (M.length + 1) 0 L.length none,none,[.cells true 1 (stC L)]⟩)]) := factC_ok fun e he => by
  simp only [List.mem_cons,List.not_mem_nil,or_false] at he
  subst he
  refine ⟨?_,by simp⟩
  rw [hE] at hc ⊢
  simpa [CallRes.mem] using hc
 have h : callRaw (tyOf Tryz.prog) (fun _ => []) (fnOf Tryz.prog) (factC [(33,[.slice b 0 L.length none],M ++ E,⟨.slice (M.length + 1) 0 L.length none,none,[.cells true 1 (stC L)]⟩)]) 1 15 [.agg (evDep nm x (.slice b 0 L.length none) y)] M = some (.slice (M.length + 1) 0 L.length none,M ++ [.cells true 0 (evDep nm x (.slice b 0 L.length none) y),.cells true 1 (stC L)]) := by
  rw [hE]
  simp [callRaw,hG,Tryz.f15,evDep,factC]
 have := callRaw_sound Tryz.mixed (tyOf_ok _) hO (fnOf_ok _) h
 exact this
def Keeps (b : Nat) (new M' : Mem) : Prop := ∀ (k : Nat) x,new[k]? = some x → M'[b + k]? = some x
def Tryz.UnC (b : Nat) (new : Mem) (ev : List AV) (U : List (List UInt8)) : Prop := ∀ M',Keeps b new M' → ∃ v nw,ACallsTo Tryz.prog 15 [.agg ev] M' v (M' ++ nw) ∧ ∀ ext,sts (M' ++ nw ++ ext) v = some U
theorem sts_row {M : Mem} {b : Nat} {o : Bool} {L : List (List UInt8)} (h : M[b]? = some (.cells o 1 (stC L))) : sts M (.slice b 0 L.length none) = some L := by
 unfold sts
 rw [cellsC_at h (by rw [stC_length]; omega) (by rw [← stC_length,Nat.mul_one,List.take_length])]
 exact stP_stC _
theorem Tryz.unC_nil {b : Nat} {new : Mem} {ev : List AV} (h : ∀ M,ACallsTo Tryz.prog 15 [.agg ev] M .nilslice M) : Tryz.UnC b new ev [] := fun M' _ => ⟨.nilslice,[],by simpa using h M',fun _ => rfl⟩
theorem Tryz.unC_dike {b : Nat} {new : Mem} (nm : List UInt8) (n : Z3) (a w : Int) (u : List UInt8) : Tryz.UnC b new (evDike nm n a w u) [u] := fun M' _ => ⟨.slice M'.length 0 1 none,[.cells true 1 [.str u]],Tryz.aUnits_dike nm n a w u M',fun ext' => sts_row (L := [u]) (o := true) (by rw [List.append_assoc,List.getElem?_append_right (by omega),Nat.sub_self]; rfl)⟩
theorem Tryz.unC_dep {b0 : Nat} {new : Mem} (nm : List UInt8) (x y : AV) (L : List (List UInt8)) (h1 : 0 < L.length) (h3 : L.length ≤ 3) (j : Nat) (o : Bool) (hb : new[j]? = some (.cells o 1 (stC L))) : Tryz.UnC b0 new (evDep nm x (.slice (b0 + j) 0 L.length none) y) L := fun M' hk => by
 have hb' := hk j _ hb
 refine ⟨.slice (M'.length + 1) 0 L.length none,[.cells true 0 (evDep nm x (.slice (b0 + j) 0 L.length none) y),.cells true 1 (stC L)],Tryz.aUnits_dep nm x y L h1 h3 M' (b0 + j) o hb',fun ext' => sts_row (o := true) ?_⟩
 rw [List.append_assoc,List.getElem?_append_right (by omega),show M'.length + 1 - M'.length = 1 by omega]
 rfl
def okNew (M new : Mem) : Prop := (new.all fun x => (x.own || match x with | .absent => true | _ => false) && x.refsOk (fun b => decide (b < M.length + 5))) = true
def flatE (ev : List AV) : Prop := ∀ x ∈ ev,(match x with | .agg _ => false | .tuple _ => false | .undef => false | _ => true) = true
def unitsD (d : Deed) (i : Nat) : List (List UInt8) := if d.kind % 5 = 0 then unitsL i (d.K.1 % 3) else if d.kind % 5 = 3 then [dikeName i] else []
end Go.Proofs
