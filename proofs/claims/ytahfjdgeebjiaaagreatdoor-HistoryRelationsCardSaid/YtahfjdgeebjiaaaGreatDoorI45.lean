/- See I57. -/
import Derived.Test.YtahfjdgeebjiaaaGreatDoorI43
import Derived.Test.YtahfjdgeebjiaaaGreatDoorI44
set_option linter.all false
namespace Go.Proofs
open Go.Eng
theorem sheet_len (s : Sheet) : 0 < s.P.length ∧ s.P.length ≤ 1000 := by
 have h : ∀ k < 8,0 < (shapeP k).length ∧ (shapeP k).length ≤ 1000 := by decide
 have := h (s.kind % 8) (Nat.mod_lt _ (by decide))
 unfold Sheet.P
 rwa [List.length_map]
theorem z3Le_mono {m n : Nat} {v : Z3} (h : z3Le m v) (hmn : m ≤ n) : z3Le n v := by
 obtain ⟨h1,h2,h3⟩ := h
 exact ⟨by omega,by omega,by omega⟩
theorem stepZ_le (d : Deed) (j k : Nat) : 0 ≤ stepZ d j k ∧ stepZ d j k ≤ 3 := by
 unfold stepZ
 have := Nat.mod_lt (nth4 d.K ((j + k) % 4)) (show 0 < 4 by decide)
 omega
theorem baseL_le (d : Deed) (n : Nat) : ∀ z ∈ baseL d n,z.natAbs ≤ 8 := by
 intro z hz
 simp only [baseL,List.mem_map] at hz
 obtain ⟨k,_,rfl⟩ := hz
 exact baseZ_le k
theorem surfL_le (d : Deed) (j n : Nat) (L : List Int) (m : Nat) (hL : ∀ z ∈ L,z.natAbs ≤ m) (hn : n ≤ L.length) : ∀ z ∈ surfL d j L n,z.natAbs ≤ m + 3 := by
 intro z hz
 simp only [surfL,List.mem_map,List.mem_range] at hz
 obtain ⟨k,hk,rfl⟩ := hz
 have h1 := stepZ_le d j k
 have h2 : L.getD k 0 ∈ L := by
  rw [List.getD_eq_getElem?_getD,List.getElem?_eq_getElem (by omega)]
  exact List.getElem_mem _
 have := hL _ h2
 omega
theorem surfL_up (d : Deed) (j n : Nat) (L : List Int) : ∀ (i : Nat) z y,L[i]? = some z → (surfL d j L n)[i]? = some y → z ≤ y := by
 intro i z y hz hy
 have h1 := stepZ_le d j i
 simp only [surfL,List.getElem?_map,Option.map_eq_some_iff] at hy
 obtain ⟨k,hk,rfl⟩ := hy
 have e : k = i := by
  rw [List.getElem?_eq_some_iff] at hk
  obtain ⟨_,h⟩ := hk
  rw [List.getElem_range] at h
  exact h.symm
 subst e
 rw [List.getD_eq_getElem?_getD,hz]
 simp only [Option.getD_some]
 omega
def shB (s : Sheet) (p t : Nat) : AV := .agg [.slice p 0 s.P.length none,.slice t 0 s.T.length none]
def Tryz.EvC (s : Sheet) (p t : Nat) (b : Nat) (new : Mem) (ev : List AV) : Prop := ∀ (M' : Mem) (o o' : Bool),M'[p]? = some (.cells o 2 (pC s.P)) → M'[t]? = some (.cells o' 3 (tC s.T)) → Keeps b new M' → ACallsTo Tryz.prog 55 [shB s p t,.agg ev] M' (.int .i64 0) M'
theorem Tryz.dealM {s : Sheet} {d : Deed} {i : Nat} {ev : List AV} {new M : Mem} {p t : Nat} (hp : p < M.length) (ht : t < M.length) (hn : new.all (fun s => s.own || match s with | .absent => true | _ => false) = true)
  (h : ACallsTo Tryz.prog 29 [.agg [.slice 0 0 s.P.length none,.slice 1 0 s.T.length none],.agg d.cells,.int .i64 i] [.absent,.absent] (.agg ev) ([.absent,.absent] ++ new)) :
  ACallsTo Tryz.prog 29 [shB s p t,.agg d.cells,.int .i64 i] M (.agg (AV.rens (back [p,t] M.length) ev)) (M ++ new.map (Slot.ren (back [p,t] M.length))) := by
 have := ACallsTo.frame (M := M) (new := new) [p,t] rfl (by simp [hp,ht]) (by rfl) (fun i q hs => by
  match i with
  | 0 => simp at hs; subst hs; trivial
  | 1 => simp at hs; subst hs; trivial
  | i + 2 => simp at hs) hn h
 simpa [shB,AV.rens,AV.ren,back,Deed.cells] using this
theorem Tryz.dealt_fault (s : Sheet) (d : Deed) (hd : d.Ok) (i : Nat) (hi : i < 6) (hk : d.kind % 5 = 1) (M : Mem) (p t : Nat) (o o' : Bool) (hp : M[p]? = some (.cells o 2 (pC s.P))) (ht : M[t]? = some (.cells o' 3 (tC s.T))) :
  ∃ ev new,ACallsTo Tryz.prog 29 [shB s p t,.agg d.cells,.int .i64 i] M (.agg ev) (M ++ new) ∧ Tryz.EvC s p t M.length new ev ∧ Tryz.UnC M.length new ev (unitsD d i) ∧ new.length ≤ 5 ∧ (ev.length = 32 ∧ ev[1]? = some (.str (evName i))) ∧ okNew M new ∧ AV.refsOkL (fun b => decide (b < M.length + 5)) ev = true ∧ flatE ev := by
 have l0 := (List.getElem?_eq_some_iff.1 hp).1
 have l1 := (List.getElem?_eq_some_iff.1 ht).1
 obtain ⟨hn,hl⟩ := sheet_len s
 have h := Tryz.dealM l0 l1 rfl (Tryz.aDeal_fault d hd s.P.length s.T.length i hi hn hl hk)
 refine ⟨_,_,h,fun M' w w' hp' ht' hkp => ?_,?_,by simp,⟨by rfl,by rfl⟩,?_,?_,?_⟩
 rotate_left
 ·rw [show unitsD d i = [] by simp [unitsD,hk]]
  refine Tryz.unC_nil fun M => ?_
  simpa [evFault,AV.rens,AV.ren] using Tryz.aUnits_fault (evName i) (normalZ d.A) (d.N.tmod 5) (acrossZ (normalZ d.A) (mod3 d.B)) M
 ·simp [okNew,Slot.own,Slot.refsOk,Slot.ren,pC_ren,pC_ok]
 ·simp [evFault,evDike,evTilt,evFold,AV.rens,AV.ren,back,AV.refsOkL,AV.refsOk]
 ·simp [flatE,evFault,evDike,evTilt,evFold,AV.rens,AV.ren,back]
 have h5 : -5 < d.N.tmod 5 ∧ d.N.tmod 5 < 5 := tmodk d.N 5 (by decide)
 have hz := acrossZ_le (normalZ_le d.A) (mod3_le d.B)
 have := Tryz.aECheckM_fault s (evName i) (normalZ d.A) (d.N.tmod 5) (acrossZ (normalZ d.A) (mod3 d.B)) (evName_mem hi) (z3Le_mono (normalZ_le _) (by decide)) (normalZ_ne _) (by omega) (z3Le_mono hz (by decide)) (dot_across _ _) M' p t w w' hp' ht'
 simpa [shB,evFault,AV.rens,AV.ren] using this
theorem Tryz.dealt_dike (s : Sheet) (d : Deed) (hd : d.Ok) (i : Nat) (hi : i < 6) (hk : d.kind % 5 = 3) (M : Mem) (p t : Nat) (o o' : Bool) (hp : M[p]? = some (.cells o 2 (pC s.P))) (ht : M[t]? = some (.cells o' 3 (tC s.T))) :
  ∃ ev new,ACallsTo Tryz.prog 29 [shB s p t,.agg d.cells,.int .i64 i] M (.agg ev) (M ++ new) ∧ Tryz.EvC s p t M.length new ev ∧ Tryz.UnC M.length new ev (unitsD d i) ∧ new.length ≤ 5 ∧ (ev.length = 32 ∧ ev[1]? = some (.str (evName i))) ∧ okNew M new ∧ AV.refsOkL (fun b => decide (b < M.length + 5)) ev = true ∧ flatE ev := by
 have l0 := (List.getElem?_eq_some_iff.1 hp).1
 have l1 := (List.getElem?_eq_some_iff.1 ht).1
 obtain ⟨hn,hl⟩ := sheet_len s
 have h := Tryz.dealM l0 l1 rfl (Tryz.aDeal_dike d hd s.P.length s.T.length i hi hn hl hk)
 refine ⟨_,_,h,fun M' w w' hp' ht' hkp => ?_,?_,by simp,⟨by rfl,by rfl⟩,?_,?_,?_⟩
 rotate_left
 ·rw [show unitsD d i = [dikeName i] by simp [unitsD,hk]]
  simpa [evDike,AV.rens,AV.ren] using Tryz.unC_dike (b := M.length) (new := []) (evName i) (normalZ d.A) (d.N.tmod 5) (1 + (d.K.1 % 4 : Nat)) (dikeName i)
 ·simp [okNew,Slot.own,Slot.refsOk,Slot.ren,pC_ren,pC_ok]
 ·simp [evFault,evDike,evTilt,evFold,AV.rens,AV.ren,back,AV.refsOkL,AV.refsOk]
 ·simp [flatE,evFault,evDike,evTilt,evFold,AV.rens,AV.ren,back]
 have h5 : -5 < d.N.tmod 5 ∧ d.N.tmod 5 < 5 := tmodk d.N 5 (by decide)
 have h4 := Nat.mod_lt d.K.1 (show 0 < 4 by decide)
 have := Tryz.aECheckM_dike s (evName i) (normalZ d.A) (d.N.tmod 5) (1 + (d.K.1 % 4 : Nat)) (dikeName i) (evName_mem hi) (z3Le_mono (normalZ_le _) (by decide)) (normalZ_ne _) (by omega) (by omega) (by omega) (dikeName_mem hi) M' p t w w' hp' ht'
 simpa [shB,evDike,AV.rens,AV.ren] using this
theorem Tryz.dealt_tilt (s : Sheet) (d : Deed) (hd : d.Ok) (i : Nat) (hi : i < 6) (hk : d.kind % 5 = 4) (M : Mem) (p t : Nat) (o o' : Bool) (hp : M[p]? = some (.cells o 2 (pC s.P))) (ht : M[t]? = some (.cells o' 3 (tC s.T))) :
  ∃ ev new,ACallsTo Tryz.prog 29 [shB s p t,.agg d.cells,.int .i64 i] M (.agg ev) (M ++ new) ∧ Tryz.EvC s p t M.length new ev ∧ Tryz.UnC M.length new ev (unitsD d i) ∧ new.length ≤ 5 ∧ (ev.length = 32 ∧ ev[1]? = some (.str (evName i))) ∧ okNew M new ∧ AV.refsOkL (fun b => decide (b < M.length + 5)) ev = true ∧ flatE ev := by
 have l0 := (List.getElem?_eq_some_iff.1 hp).1
 have l1 := (List.getElem?_eq_some_iff.1 ht).1
 obtain ⟨hn,hl⟩ := sheet_len s
 have h := Tryz.dealM l0 l1 rfl (Tryz.aDeal_tilt d hd s.P.length s.T.length i hi hn hl hk)
 refine ⟨_,_,h,fun M' w w' hp' ht' hkp => ?_,?_,by simp,⟨by rfl,by rfl⟩,?_,?_,?_⟩
 rotate_left
 ·rw [show unitsD d i = [] by simp [unitsD,hk]]
  refine Tryz.unC_nil fun M => ?_
  simpa [evTilt,AV.rens,AV.ren] using Tryz.aUnits_tilt (evName i) (turnT (d.K.1 % 6)) (mod3 d.B) M
 ·simp [okNew,Slot.own,Slot.refsOk,Slot.ren,pC_ren,pC_ok]
 ·simp [evFault,evDike,evTilt,evFold,AV.rens,AV.ren,back,AV.refsOkL,AV.refsOk]
 ·simp [flatE,evFault,evDike,evTilt,evFold,AV.rens,AV.ren,back]
 have := Tryz.aECheckM_tilt s (evName i) (d.K.1 % 6) (mod3 d.B) (evName_mem hi) (z3Le_mono (mod3_le _) (by decide)) M' p t w w' hp' ht'
 simpa [shB,evTilt,AV.rens,AV.ren] using this
theorem Tryz.dealt_fold (s : Sheet) (d : Deed) (hd : d.Ok) (i : Nat) (hi : i < 6) (hk : d.kind % 5 = 2) (M : Mem) (p t : Nat) (o o' : Bool) (hp : M[p]? = some (.cells o 2 (pC s.P))) (ht : M[t]? = some (.cells o' 3 (tC s.T))) :
  ∃ ev new,ACallsTo Tryz.prog 29 [shB s p t,.agg d.cells,.int .i64 i] M (.agg ev) (M ++ new) ∧ Tryz.EvC s p t M.length new ev ∧ Tryz.UnC M.length new ev (unitsD d i) ∧ new.length ≤ 5 ∧ (ev.length = 32 ∧ ev[1]? = some (.str (evName i))) ∧ okNew M new ∧ AV.refsOkL (fun b => decide (b < M.length + 5)) ev = true ∧ flatE ev := by
 have l0 := (List.getElem?_eq_some_iff.1 hp).1
 have l1 := (List.getElem?_eq_some_iff.1 ht).1
 obtain ⟨hn,hl⟩ := sheet_len s
 have h3 := Nat.mod_lt d.K.1 (show 0 < 3 by decide)
 have h := Tryz.dealM l0 l1 rfl (Tryz.aDeal_fold d hd s.P.length s.T.length i hi hn hl hk)
 refine ⟨_,_,h,fun M' w w' hp' ht' hkp => ?_,?_,by simp,⟨by rfl,by rfl⟩,?_,?_,?_⟩
 rotate_left
 ·rw [show unitsD d i = [] by simp [unitsD,hk]]
  refine Tryz.unC_nil fun M' => ?_
  simpa [evFold,AV.rens,AV.ren,back] using Tryz.aUnits_fold (evName i) (normalZ d.A) (acrossZ (normalZ d.A) (mod3 d.B)) (.slice M.length 0 (1 + d.K.1 % 3) none) M'
 ·simp [okNew,Slot.own,Slot.refsOk,Slot.ren,pC_ren,pC_ok]
 ·simp [evFault,evDike,evTilt,evFold,AV.rens,AV.ren,back,AV.refsOkL,AV.refsOk]
 ·simp [flatE,evFault,evDike,evTilt,evFold,AV.rens,AV.ren,back]
 have hz := acrossZ_le (normalZ_le d.A) (mod3_le d.B)
 have := Tryz.aECheckM_fold s (evName i) (normalZ d.A) (acrossZ (normalZ d.A) (mod3 d.B)) d (1 + d.K.1 % 3) (by omega) (by omega) (evName_mem hi) (z3Le_mono (normalZ_le _) (by decide)) (normalZ_ne _) (z3Le_mono hz (by decide)) (dot_across _ _) M' p t w w' hp' ht' M.length true (by have := hkp 0 _ rfl; simpa [Slot.ren,pC_ren] using this)
 simpa [shB,evFold,AV.rens,AV.ren,Slot.ren,back,pC_ren] using this
theorem Tryz.dealt_dep0 (s : Sheet) (d : Deed) (hd : d.Ok) (i : Nat) (hi : i < 6) (hk : d.kind % 5 = 0) (hJ : d.K.1 % 3 = 0) (M : Mem) (p t : Nat) (o o' : Bool) (hp : M[p]? = some (.cells o 2 (pC s.P))) (ht : M[t]? = some (.cells o' 3 (tC s.T))) :
  ∃ ev new,ACallsTo Tryz.prog 29 [shB s p t,.agg d.cells,.int .i64 i] M (.agg ev) (M ++ new) ∧ Tryz.EvC s p t M.length new ev ∧ Tryz.UnC M.length new ev (unitsD d i) ∧ new.length ≤ 5 ∧ (ev.length = 32 ∧ ev[1]? = some (.str (evName i))) ∧ okNew M new ∧ AV.refsOkL (fun b => decide (b < M.length + 5)) ev = true ∧ flatE ev := by
 have l0 := (List.getElem?_eq_some_iff.1 hp).1
 have l1 := (List.getElem?_eq_some_iff.1 ht).1
 obtain ⟨hn,hl⟩ := sheet_len s
 have h := Tryz.dealM l0 l1 rfl (Tryz.aDeal_dep0 d hd s.P.length s.T.length i hi hn hl hk hJ)
 refine ⟨_,_,h,fun M' w w' hp' ht' hkp => ?_,?_,by simp [depNb],⟨by rfl,by rfl⟩,?_,?_,?_⟩
 rotate_left
 ·rw [show unitsD d i = unitsL i 0 by simp [unitsD,hk,hJ]]
  have := Tryz.unC_dep (b0 := M.length) (new := [hRow (baseL d s.P.length),.cells true 1 [.str [letter i,49]]]) (evName i) (.slice M.length 0 s.P.length none) (.nilslice) (unitsL i 0) (by simp [unitsL]) (by simp [unitsL]) 1 true rfl
  simpa [evDep,AV.rens,AV.ren,Slot.ren,back,depNb,hRow,qC_ren,unitsL] using this
 ·simp [okNew,depNb,hRow,Slot.own,Slot.refsOk,Slot.ren,AV.rens,AV.ren,back,AV.refsOkL,AV.refsOk,qC_ren,qC_ok,unitsL]
 ·simp [evDep,AV.rens,AV.ren,back,AV.refsOkL,AV.refsOk]
 ·simp [flatE,evDep,AV.rens,AV.ren,back]
 have b0 : ∀ z ∈ (baseL d s.P.length),z.natAbs < 1000 := fun z hz => by have := baseL_le d _ z hz; omega
 have c0 : ((baseL d s.P.length)).length = s.P.length := baseL_length d _
 obtain ⟨N,hN⟩ : ∃ N : Mem,N = [hRow (baseL d s.P.length),.cells true 1 [.str [letter i,49]]] := ⟨_,rfl⟩
 have en : ∀ (k : Nat) x,N[k]? = some x → M'[M.length + k]? = some x := fun k x h => hkp k x (by rw [hN] at h; simpa [depNb,hRow,Slot.ren,AV.rens,AV.ren,back,qC_ren,unitsL] using h)
 subst hN
 have := Tryz.aECheckM_dep0 s (evName i) [letter i,49] (baseL d s.P.length) (evName_mem hi) (unit_mem (J := 0) hi (by decide) _ (by simp [unitsL]))  b0 (by omega) c0  M' p t w w' hp' ht' M.length (M.length + 1) true true (en 0 _ rfl) (en 1 _ rfl)
 rw [c0] at this
 simpa [shB,evDep,AV.rens,AV.ren,Slot.ren,back,depNb,hRow,qC_ren,unitsL] using this
theorem Tryz.dealt_dep1 (s : Sheet) (d : Deed) (hd : d.Ok) (i : Nat) (hi : i < 6) (hk : d.kind % 5 = 0) (hJ : d.K.1 % 3 = 1) (M : Mem) (p t : Nat) (o o' : Bool) (hp : M[p]? = some (.cells o 2 (pC s.P))) (ht : M[t]? = some (.cells o' 3 (tC s.T))) :
  ∃ ev new,ACallsTo Tryz.prog 29 [shB s p t,.agg d.cells,.int .i64 i] M (.agg ev) (M ++ new) ∧ Tryz.EvC s p t M.length new ev ∧ Tryz.UnC M.length new ev (unitsD d i) ∧ new.length ≤ 5 ∧ (ev.length = 32 ∧ ev[1]? = some (.str (evName i))) ∧ okNew M new ∧ AV.refsOkL (fun b => decide (b < M.length + 5)) ev = true ∧ flatE ev := by
 have l0 := (List.getElem?_eq_some_iff.1 hp).1
 have l1 := (List.getElem?_eq_some_iff.1 ht).1
 obtain ⟨hn,hl⟩ := sheet_len s
 have h := Tryz.dealM l0 l1 rfl (Tryz.aDeal_dep1 d hd s.P.length s.T.length i hi hn hl hk hJ)
 refine ⟨_,_,h,fun M' w w' hp' ht' hkp => ?_,?_,by simp [depNb],⟨by rfl,by rfl⟩,?_,?_,?_⟩
 rotate_left
 ·rw [show unitsD d i = unitsL i 1 by simp [unitsD,hk,hJ]]
  have := Tryz.unC_dep (b0 := M.length) (new := [hRow (baseL d s.P.length),.cells true 1 [.str [letter i,49],.str [letter i,50]],.cells true 1 [.slice (M.length + 3) 0 s.P.length none],hRow (surfL d 0 (baseL d s.P.length) s.P.length)]) (evName i) (.slice M.length 0 s.P.length none) (.slice (M.length + 2) 0 1 none) (unitsL i 1) (by simp [unitsL]) (by simp [unitsL]) 1 true rfl
  simpa [evDep,AV.rens,AV.ren,Slot.ren,back,depNb,hRow,qC_ren,unitsL] using this
 ·simp [okNew,depNb,hRow,Slot.own,Slot.refsOk,Slot.ren,AV.rens,AV.ren,back,AV.refsOkL,AV.refsOk,qC_ren,qC_ok,unitsL]
 ·simp [evDep,AV.rens,AV.ren,back,AV.refsOkL,AV.refsOk]
 ·simp [flatE,evDep,AV.rens,AV.ren,back]
 have b0 : ∀ z ∈ (baseL d s.P.length),z.natAbs < 1000 := fun z hz => by have := baseL_le d _ z hz; omega
 have c0 : ((baseL d s.P.length)).length = s.P.length := baseL_length d _
 have s1 := surfL_le d 0 s.P.length (baseL d s.P.length) 8 (baseL_le d s.P.length) (by simp [baseL_length,surfL_length])
 have b1 : ∀ z ∈ (surfL d 0 (baseL d s.P.length) s.P.length),z.natAbs < 1000 := fun z hz => by have := s1 z hz; omega
 have c1 : ((surfL d 0 (baseL d s.P.length) s.P.length)).length = s.P.length := surfL_length d _ _ _
 obtain ⟨N,hN⟩ : ∃ N : Mem,N = [hRow (baseL d s.P.length),.cells true 1 [.str [letter i,49],.str [letter i,50]],.cells true 1 [.slice (M.length + 3) 0 s.P.length none],hRow (surfL d 0 (baseL d s.P.length) s.P.length)] := ⟨_,rfl⟩
 have en : ∀ (k : Nat) x,N[k]? = some x → M'[M.length + k]? = some x := fun k x h => hkp k x (by rw [hN] at h; simpa [depNb,hRow,Slot.ren,AV.rens,AV.ren,back,qC_ren,unitsL] using h)
 subst hN
 have := Tryz.aECheckM_dep1 s (evName i) [letter i,49] [letter i,50] (baseL d s.P.length) (surfL d 0 (baseL d s.P.length) s.P.length) (evName_mem hi) (unit_mem (J := 1) hi (by decide) _ (by simp [unitsL])) (unit_mem (J := 1) hi (by decide) _ (by simp [unitsL])) (by simp) b0 (by omega) c0 b1 c1 (surfL_up d 0 s.P.length (baseL d s.P.length)) M' p t w w' hp' ht' M.length (M.length + 1) true true (en 0 _ rfl) (en 1 _ rfl) (M.length + 2) (M.length + 3) true true (by rw [c0]; exact en 2 _ rfl) (en 3 _ rfl)
 rw [c0] at this
 simpa [shB,evDep,AV.rens,AV.ren,Slot.ren,back,depNb,hRow,qC_ren,unitsL] using this
theorem Tryz.dealt_dep2 (s : Sheet) (d : Deed) (hd : d.Ok) (i : Nat) (hi : i < 6) (hk : d.kind % 5 = 0) (hJ : d.K.1 % 3 = 2) (M : Mem) (p t : Nat) (o o' : Bool) (hp : M[p]? = some (.cells o 2 (pC s.P))) (ht : M[t]? = some (.cells o' 3 (tC s.T))) :
  ∃ ev new,ACallsTo Tryz.prog 29 [shB s p t,.agg d.cells,.int .i64 i] M (.agg ev) (M ++ new) ∧ Tryz.EvC s p t M.length new ev ∧ Tryz.UnC M.length new ev (unitsD d i) ∧ new.length ≤ 5 ∧ (ev.length = 32 ∧ ev[1]? = some (.str (evName i))) ∧ okNew M new ∧ AV.refsOkL (fun b => decide (b < M.length + 5)) ev = true ∧ flatE ev := by
 have l0 := (List.getElem?_eq_some_iff.1 hp).1
 have l1 := (List.getElem?_eq_some_iff.1 ht).1
 obtain ⟨hn,hl⟩ := sheet_len s
 have h := Tryz.dealM l0 l1 rfl (Tryz.aDeal_dep2 d hd s.P.length s.T.length i hi hn hl hk hJ)
 refine ⟨_,_,h,fun M' w w' hp' ht' hkp => ?_,?_,by simp [depNb],⟨by rfl,by rfl⟩,?_,?_,?_⟩
 rotate_left
 ·rw [show unitsD d i = unitsL i 2 by simp [unitsD,hk,hJ]]
  have := Tryz.unC_dep (b0 := M.length) (new := [hRow (baseL d s.P.length),.cells true 1 [.str [letter i,49],.str [letter i,50],.str [letter i,51]],.cells true 1 [.slice (M.length + 3) 0 s.P.length none,.slice (M.length + 4) 0 s.P.length none],hRow (surfL d 0 (baseL d s.P.length) s.P.length),hRow (surfL d 1 (surfL d 0 (baseL d s.P.length) s.P.length) s.P.length)]) (evName i) (.slice M.length 0 s.P.length none) (.slice (M.length + 2) 0 2 none) (unitsL i 2) (by simp [unitsL]) (by simp [unitsL]) 1 true rfl
  simpa [evDep,AV.rens,AV.ren,Slot.ren,back,depNb,hRow,qC_ren,unitsL] using this
 ·simp [okNew,depNb,hRow,Slot.own,Slot.refsOk,Slot.ren,AV.rens,AV.ren,back,AV.refsOkL,AV.refsOk,qC_ren,qC_ok,unitsL]
 ·simp [evDep,AV.rens,AV.ren,back,AV.refsOkL,AV.refsOk]
 ·simp [flatE,evDep,AV.rens,AV.ren,back]
 have b0 : ∀ z ∈ (baseL d s.P.length),z.natAbs < 1000 := fun z hz => by have := baseL_le d _ z hz; omega
 have c0 : ((baseL d s.P.length)).length = s.P.length := baseL_length d _
 have s1 := surfL_le d 0 s.P.length (baseL d s.P.length) 8 (baseL_le d s.P.length) (by simp [baseL_length,surfL_length])
 have b1 : ∀ z ∈ (surfL d 0 (baseL d s.P.length) s.P.length),z.natAbs < 1000 := fun z hz => by have := s1 z hz; omega
 have c1 : ((surfL d 0 (baseL d s.P.length) s.P.length)).length = s.P.length := surfL_length d _ _ _
 have s2 := surfL_le d 1 s.P.length (surfL d 0 (baseL d s.P.length) s.P.length) 11 (s1) (by simp [baseL_length,surfL_length])
 have b2 : ∀ z ∈ (surfL d 1 (surfL d 0 (baseL d s.P.length) s.P.length) s.P.length),z.natAbs < 1000 := fun z hz => by have := s2 z hz; omega
 have c2 : ((surfL d 1 (surfL d 0 (baseL d s.P.length) s.P.length) s.P.length)).length = s.P.length := surfL_length d _ _ _
 obtain ⟨N,hN⟩ : ∃ N : Mem,N = [hRow (baseL d s.P.length),.cells true 1 [.str [letter i,49],.str [letter i,50],.str [letter i,51]],.cells true 1 [.slice (M.length + 3) 0 s.P.length none,.slice (M.length + 4) 0 s.P.length none],hRow (surfL d 0 (baseL d s.P.length) s.P.length),hRow (surfL d 1 (surfL d 0 (baseL d s.P.length) s.P.length) s.P.length)] := ⟨_,rfl⟩
 have en : ∀ (k : Nat) x,N[k]? = some x → M'[M.length + k]? = some x := fun k x h => hkp k x (by rw [hN] at h; simpa [depNb,hRow,Slot.ren,AV.rens,AV.ren,back,qC_ren,unitsL] using h)
 subst hN
 have := Tryz.aECheckM_dep2 s (evName i) [letter i,49] [letter i,50] [letter i,51] (baseL d s.P.length) (surfL d 0 (baseL d s.P.length) s.P.length) (surfL d 1 (surfL d 0 (baseL d s.P.length) s.P.length) s.P.length) (evName_mem hi) (unit_mem (J := 2) hi (by decide) _ (by simp [unitsL])) (unit_mem (J := 2) hi (by decide) _ (by simp [unitsL])) (unit_mem (J := 2) hi (by decide) _ (by simp [unitsL])) (by simp) (by simp) (by simp) b0 (by omega) c0 b1 c1 (surfL_up d 0 s.P.length (baseL d s.P.length)) b2 c2 (surfL_up d 1 s.P.length (surfL d 0 (baseL d s.P.length) s.P.length)) M' p t w w' hp' ht' M.length (M.length + 1) true true (en 0 _ rfl) (en 1 _ rfl) (M.length + 2) (M.length + 3) (M.length + 4) true true true (by rw [c0]; exact en 2 _ rfl) (en 3 _ rfl) (en 4 _ rfl)
 rw [c0] at this
 simpa [shB,evDep,AV.rens,AV.ren,Slot.ren,back,depNb,hRow,qC_ren,unitsL] using this
theorem Tryz.dealt (s : Sheet) (d : Deed) (hd : d.Ok) (i : Nat) (hi : i < 6) (M : Mem) (p t : Nat) (o o' : Bool) (hp : M[p]? = some (.cells o 2 (pC s.P))) (ht : M[t]? = some (.cells o' 3 (tC s.T))) :
  ∃ ev new,ACallsTo Tryz.prog 29 [shB s p t,.agg d.cells,.int .i64 i] M (.agg ev) (M ++ new) ∧ Tryz.EvC s p t M.length new ev ∧ Tryz.UnC M.length new ev (unitsD d i) ∧ new.length ≤ 5 ∧ (ev.length = 32 ∧ ev[1]? = some (.str (evName i))) ∧ okNew M new ∧ AV.refsOkL (fun b => decide (b < M.length + 5)) ev = true ∧ flatE ev := by
 have h5 := Nat.mod_lt d.kind (show 0 < 5 by decide)
 have h3 := Nat.mod_lt d.K.1 (show 0 < 3 by decide)
 have : d.kind % 5 = 0 ∨ d.kind % 5 = 1 ∨ d.kind % 5 = 2 ∨ d.kind % 5 = 3 ∨ d.kind % 5 = 4 := by omega
 rcases this with h | h | h | h | h
 ·have : d.K.1 % 3 = 0 ∨ d.K.1 % 3 = 1 ∨ d.K.1 % 3 = 2 := by omega
  rcases this with g | g | g
  ·exact Tryz.dealt_dep0 s d hd i hi h g M p t o o' hp ht
  ·exact Tryz.dealt_dep1 s d hd i hi h g M p t o o' hp ht
  ·exact Tryz.dealt_dep2 s d hd i hi h g M p t o o' hp ht
 ·exact Tryz.dealt_fault s d hd i hi h M p t o o' hp ht
 ·exact Tryz.dealt_fold s d hd i hi h M p t o o' hp ht
 ·exact Tryz.dealt_dike s d hd i hi h M p t o o' hp ht
 ·exact Tryz.dealt_tilt s d hd i hi h M p t o o' hp ht
theorem acallsTo_padE {P : Program} {f : FuncId} {args : List AV} {m m' : Mem} {v : AV} (h : ACallsTo P f args m v m') : ACallsTo P f args m v (m' ++ [.absent]) := by
 refine ⟨h.1,fun base μ w Vs h0 h1 h2 => (h.2 base μ w Vs h0 h1 h2).mono ?_⟩
 rintro e w' ⟨V,v',m1,μ',he,hv,hh,hs,rfl,rfl⟩
 obtain ⟨k1,k2⟩ := hh.absent (μ' 0)
 exact ⟨V,_,_,_,he,hv.mono (by simp) k2.agree,k1,hs.trans (k2.mono hs.len),rfl,rfl⟩
theorem acallsTo_pads {P : Program} {f : FuncId} {args : List AV} {m : Mem} {v : AV} : ∀ (k : Nat) {m' : Mem},ACallsTo P f args m v m' → ACallsTo P f args m v (m' ++ List.replicate k .absent)
 | 0,m',h => by simpa using h
 | k + 1,m',h => by
  have := acallsTo_pads k (acallsTo_padE h)
  rwa [List.append_assoc,List.singleton_append,← List.replicate_succ] at this
theorem Tryz.dealt5 (s : Sheet) (d : Deed) (hd : d.Ok) (i : Nat) (hi : i < 6) (M : Mem) (p t : Nat) (o o' : Bool) (hp : M[p]? = some (.cells o 2 (pC s.P))) (ht : M[t]? = some (.cells o' 3 (tC s.T))) :
  ∃ ev x1 x2 x3 x4 x5,ACallsTo Tryz.prog 29 [shB s p t,.agg d.cells,.int .i64 i] M (.agg ev) (M ++ [x1,x2,x3,x4,x5]) ∧ Tryz.EvC s p t M.length [x1,x2,x3,x4,x5] ev ∧ Tryz.UnC M.length [x1,x2,x3,x4,x5] ev (unitsD d i) ∧ (ev.length = 32 ∧ ev[1]? = some (.str (evName i))) ∧ okNew M [x1,x2,x3,x4,x5] ∧ AV.refsOkL (fun b => decide (b < M.length + 5)) ev = true ∧ flatE ev := by
 obtain ⟨ev,new,h1,h2,h3,h4,h5,h6,h7,h8⟩ := Tryz.dealt s d hd i hi M p t o o' hp ht
 have e : (new ++ List.replicate (5 - new.length) Slot.absent).length = 5 := by simp; omega
 have g1 := acallsTo_pads (5 - new.length) h1
 rw [List.append_assoc] at g1
 have g2 : Tryz.EvC s p t M.length (new ++ List.replicate (5 - new.length) Slot.absent) ev := fun M' w w' a b c =>
  h2 M' w w' a b fun k x hx => c k x (by rw [List.getElem?_append_left (List.getElem?_eq_some_iff.1 hx).1]; exact hx)
 have g3 : Tryz.UnC M.length (new ++ List.replicate (5 - new.length) Slot.absent) ev (unitsD d i) := fun M' c =>
  h3 M' fun k x hx => c k x (by rw [List.getElem?_append_left (List.getElem?_eq_some_iff.1 hx).1]; exact hx)
 have g4 : okNew M (new ++ List.replicate (5 - new.length) Slot.absent) := by
  unfold okNew at h6 ⊢
  rw [List.all_append,h6,Bool.true_and,List.all_eq_true]
  intro x hx
  rw [List.eq_of_mem_replicate hx]
  rfl
 obtain ⟨N,hN⟩ : ∃ N,N = new ++ List.replicate (5 - new.length) Slot.absent := ⟨_,rfl⟩
 rw [← hN] at e g1 g2 g3 g4
 match N,e,g1,g2,g3,g4 with
 | [x1,x2,x3,x4,x5],_,g1,g2,g3,g4 => exact ⟨ev,x1,x2,x3,x4,x5,g1,g2,g3,h5,g4,h7,h8⟩
end Go.Proofs
