/- Part L28 of a proof: see its last part, YtahfjdgeebjiaaaGreatDoorL55.lean. -/
import Derived.Test.YtahfjdgeebjiaaaGreatDoorL27
import Derived.Test.YtahfjdgeebjiaaaGreatDoorL11
set_option linter.all false
namespace Go.Proofs
open Go.Eng
def RA (e : Nat) (t : List UInt8) : Mem := List.replicate e .absent ++ [.cells true 6001 (iB t)]
theorem RA_length (e : Nat) (t : List UInt8) : (RA e t).length = e + 1 := by simp [RA]
theorem RA_get (e : Nat) (t : List UInt8) : (RA e t)[e]? = some (.cells true 6001 (iB t)) := by simp [RA]
theorem RA_getE (e : Nat) (t : List UInt8) (h : e < (RA e t).length) : (RA e t)[e] = .cells true 6001 (iB t) := by simp [RA]
theorem RA_next (e : Nat) (t s : List UInt8) : (RA e t).set e .absent ++ [.cells true 6001 (iB s)] = RA (e + 1) s := by
  simp [RA, List.replicate_succ']
theorem zeros_drop {k : Nat} (h : k ≤ 9) : (([48, 48, 48, 48, 48, 48, 48, 48, 48] : List UInt8).drop k).take (9 - k) = List.replicate (9 - k) 48 := by
  have : k = 0 ∨ k = 1 ∨ k = 2 ∨ k = 3 ∨ k = 4 ∨ k = 5 ∨ k = 6 ∨ k = 7 ∨ k = 8 ∨ k = 9 := by omega
  rcases this with rfl | rfl | rfl | rfl | rfl | rfl | rfl | rfl | rfl | rfl <;> rfl
noncomputable def Tryz.clO : Oracle := (pureO Tryz.numF).or Tryz.bldO
theorem Tryz.clO_ok : OracleOk Tryz.prog Tryz.clO := Tryz.num_ok.or Tryz.bldO_ok
theorem Tryz.close_later (A0 : Slot) (mn : Bool) (n : Nat) (bc : Slot) (env0 : Env) (h1 : Go.Eng.look env0 1 = .ptr 1 0) (h3 : Go.Eng.look env0 3 = .ptr 2 0) {ps : Array Tmp} {asg body : Code} (hb : rangesF Tryz.f264 = [(ps, asg, body)])
    (j x e : Nat) (t : List UInt8) (hj : j + 1 < n) (hn : n ≤ 1000000) (hx : x < 1000000000) (ht : t.length ≤ 90000000) :
    AYieldsTo Tryz.prog 4 [.int .i64 (j : Int), .int .u64 (x : Int)] (A0 :: .cells true 0 [.bool mn, .slice 0 0 n none] :: .cells true Tryz.bEs [.ptr 2 0, .slice (e + 5) 0 t.length none] :: bc :: .loop ⟨.ready, none, env0, 34, ps, asg, body⟩ :: RA e t) (.bool true)
      (A0 :: .cells true 0 [.bool mn, .slice 0 0 n none] :: .cells true Tryz.bEs [.ptr 2 0, .slice (e + 2 + 5) 0 (t ++ padW 9 x).length none] :: bc :: .loop ⟨.ready, none, env0, 34, ps, asg, body⟩ :: RA (e + 2) (t ++ padW 9 x)) := by
  have hst : staticC asg = true ∧ staticC body = true ∧ ps = #[17, 18] := by
    simp [rangesF, rangesC, Tryz.f264] at hb
    obtain ⟨rfl, rfl, rfl⟩ := hb
    exact ⟨by decide, by decide, rfl⟩
  obtain ⟨hst1, hst2, rfl⟩ := hst
  obtain ⟨k, hk⟩ : ∃ k, k = (natD x).length := ⟨_, rfl⟩
  obtain ⟨d, hd⟩ : ∃ d, d = natD x := ⟨_, rfl⟩
  have hk9 : k ≤ 9 := by rw [hk]; exact natD_length_le (by omega) hx
  have hp : padW 9 x = List.replicate (9 - k) 48 ++ d := by rw [hk, hd]; rfl
  have hz := zeros_drop hk9
  have w1 : IntKind.i64.wrap ((n : Int) - 1) = (n : Int) - 1 := wrap_i64 (by omega) (by omega)
  have hjI : (j : Int) < (n : Int) - 1 := by omega
  have hx0 : (x : Int) ≤ 18446744073709551615 := by omega
  have hkI : (k : Int) ≤ 9 := by omega
  have hl1 : t.length + (9 - k) ≤ 100000000 := by omega
  have hl2 : t.length + (9 - k) + k ≤ 100000000 := by omega
  rw [← hd] at hk
  rw [hp]
  have hc : callYldRaw (tyOf Tryz.prog) (fun _ => []) Tryz.clO 1 4 [.int .i64 (j : Int), .int .u64 (x : Int)] (A0 :: .cells true 0 [.bool mn, .slice 0 0 n none] :: .cells true Tryz.bEs [.ptr 2 0, .slice (e + 5) 0 t.length none] :: bc :: .loop ⟨.ready, none, env0, 34, #[17, 18], asg, body⟩ :: RA e t) =
    some (.bool true, A0 :: .cells true 0 [.bool mn, .slice 0 0 n none] :: .cells true Tryz.bEs [.ptr 2 0, .slice (e + 2 + 5) 0 (t ++ (List.replicate (9 - k) 48 ++ d)).length none] :: bc :: .loop ⟨.ready, none, env0, 34, #[17, 18], asg, body⟩ :: RA (e + 2) (t ++ (List.replicate (9 - k) 48 ++ d))) := by
    simp [callYldRaw, hst1, hst2]
    simp [rangesF, rangesC, Tryz.f264] at hb
    obtain ⟨rfl, rfl⟩ := hb
    clear hst1 hst2
    simp [h1, h3, w1, hjI, hx0, hkI, hz, ← hd, ← hk, Tryz.clO, Oracle.or, pureO, Tryz.numF, Tryz.bldO, jumpOf, endSt, RA_length, RA_getE, RA_next, Tryz.strF, bytesA_iB, hl1, hl2]
    omega
  exact callYldRaw_sound Tryz.mixed (tyOf_ok _) Tryz.clO_ok hc
theorem Tryz.close_laterS (A0 : Slot) (mn : Bool) (n : Nat) (bc : Slot) (env0 : Env) (h1 : Go.Eng.look env0 1 = .ptr 1 0) (h3 : Go.Eng.look env0 3 = .ptr 2 0) {ps : Array Tmp} {asg body : Code} (hb : rangesF Tryz.f264 = [(ps, asg, body)])
    (j x e : Nat) (t : List UInt8) (hj : j + 1 < n) (hn : n ≤ 1000000) (hx : x < 1000000000) (ht : t.length ≤ 90000000) :
    AYieldsTo Tryz.prog 6 [.int .i64 (j : Int), .int .u64 (x : Int)] (A0 :: .cells true 0 [.bool mn, .slice 0 0 n none] :: .cells true Tryz.bEs [.ptr 2 0, .slice (e + 7) 0 t.length none] :: .cells true 1 (iB [45]) :: .absent :: bc :: .loop ⟨.ready, none, env0, 34, ps, asg, body⟩ :: RA e t) (.bool true)
      (A0 :: .cells true 0 [.bool mn, .slice 0 0 n none] :: .cells true Tryz.bEs [.ptr 2 0, .slice (e + 2 + 7) 0 (t ++ padW 9 x).length none] :: .cells true 1 (iB [45]) :: .absent :: bc :: .loop ⟨.ready, none, env0, 34, ps, asg, body⟩ :: RA (e + 2) (t ++ padW 9 x)) := by
  have hst : staticC asg = true ∧ staticC body = true ∧ ps = #[17, 18] := by
    simp [rangesF, rangesC, Tryz.f264] at hb
    obtain ⟨rfl, rfl, rfl⟩ := hb
    exact ⟨by decide, by decide, rfl⟩
  obtain ⟨hst1, hst2, rfl⟩ := hst
  obtain ⟨k, hk⟩ : ∃ k, k = (natD x).length := ⟨_, rfl⟩
  obtain ⟨d, hd⟩ : ∃ d, d = natD x := ⟨_, rfl⟩
  have hk9 : k ≤ 9 := by rw [hk]; exact natD_length_le (by omega) hx
  have hp : padW 9 x = List.replicate (9 - k) 48 ++ d := by rw [hk, hd]; rfl
  have hz := zeros_drop hk9
  have w1 : IntKind.i64.wrap ((n : Int) - 1) = (n : Int) - 1 := wrap_i64 (by omega) (by omega)
  have hjI : (j : Int) < (n : Int) - 1 := by omega
  have hx0 : (x : Int) ≤ 18446744073709551615 := by omega
  have hkI : (k : Int) ≤ 9 := by omega
  have hl1 : t.length + (9 - k) ≤ 100000000 := by omega
  have hl2 : t.length + (9 - k) + k ≤ 100000000 := by omega
  rw [← hd] at hk
  rw [hp]
  have hc : callYldRaw (tyOf Tryz.prog) (fun _ => []) Tryz.clO 1 6 [.int .i64 (j : Int), .int .u64 (x : Int)] (A0 :: .cells true 0 [.bool mn, .slice 0 0 n none] :: .cells true Tryz.bEs [.ptr 2 0, .slice (e + 7) 0 t.length none] :: .cells true 1 (iB [45]) :: .absent :: bc :: .loop ⟨.ready, none, env0, 34, #[17, 18], asg, body⟩ :: RA e t) =
    some (.bool true, A0 :: .cells true 0 [.bool mn, .slice 0 0 n none] :: .cells true Tryz.bEs [.ptr 2 0, .slice (e + 2 + 7) 0 (t ++ (List.replicate (9 - k) 48 ++ d)).length none] :: .cells true 1 (iB [45]) :: .absent :: bc :: .loop ⟨.ready, none, env0, 34, #[17, 18], asg, body⟩ :: RA (e + 2) (t ++ (List.replicate (9 - k) 48 ++ d))) := by
    simp [callYldRaw, hst1, hst2]
    simp [rangesF, rangesC, Tryz.f264] at hb
    obtain ⟨rfl, rfl⟩ := hb
    clear hst1 hst2
    simp [h1, h3, w1, hjI, hx0, hkI, hz, ← hd, ← hk, Tryz.clO, Oracle.or, pureO, Tryz.numF, Tryz.bldO, jumpOf, endSt, RA_length, RA_getE, RA_next, Tryz.strF, bytesA_iB, hl1, hl2]
    omega
  exact callYldRaw_sound Tryz.mixed (tyOf_ok _) Tryz.clO_ok hc
theorem Tryz.close_first (A0 : Slot) (mn : Bool) (n : Nat) (bc : Slot) (env0 : Env) (h1 : Go.Eng.look env0 1 = .ptr 1 0) (h3 : Go.Eng.look env0 3 = .ptr 2 0) {ps : Array Tmp} {asg body : Code} (hb : rangesF Tryz.f264 = [(ps, asg, body)])
    (j x : Nat) (hj : j + 1 = n) (hn : n ≤ 1000000) (hx : x < 1000000000) :
    AYieldsTo Tryz.prog 4 [.int .i64 (j : Int), .int .u64 (x : Int)] (A0 :: .cells true 0 [.bool mn, .slice 0 0 n none] :: .cells true Tryz.bEs [.nilptr, .nilslice] :: bc :: [.loop ⟨.ready, none, env0, 34, ps, asg, body⟩]) (.bool true)
      (A0 :: .cells true 0 [.bool mn, .slice 0 0 n none] :: .cells true Tryz.bEs [.ptr 2 0, .slice (0 + 5) 0 (natD x).length none] :: bc :: .loop ⟨.ready, none, env0, 34, ps, asg, body⟩ :: RA 0 (natD x)) := by
  have hst : staticC asg = true ∧ staticC body = true ∧ ps = #[17, 18] := by
    simp [rangesF, rangesC, Tryz.f264] at hb
    obtain ⟨rfl, rfl, rfl⟩ := hb
    exact ⟨by decide, by decide, rfl⟩
  obtain ⟨hst1, hst2, rfl⟩ := hst
  obtain ⟨d, hd⟩ : ∃ d, d = natD x := ⟨_, rfl⟩
  have hk9 : d.length ≤ 9 := by rw [hd]; exact natD_length_le (by omega) hx
  have hk1 : d ≠ [] := by rw [hd]; exact natD_ne x
  have w1 : IntKind.i64.wrap ((n : Int) - 1) = (n : Int) - 1 := wrap_i64 (by omega) (by omega)
  have hjI : ¬ (j : Int) < (n : Int) - 1 := by omega
  have hx0 : (x : Int) ≤ 18446744073709551615 := by omega
  have hl1 : d.length ≤ 100000000 := by omega
  have hl2 : 1 + d.length ≤ 100000000 := by omega
  have hb45 : bytesA (iB [45]) = some [45] := bytesA_iB _
  rw [← hd]
  have hc : callYldRaw (tyOf Tryz.prog) (fun _ => []) Tryz.clO 1 4 [.int .i64 (j : Int), .int .u64 (x : Int)] (A0 :: .cells true 0 [.bool mn, .slice 0 0 n none] :: .cells true Tryz.bEs [.nilptr, .nilslice] :: bc :: [.loop ⟨.ready, none, env0, 34, #[17, 18], asg, body⟩]) =
    some (.bool true, A0 :: .cells true 0 [.bool mn, .slice 0 0 n none] :: .cells true Tryz.bEs [.ptr 2 0, .slice (0 + 5) 0 (d).length none] :: bc :: .loop ⟨.ready, none, env0, 34, #[17, 18], asg, body⟩ :: [.cells true 6001 (iB (d))]) := by
    simp [callYldRaw, hst1, hst2]
    simp [rangesF, rangesC, Tryz.f264] at hb
    obtain ⟨rfl, rfl⟩ := hb
    clear hst1 hst2
    simp [h1, h3, w1, hjI, hx0, ← hd, Tryz.clO, Oracle.or, pureO, Tryz.numF, Tryz.bldO, jumpOf, endSt, Tryz.strF, hl1, hk1]
    try omega
  exact callYldRaw_sound Tryz.mixed (tyOf_ok _) Tryz.clO_ok hc
theorem Tryz.close_firstS (A0 : Slot) (mn : Bool) (n : Nat) (bc : Slot) (env0 : Env) (h1 : Go.Eng.look env0 1 = .ptr 1 0) (h3 : Go.Eng.look env0 3 = .ptr 2 0) {ps : Array Tmp} {asg body : Code} (hb : rangesF Tryz.f264 = [(ps, asg, body)])
    (j x : Nat) (hj : j + 1 = n) (hn : n ≤ 1000000) (hx : x < 1000000000) :
    AYieldsTo Tryz.prog 6 [.int .i64 (j : Int), .int .u64 (x : Int)] (A0 :: .cells true 0 [.bool mn, .slice 0 0 n none] :: .cells true Tryz.bEs [.ptr 2 0, .slice 4 0 1 none] :: .cells true 1 (iB [45]) :: .cells true 6001 (iB [45]) :: bc :: [.loop ⟨.ready, none, env0, 34, ps, asg, body⟩]) (.bool true)
      (A0 :: .cells true 0 [.bool mn, .slice 0 0 n none] :: .cells true Tryz.bEs [.ptr 2 0, .slice (0 + 7) 0 (45 :: natD x).length none] :: .cells true 1 (iB [45]) :: .absent :: bc :: .loop ⟨.ready, none, env0, 34, ps, asg, body⟩ :: RA 0 (45 :: natD x)) := by
  have hst : staticC asg = true ∧ staticC body = true ∧ ps = #[17, 18] := by
    simp [rangesF, rangesC, Tryz.f264] at hb
    obtain ⟨rfl, rfl, rfl⟩ := hb
    exact ⟨by decide, by decide, rfl⟩
  obtain ⟨hst1, hst2, rfl⟩ := hst
  obtain ⟨d, hd⟩ : ∃ d, d = natD x := ⟨_, rfl⟩
  have hk9 : d.length ≤ 9 := by rw [hd]; exact natD_length_le (by omega) hx
  have hk1 : d ≠ [] := by rw [hd]; exact natD_ne x
  have w1 : IntKind.i64.wrap ((n : Int) - 1) = (n : Int) - 1 := wrap_i64 (by omega) (by omega)
  have hjI : ¬ (j : Int) < (n : Int) - 1 := by omega
  have hx0 : (x : Int) ≤ 18446744073709551615 := by omega
  have hl1 : d.length ≤ 100000000 := by omega
  have hl2 : 1 + d.length ≤ 100000000 := by omega
  have hb45 : bytesA (iB [45]) = some [45] := bytesA_iB _
  rw [← hd]
  have hc : callYldRaw (tyOf Tryz.prog) (fun _ => []) Tryz.clO 1 6 [.int .i64 (j : Int), .int .u64 (x : Int)] (A0 :: .cells true 0 [.bool mn, .slice 0 0 n none] :: .cells true Tryz.bEs [.ptr 2 0, .slice 4 0 1 none] :: .cells true 1 (iB [45]) :: .cells true 6001 (iB [45]) :: bc :: [.loop ⟨.ready, none, env0, 34, #[17, 18], asg, body⟩]) =
    some (.bool true, A0 :: .cells true 0 [.bool mn, .slice 0 0 n none] :: .cells true Tryz.bEs [.ptr 2 0, .slice (0 + 7) 0 (45 :: d).length none] :: .cells true 1 (iB [45]) :: .absent :: bc :: .loop ⟨.ready, none, env0, 34, #[17, 18], asg, body⟩ :: [.cells true 6001 (iB (45 :: d))]) := by
    simp [callYldRaw, hst1, hst2]
    simp [rangesF, rangesC, Tryz.f264] at hb
    obtain ⟨rfl, rfl⟩ := hb
    clear hst1 hst2
    simp [h1, h3, w1, hjI, hx0, ← hd, Tryz.clO, Oracle.or, pureO, Tryz.numF, Tryz.bldO, jumpOf, endSt, Tryz.strF, hl2, hb45]
    try omega
  exact callYldRaw_sound Tryz.mixed (tyOf_ok _) Tryz.clO_ok hc
end Go.Proofs
namespace Go.Proofs
open Go.Eng
theorem drop_last {l : List Nat} {j : Nat} (h : j + 1 = l.length) : l.drop (j + 1) = [] := List.drop_of_length_le (by omega)
theorem reach_one {m k : Nat} {mem : Mem} {s : Slot} (h : mem[k]? = some s) (hr : s.refs m = []) : reach m mem 1000 [k] [] = [k] := by
  have : mem.getD k .absent = s := by simp [List.getD, h]
  unfold reach
  rw [this, hr]
  simp only [List.contains_nil, Bool.false_eq_true, if_false, List.nil_append, List.append_nil]
  rfl
theorem rowRefs (m e : Nat) (t : List UInt8) : (RA e t).flatMap (Slot.refs m) = [] := by
  simp [RA, Slot.refs]
def Tryz.clM (A : List Nat) (mn : Bool) (lp : Slot) (j : Nat) : Mem :=
  if j = A.length then .cells false 1 (iN .u64 A) :: .cells true 0 [.bool mn, .slice 0 0 A.length none] :: .cells true Tryz.bEs [.nilptr, .nilslice] :: .cells true 0 [.slice 0 0 A.length none] :: [lp]
  else .cells false 1 (iN .u64 A) :: .cells true 0 [.bool mn, .slice 0 0 A.length none] :: .cells true Tryz.bEs [.ptr 2 0, .slice (2 * (A.length - 1 - j) + 5) 0 (natD (lval 1000000000 (A.drop j))).length none] :: .cells true 0 [.slice 0 0 A.length none] :: lp :: RA (2 * (A.length - 1 - j)) (natD (lval 1000000000 (A.drop j)))
theorem Tryz.close_range (v : Nat) (mn : Bool) (hv : 0 < v) (hl : (dig 1000000000 v).length ≤ 1000000) {ps : Array Tmp} {asg body : Code} (hb : rangesF Tryz.f264 = [(ps, asg, body)]) (env0 : Env)
    (h1 : Go.Eng.look env0 1 = .ptr 1 0) (h3 : Go.Eng.look env0 3 = .ptr 2 0) (he : env0.flatMap (fun e => e.2.refs 5) = []) :
    ACallsTo Tryz.prog 340 [.yield 4, .ptr 3 0] [.cells false 1 (iN .u64 (dig 1000000000 v)), .cells true 0 [.bool mn, .slice 0 0 (dig 1000000000 v).length none], .cells true Tryz.bEs [.nilptr, .nilslice], .cells true 0 [.slice 0 0 (dig 1000000000 v).length none], .loop ⟨.ready, none, env0, 34, ps, asg, body⟩] (.tuple [])
      [.cells false 1 (iN .u64 (dig 1000000000 v)), .cells true 0 [.bool mn, .slice 0 0 (dig 1000000000 v).length none], .cells true Tryz.bEs [.ptr 2 0, .slice 5 0 (natD v).length none], .cells true 0 [.slice 0 0 (dig 1000000000 v).length none], .loop ⟨.ready, none, env0, 34, ps, asg, body⟩, .cells true 6001 (iB (natD v))] := by
  obtain ⟨A, hA⟩ : ∃ A, A = dig 1000000000 v := ⟨_, rfl⟩
  have hAl : lok 1000000000 A = true := by rw [hA]; exact lok_dig (by omega) v
  have hAv : lval 1000000000 A = v := by rw [hA]; exact lval_dig (by omega) v
  have hpos : ∀ j, j < A.length → 0 < lval 1000000000 (A.drop j) := fun j hj => by rw [hA] at hj ⊢; exact lval_drop_pos (by omega) hj
  rw [← hA] at hl ⊢
  have hn : 0 < A.length := by
    rcases Nat.eq_zero_or_pos A.length with h | h
    · rw [List.eq_nil_of_length_eq_zero h] at hAv; simp [lval] at hAv; omega
    · exact h
  clear hA
  obtain ⟨lp, hlp⟩ : ∃ lp, lp = Slot.loop ⟨.ready, none, env0, 34, ps, asg, body⟩ := ⟨_, rfl⟩
  have hlr : Slot.refs 5 lp = [] := by rw [hlp]; exact refs_loop he
  have hlren : ∀ ks, Slot.ren (rho 5 ks) lp = lp := fun ks => by rw [hlp]; exact ren_loop he
  have hM0 : Tryz.clM A mn lp 0 = .cells false 1 (iN .u64 A) :: .cells true 0 [.bool mn, .slice 0 0 A.length none] :: .cells true Tryz.bEs [.ptr 2 0, .slice (2 * (A.length - 1) + 5) 0 (natD v).length none] :: .cells true 0 [.slice 0 0 A.length none] :: lp :: RA (2 * (A.length - 1)) (natD v) := by
    unfold Tryz.clM
    rw [if_neg (by omega), List.drop_zero, hAv, Nat.sub_zero]
  have hMn : Tryz.clM A mn lp A.length = [.cells false 1 (iN .u64 A), .cells true 0 [.bool mn, .slice 0 0 A.length none], .cells true Tryz.bEs [.nilptr, .nilslice], .cells true 0 [.slice 0 0 A.length none], lp] := by
    unfold Tryz.clM
    rw [if_pos rfl]
  have hMj : ∀ j, j < A.length → Tryz.clM A mn lp j = .cells false 1 (iN .u64 A) :: .cells true 0 [.bool mn, .slice 0 0 A.length none] :: .cells true Tryz.bEs [.ptr 2 0, .slice (2 * (A.length - 1 - j) + 5) 0 (natD (lval 1000000000 (A.drop j))).length none] :: .cells true 0 [.slice 0 0 A.length none] :: lp :: RA (2 * (A.length - 1 - j)) (natD (lval 1000000000 (A.drop j))) := fun j hj => by
    unfold Tryz.clM
    rw [if_neg (by omega)]
  have key := Tryz.backwardG (n := A.length) (A := A) rfl hn (by omega) 3 0 4 5 0 true false (Tryz.clM A mn lp) (by rw [hMn]; rfl)
    (fun j hj => by
      rw [hMj j hj]
      by_cases hj1 : j + 1 = A.length
      · rw [hj1, hMn]; simp [RA_length]
      · rw [hMj (j + 1) (by omega)]; simp [RA_length]; omega)
    (fun j hj => by
      by_cases hj1 : j = A.length
      · rw [hj1, hMn]; rfl
      · rw [hMj j (by omega)]; rfl)
    (fun j hj => by
      by_cases hj1 : j = A.length
      · rw [hj1, hMn]; rfl
      · rw [hMj j (by omega)]; rfl)
    (fun j hj => by
      rw [hMj j hj]
      have h5 : ∀ e, ¬ e + 5 < 5 := fun e => by omega
      simp [h5])
    (fun j hj => by
      obtain ⟨x, hx, hx'⟩ := get_both hj
      have hg : A.getD j 0 = x := by simp [List.getD, hx]
      have hxb := lok_get hAl hx
      rw [hg]
      by_cases hj1 : j + 1 = A.length
      · rw [hj1, hMn, hMj j hj]
        have e1 : A.length - 1 - j = 0 := by omega
        have e2 : lval 1000000000 (A.drop j) = x := by
          rw [lval_drop hx, drop_last hj1]; simp [lval]
        rw [e1, e2, hlp]
        exact Tryz.close_first _ mn A.length _ env0 h1 h3 hb j x hj1 hl hxb
      · rw [hMj j hj, hMj (j + 1) (by omega)]
        have e1 : 2 * (A.length - 1 - j) = 2 * (A.length - 1 - (j + 1)) + 2 := by omega
        have e2 : natD (lval 1000000000 (A.drop j)) = natD (lval 1000000000 (A.drop (j + 1))) ++ padW 9 x := by
          rw [lval_drop hx]
          exact natD_pad (w := 9) (by omega) hxb (hpos (j + 1) (by omega))
        have e3 : (natD (lval 1000000000 (A.drop (j + 1)))).length ≤ 89000000 := by
          have h1 := lval_lt (lok_drop hAl (j + 1))
          have h2 : (1000000000 : Nat) ^ (A.drop (j + 1)).length = 10 ^ (9 * (A.drop (j + 1)).length) := by rw [Nat.pow_mul]
          rw [h2] at h1
          have h3 : 0 < 9 * (A.drop (j + 1)).length := by simp; omega
          have h4 := natD_length_le h3 h1
          simp at h4; omega
        rw [e1, e2, hlp]
        exact Tryz.close_later _ mn A.length _ env0 h1 h3 hb j x _ (natD (lval 1000000000 (A.drop (j + 1)))) (by omega) hl hxb (by first | omega | (simp only [List.length_cons]; omega)))
    [2 * (A.length - 1) + 5] (by
      rw [hM0]
      have h5 : ¬ 2 * (A.length - 1) + 5 < 5 := by omega
      have hf : List.flatMap (Slot.refs 5) (List.take 5 (.cells false 1 (iN .u64 A) :: .cells true 0 [.bool mn, .slice 0 0 A.length none] :: .cells true Tryz.bEs [.ptr 2 0, .slice (2 * (A.length - 1) + 5) 0 (natD v).length none] :: .cells true 0 [.slice 0 0 A.length none] :: lp :: RA (2 * (A.length - 1)) (natD v))) = [2 * (A.length - 1) + 5] := by
        simp only [List.take_succ_cons, List.take_zero, List.flatMap_cons, List.flatMap_nil, hlr]
        simp [h5]
      rw [hf]
      exact reach_one (s := .cells true 6001 (iB (natD v))) (by simp [RA]) (by simp)) (by
      rw [hM0]
      simp [RA_length])
  have h5 : ¬ 2 * (A.length - 1) + 5 < 5 := by omega
  rw [hM0, hMn] at key
  simp only [List.take_succ_cons, List.take_zero, List.map_cons, List.map_nil, hlren] at key
  simpa [hlp, List.idxOf?, RA, h5] using key
def Tryz.clMS (A : List Nat) (mn : Bool) (lp : Slot) (j : Nat) : Mem :=
  if j = A.length then .cells false 1 (iN .u64 A) :: .cells true 0 [.bool mn, .slice 0 0 A.length none] :: .cells true Tryz.bEs [.ptr 2 0, .slice 4 0 1 none] :: .cells true 1 (iB [45]) :: .cells true 6001 (iB [45]) :: .cells true 0 [.slice 0 0 A.length none] :: [lp]
  else .cells false 1 (iN .u64 A) :: .cells true 0 [.bool mn, .slice 0 0 A.length none] :: .cells true Tryz.bEs [.ptr 2 0, .slice (2 * (A.length - 1 - j) + 7) 0 (45 :: natD (lval 1000000000 (A.drop j))).length none] :: .cells true 1 (iB [45]) :: .absent :: .cells true 0 [.slice 0 0 A.length none] :: lp :: RA (2 * (A.length - 1 - j)) (45 :: natD (lval 1000000000 (A.drop j)))
theorem Tryz.close_rangeS (v : Nat) (mn : Bool) (hv : 0 < v) (hl : (dig 1000000000 v).length ≤ 1000000) {ps : Array Tmp} {asg body : Code} (hb : rangesF Tryz.f264 = [(ps, asg, body)]) (env0 : Env)
    (h1 : Go.Eng.look env0 1 = .ptr 1 0) (h3 : Go.Eng.look env0 3 = .ptr 2 0) (he : env0.flatMap (fun e => e.2.refs 7) = []) :
    ACallsTo Tryz.prog 340 [.yield 6, .ptr 5 0] [.cells false 1 (iN .u64 (dig 1000000000 v)), .cells true 0 [.bool mn, .slice 0 0 (dig 1000000000 v).length none], .cells true Tryz.bEs [.ptr 2 0, .slice 4 0 1 none], .cells true 1 (iB [45]), .cells true 6001 (iB [45]), .cells true 0 [.slice 0 0 (dig 1000000000 v).length none], .loop ⟨.ready, none, env0, 34, ps, asg, body⟩] (.tuple [])
      [.cells false 1 (iN .u64 (dig 1000000000 v)), .cells true 0 [.bool mn, .slice 0 0 (dig 1000000000 v).length none], .cells true Tryz.bEs [.ptr 2 0, .slice 7 0 (45 :: natD v).length none], .cells true 1 (iB [45]), .absent, .cells true 0 [.slice 0 0 (dig 1000000000 v).length none], .loop ⟨.ready, none, env0, 34, ps, asg, body⟩, .cells true 6001 (iB (45 :: natD v))] := by
  obtain ⟨A, hA⟩ : ∃ A, A = dig 1000000000 v := ⟨_, rfl⟩
  have hAl : lok 1000000000 A = true := by rw [hA]; exact lok_dig (by omega) v
  have hAv : lval 1000000000 A = v := by rw [hA]; exact lval_dig (by omega) v
  have hpos : ∀ j, j < A.length → 0 < lval 1000000000 (A.drop j) := fun j hj => by rw [hA] at hj ⊢; exact lval_drop_pos (by omega) hj
  rw [← hA] at hl ⊢
  have hn : 0 < A.length := by
    rcases Nat.eq_zero_or_pos A.length with h | h
    · rw [List.eq_nil_of_length_eq_zero h] at hAv; simp [lval] at hAv; omega
    · exact h
  clear hA
  obtain ⟨lp, hlp⟩ : ∃ lp, lp = Slot.loop ⟨.ready, none, env0, 34, ps, asg, body⟩ := ⟨_, rfl⟩
  have hlr : Slot.refs 7 lp = [] := by rw [hlp]; exact refs_loop he
  have hlren : ∀ ks, Slot.ren (rho 7 ks) lp = lp := fun ks => by rw [hlp]; exact ren_loop he
  have hM0 : Tryz.clMS A mn lp 0 = .cells false 1 (iN .u64 A) :: .cells true 0 [.bool mn, .slice 0 0 A.length none] :: .cells true Tryz.bEs [.ptr 2 0, .slice (2 * (A.length - 1) + 7) 0 (45 :: natD v).length none] :: .cells true 1 (iB [45]) :: .absent :: .cells true 0 [.slice 0 0 A.length none] :: lp :: RA (2 * (A.length - 1)) (45 :: natD v) := by
    unfold Tryz.clMS
    rw [if_neg (by omega), List.drop_zero, hAv, Nat.sub_zero]
  have hMn : Tryz.clMS A mn lp A.length = [.cells false 1 (iN .u64 A), .cells true 0 [.bool mn, .slice 0 0 A.length none], .cells true Tryz.bEs [.ptr 2 0, .slice 4 0 1 none], .cells true 1 (iB [45]), .cells true 6001 (iB [45]), .cells true 0 [.slice 0 0 A.length none], lp] := by
    unfold Tryz.clMS
    rw [if_pos rfl]
  have hMj : ∀ j, j < A.length → Tryz.clMS A mn lp j = .cells false 1 (iN .u64 A) :: .cells true 0 [.bool mn, .slice 0 0 A.length none] :: .cells true Tryz.bEs [.ptr 2 0, .slice (2 * (A.length - 1 - j) + 7) 0 (45 :: natD (lval 1000000000 (A.drop j))).length none] :: .cells true 1 (iB [45]) :: .absent :: .cells true 0 [.slice 0 0 A.length none] :: lp :: RA (2 * (A.length - 1 - j)) (45 :: natD (lval 1000000000 (A.drop j))) := fun j hj => by
    unfold Tryz.clMS
    rw [if_neg (by omega)]
  have key := Tryz.backwardG (n := A.length) (A := A) rfl hn (by omega) 5 0 6 7 0 true false (Tryz.clMS A mn lp) (by rw [hMn]; rfl)
    (fun j hj => by
      rw [hMj j hj]
      by_cases hj1 : j + 1 = A.length
      · rw [hj1, hMn]; simp [RA_length]
      · rw [hMj (j + 1) (by omega)]; simp [RA_length]; omega)
    (fun j hj => by
      by_cases hj1 : j = A.length
      · rw [hj1, hMn]; rfl
      · rw [hMj j (by omega)]; rfl)
    (fun j hj => by
      by_cases hj1 : j = A.length
      · rw [hj1, hMn]; rfl
      · rw [hMj j (by omega)]; rfl)
    (fun j hj => by
      rw [hMj j hj]
      have h5 : ∀ e, ¬ e + 7 < 7 := fun e => by omega
      simp [h5])
    (fun j hj => by
      obtain ⟨x, hx, hx'⟩ := get_both hj
      have hg : A.getD j 0 = x := by simp [List.getD, hx]
      have hxb := lok_get hAl hx
      rw [hg]
      by_cases hj1 : j + 1 = A.length
      · rw [hj1, hMn, hMj j hj]
        have e1 : A.length - 1 - j = 0 := by omega
        have e2 : lval 1000000000 (A.drop j) = x := by
          rw [lval_drop hx, drop_last hj1]; simp [lval]
        rw [e1, e2, hlp]
        exact Tryz.close_firstS _ mn A.length _ env0 h1 h3 hb j x hj1 hl hxb
      · rw [hMj j hj, hMj (j + 1) (by omega)]
        have e1 : 2 * (A.length - 1 - j) = 2 * (A.length - 1 - (j + 1)) + 2 := by omega
        have e2 : natD (lval 1000000000 (A.drop j)) = natD (lval 1000000000 (A.drop (j + 1))) ++ padW 9 x := by
          rw [lval_drop hx]
          exact natD_pad (w := 9) (by omega) hxb (hpos (j + 1) (by omega))
        have e3 : (natD (lval 1000000000 (A.drop (j + 1)))).length ≤ 89000000 := by
          have h1 := lval_lt (lok_drop hAl (j + 1))
          have h2 : (1000000000 : Nat) ^ (A.drop (j + 1)).length = 10 ^ (9 * (A.drop (j + 1)).length) := by rw [Nat.pow_mul]
          rw [h2] at h1
          have h3 : 0 < 9 * (A.drop (j + 1)).length := by simp; omega
          have h4 := natD_length_le h3 h1
          simp at h4; omega
        rw [e1, e2, hlp]
        exact Tryz.close_laterS _ mn A.length _ env0 h1 h3 hb j x _ (45 :: natD (lval 1000000000 (A.drop (j + 1)))) (by omega) hl hxb (by first | omega | (simp only [List.length_cons]; omega)))
    [2 * (A.length - 1) + 7] (by
      rw [hM0]
      have h5 : ¬ 2 * (A.length - 1) + 7 < 7 := by omega
      have hf : List.flatMap (Slot.refs 7) (List.take 7 (.cells false 1 (iN .u64 A) :: .cells true 0 [.bool mn, .slice 0 0 A.length none] :: .cells true Tryz.bEs [.ptr 2 0, .slice (2 * (A.length - 1) + 7) 0 (45 :: natD v).length none] :: .cells true 1 (iB [45]) :: .absent :: .cells true 0 [.slice 0 0 A.length none] :: lp :: RA (2 * (A.length - 1)) (45 :: natD v))) = [2 * (A.length - 1) + 7] := by
        simp only [List.take_succ_cons, List.take_zero, List.flatMap_cons, List.flatMap_nil, hlr]
        simp [h5]
      rw [hf]
      exact reach_one (s := .cells true 6001 (iB (45 :: natD v))) (by simp [RA]) (by simp)) (by
      rw [hM0]
      simp [RA_length])
  have h5 : ¬ 2 * (A.length - 1) + 7 < 7 := by omega
  rw [hM0, hMn] at key
  simp only [List.take_succ_cons, List.take_zero, List.map_cons, List.map_nil, hlren] at key
  simpa [hlp, List.idxOf?, RA, h5] using key
end Go.Proofs
