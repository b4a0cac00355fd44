/- Part A49 of a proof: see its last part, YtindglnpfdlbhaaGreatDoorA51.lean. -/
import Derived.Test.YtindglnpfdlbhaaGreatDoorA48
set_option linter.all false
namespace Go.Proofs.YtindglnpfdlbhaaGreatDoor
open Go.ChangeShapes Go.WideShapes Go.ChangeAt Go.WideMaps Go.WideElems Go.RowKit Go.Eng
set_option maxRecDepth 100000 in
theorem eventValues_lifted (os : Os) (started : os.Started) (H : Type) (enc : TypeId × Value → H) :
    ReturnsInHanded {} Tryz.checked os 3 .any (fun w args => (Rows.eventValuesSpec.pre enc Tryz.prog Tryz.f3 [] false w args ∧ laidMetH Tryz.prog laidAll w) ∧ sizedMet enc Tryz.prog Tryz.f3 (OpenSpec.ofChange Rows.eventValuesSpec) false w args)
      (Rows.eventValuesSpec.post enc Tryz.prog Tryz.f3 false true false false) := by
  refine returnsInHanded_of_change_and (C := Tryz.checked) (X := fun w _ => laidMetH Tryz.prog laidAll w) (fun _ _ _ hh h => h.of_heap hh) own started (by kernel_rfl) Tryz.func3
    (ChangeSpec.witness_shaped (enc := enc) (C := Tryz.checked) (os := os) (X := fun w _ => laidMetH Tryz.prog laidAll w) false (World.doorLaid Tryz.prog 400 os) #[.slice none 0 0, .string ⟨#[]⟩] 8 rfl (World.shaped_of_RefB (by kernel_rfl) (by kernel_rfl)) (by kernel_rfl) (by kernel_rfl) (by kernel_rfl) (door_met os _)) ?_
  intro W base args ds gs before hval0 hW _ _ hL _
  have hval : ∀ (j : Nat) t v, Tryz.f3.params[j]? = some t → args[j]? = some v → Value.okWide Tryz.prog W .any base t v := hval0
  have hW' := hW
  obtain ⟨p, q, hA0, hV, hpq, hfz, hnd⟩ := hW
  have hA : DataW.TrodAll enc Tryz.prog W 0 (fun _ => true) true Tryz.f3.params.toList args.toList ds p := hA0
  have hpar : Tryz.f3.params = #[22, 23] := rfl
  rw [hpar] at hA hval
  obtain ⟨v0, v1, d0, d1, p0, p1, hargs, rfl, rfl, h0, h1⟩ := trodAll_two hA
  subst hargs
  obtain ⟨rfl, rfl⟩ := trodVars_none hV
  have hG := glob_of_laid hL
  obtain ⟨s, rfl, hd1, hp1, _⟩ := Go.ChangeMaps.open_string Tryz.underlying23 (hval 1 23 v1 rfl rfl) h1
  have hlt : ∀ x ∈ before, x.block < W.heap.size := hW'.lt
  have fin : ∀ (W' : World), Below W.heap.size W W' → Rows.eventValuesSpec.post enc Tryz.prog Tryz.f3 false true false false W #[v0, .string s] (.bool true) W' := by
    intro W' hb
    refine post_true rfl hW' hb hpq rfl rfl rfl fun sp hsp => ?_
    rw [hpar]
    rw [List.append_nil]
    have hm : ∀ x ∈ p0 ++ p1, x ∈ before := fun x hx => by rw [hpq, List.append_nil]; exact hx
    exact trodAll_mk2 (Trod_stays laidOut (by kernel_rfl) (of_decide_eq_true (by kernel_rfl)) h0 (fun x hx => hb.same (hlt x (hm x (List.mem_append_left _ hx)))) (fun x hx => hsp x (hm x (List.mem_append_left _ hx))))
      (Trod_stays laidOut (by kernel_rfl) (of_decide_eq_true (by kernel_rfl)) h1 (fun x hx => hb.same (hlt x (hm x (List.mem_append_right _ hx)))) (fun x hx => hsp x (hm x (List.mem_append_right _ hx))))
  have noOwn : ∀ (L : List (List UInt8 × List UInt8)) b, ¬ OwnAt [.cells false 2 (kC L)] b := by
    rintro L b ⟨s, hs, ho⟩
    cases b with
    | succ b => simp at hs
    | zero => simp at hs; subst hs; cases ho
  rcases open_knots (hval 0 22 v0 rfl rfl) h0 with rfl | ⟨μ, L, hH, hv⟩
  · have hH : HRel W.heap.size (fun _ => ⟨0, 0, 0, 0⟩) [] W := ⟨Nat.le_refl _, fun b s hs => by simp at hs, fun b b' s' hb => by obtain ⟨x, hx, _⟩ := hb; simp at hx⟩
    refine ((Tryz.aEventValuesNil s.data.toList).2 W.heap.size _ W [.slice none 0 0, .string s] hG hH (VRels_cons.2 ⟨by simp [VRel], VRels_cons.2 ⟨vrel_string _ _ s, by simp [VRels]⟩⟩)).mono ?_
    rintro e W' ⟨V, v', m', μ', rfl, q1, q2, q3, rfl, rfl⟩
    simp only [VRel] at q1
    subst q1
    exact ⟨_, rfl, fin W' (kept_of q3 fun b hb => by obtain ⟨x, hx, _⟩ := hb; simp at hx)⟩
  · refine ((Tryz.aEventValues L s.data.toList).2 W.heap.size μ W [v0, .string s] hG hH (VRels_cons.2 ⟨hv, VRels_cons.2 ⟨vrel_string _ _ s, by simp [VRels]⟩⟩)).mono ?_
    rintro e W' ⟨V, v', m', μ', rfl, q1, q2, q3, rfl, rfl⟩
    simp only [VRel] at q1
    subst q1
    exact ⟨_, rfl, fin W' (kept_of q3 (noOwn L))⟩
end Go.Proofs.YtindglnpfdlbhaaGreatDoor
