/- Part A45 of a proof: see its last part, YtiopbpbcgccngaaGreatDoorA47.lean. -/
import Derived.Test.YtiopbpbcgccngaaGreatDoorA44
set_option linter.all false
namespace Go.Proofs.YtiopbpbcgccngaaGreatDoor
open Go.ChangeShapes Go.WideShapes Go.ChangeAt Go.WideMaps Go.WideElems Go.RowKit Go.Eng
theorem noOwn_row (es : Nat) (cs : List AV) : ∀ b, ¬ OwnAt [.cells false es cs] b := by
  rintro b ⟨s, hs, ho⟩
  cases b with
  | succ b => simp at hs
  | zero => simp at hs; subst hs; cases ho
theorem noOwn_nil : ∀ b, ¬ OwnAt [] b := by
  rintro b ⟨s, hs, _⟩; simp at hs
theorem hrel_empty (W : World) : HRel W.heap.size (fun _ => ⟨0, 0, 0, 0⟩) [] W := ⟨Nat.le_refl _, fun b s hs => by simp at hs, fun b b' s' hb => by obtain ⟨x, hx, _⟩ := hb; simp at hx⟩
set_option maxRecDepth 100000 in
theorem welllogTops_lifted (os : Os) (started : os.Started) (H : Type) (enc : TypeId × Value → H) :
    ReturnsInHanded {} Tryz.checked os 3 .any (fun w args => (Rows.welllogTopsSpec.pre enc Tryz.prog Tryz.f3 [] false w args ∧ laidMetH Tryz.prog laidAll w) ∧ sizedMet enc Tryz.prog Tryz.f3 (OpenSpec.ofChange Rows.welllogTopsSpec) false w args)
      (Rows.welllogTopsSpec.post enc Tryz.prog Tryz.f3 false true false false) := by
  refine returnsInHanded_of_change_and (C := Tryz.checked) (X := fun w _ => laidMetH Tryz.prog laidAll w) (fun _ _ _ hh h => h.of_heap hh) own started (by kernel_rfl) Tryz.func3
    (ChangeSpec.witness_shaped (enc := enc) (C := Tryz.checked) (os := os) (X := fun w _ => laidMetH Tryz.prog laidAll w) false (World.doorLaid Tryz.prog 400 os) #[.slice none 0 0] 8 rfl (World.shaped_of_RefB (by kernel_rfl) (by kernel_rfl)) (by kernel_rfl) (by kernel_rfl) (by kernel_rfl) (door_met os _)) ?_
  intro W base args ds gs before hval0 hW _ _ hL _
  have hval : ∀ (j : Nat) t v, Tryz.f3.params[j]? = some t → args[j]? = some v → Value.okWide Tryz.prog W .any base t v := hval0
  have hW' := hW
  obtain ⟨p, q, hA0, hV, hpq, hfz, hnd⟩ := hW
  have hA : DataW.TrodAll enc Tryz.prog W 0 (fun _ => true) true Tryz.f3.params.toList args.toList ds p := hA0
  have hpar : Tryz.f3.params = #[22] := rfl
  rw [hpar] at hA hval
  obtain ⟨v0, d0, hargs, rfl, h0⟩ := trodAll_one hA
  subst hargs
  obtain ⟨rfl, rfl⟩ := trodVars_none hV
  have hG := glob_of_laid hL
  have hlt : ∀ x ∈ before, x.block < W.heap.size := hW'.lt
  have fin : ∀ (W' : World), Below W.heap.size W W' → Rows.welllogTopsSpec.post enc Tryz.prog Tryz.f3 false true false false W #[v0] (.bool true) W' := by
    intro W' hb
    refine post_true rfl hW' hb hpq rfl rfl rfl fun sp hsp => ?_
    rw [hpar]
    rw [List.append_nil]
    have hm : ∀ x ∈ p, x ∈ before := fun x hx => by rw [hpq, List.append_nil]; exact hx
    exact trodAll_mk1 (Trod_stays laidOut (by kernel_rfl) (of_decide_eq_true (by kernel_rfl)) h0 (fun x hx => hb.same (hlt x (hm x hx))) (fun x hx => hsp x (hm x hx)))
  rcases open_bits (hval 0 22 v0 rfl rfl) h0 with rfl | ⟨μ, B, hB, hH, hv⟩
  · refine (Tryz.aWelllogTopsNil.2 W.heap.size _ W [.slice none 0 0] hG (hrel_empty W) (VRels_cons.2 ⟨by simp [VRel], by simp [VRels]⟩)).mono ?_
    rintro e W' ⟨V, v', m', μ', rfl, q1, q2, q3, rfl, rfl⟩
    simp only [VRel] at q1
    subst q1
    exact ⟨_, rfl, fin W' (kept_of q3 noOwn_nil)⟩
  · refine ((Tryz.aWelllogTops B hB).2 W.heap.size μ W [v0] hG hH (VRels_cons.2 ⟨hv, by simp [VRels]⟩)).mono ?_
    rintro e W' ⟨V, v', m', μ', rfl, q1, q2, q3, rfl, rfl⟩
    simp only [VRel] at q1
    subst q1
    exact ⟨_, rfl, fin W' (kept_of q3 (noOwn_row _ _))⟩
end Go.Proofs.YtiopbpbcgccngaaGreatDoor
