/- Part C52 of a proof: see its last part, YtiopbpbcgccngaaGreatDoorC54.lean. -/
import Derived.Test.YtiopbpbcgccngaaGreatDoorC51
import Derived.Test.YtiopbpbcgccngaaGreatDoorC50
set_option linter.all false
namespace Go.Proofs.YtiopbpbcgccngaaGreatDoor
open Go.ChangeShapes Go.WideShapes Go.ChangeAt Go.WideMaps Go.WideElems Go.RowKit Go.Eng
set_option maxRecDepth 100000 in
theorem welllogCuts_lifted (os : Os) (started : os.Started) (H : Type) (enc : TypeId × Value → H) :
    ReturnsInHanded {} Tryz.checked os 6 .any (fun w args => (Rows.welllogCutsSpec.pre enc Tryz.prog Tryz.f6 [] false w args ∧ laidMetH Tryz.prog laidAll w) ∧ sizedMet enc Tryz.prog Tryz.f6 (OpenSpec.ofChange Rows.welllogCutsSpec) false w args)
      (Rows.welllogCutsSpec.post enc Tryz.prog Tryz.f6 false true false false) := by
  refine returnsInHanded_of_change_and (C := Tryz.checked) (X := fun w _ => laidMetH Tryz.prog laidAll w) (fun _ _ _ hh h => h.of_heap hh) own started (by kernel_rfl) Tryz.func6
    (ChangeSpec.witness_shaped (enc := enc) (C := Tryz.checked) (os := os) (X := fun w _ => laidMetH Tryz.prog laidAll w) false (World.doorLaid Tryz.prog 400 os) #[.slice none 0 0, .string ⟨#[]⟩, .string ⟨#[]⟩] 8 rfl (World.shaped_of_RefB (by kernel_rfl) (by kernel_rfl)) (by kernel_rfl) (by kernel_rfl) (by kernel_rfl) (door_met os _)) ?_
  intro W base args ds gs before hval0 hW _ _ hL _
  have hval : ∀ (j : Nat) t v, Tryz.f6.params[j]? = some t → args[j]? = some v → Value.okWide Tryz.prog W .any base t v := hval0
  have hW' := hW
  obtain ⟨p, q, hA0, hV, hpq, hfz, hnd⟩ := hW
  have hA : DataW.TrodAll enc Tryz.prog W 0 (fun _ => true) true Tryz.f6.params.toList args.toList ds p := hA0
  have hpar : Tryz.f6.params = #[22, 31, 31] := rfl
  rw [hpar] at hA hval
  obtain ⟨v0, v1, v2, d0, d1, d2, p0, p1, p2, hargs, rfl, rfl, h0, h1, h2⟩ := trodAll_three hA
  subst hargs
  obtain ⟨rfl, rfl⟩ := trodVars_none hV
  have hG := glob_of_laid hL
  obtain ⟨s, rfl, _⟩ := Go.ChangeMaps.open_string Tryz.underlying31 (hval 1 31 v1 rfl rfl) h1
  obtain ⟨u, rfl, _⟩ := Go.ChangeMaps.open_string Tryz.underlying31 (hval 2 31 v2 rfl rfl) h2
  have hlt : ∀ x ∈ before, x.block < W.heap.size := hW'.lt
  have fin : ∀ (W' : World), Below W.heap.size W W' → Rows.welllogCutsSpec.post enc Tryz.prog Tryz.f6 false true false false W #[v0, .string s, .string u] (.bool true) W' := by
    intro W' hb
    refine post_true rfl hW' hb hpq rfl rfl rfl fun sp hsp => ?_
    rw [hpar]
    rw [List.append_nil, List.append_assoc]
    have hm : ∀ x ∈ p0 ++ (p1 ++ p2), x ∈ before := fun x hx => by rw [hpq, List.append_nil, List.append_assoc]; exact hx
    have m0 : ∀ x ∈ p0, x ∈ p0 ++ (p1 ++ p2) := fun x hx => List.mem_append_left _ hx
    have m1 : ∀ x ∈ p1, x ∈ p0 ++ (p1 ++ p2) := fun x hx => List.mem_append_right _ (List.mem_append_left _ hx)
    have m2 : ∀ x ∈ p2, x ∈ p0 ++ (p1 ++ p2) := fun x hx => List.mem_append_right _ (List.mem_append_right _ hx)
    exact trodAll_mk3 (Trod_stays laidOut (by kernel_rfl) (of_decide_eq_true (by kernel_rfl)) h0 (fun x hx => hb.same (hlt x (hm x (m0 x hx)))) (fun x hx => hsp x (hm x (m0 x hx))))
      (Trod_stays laidOut (by kernel_rfl) (of_decide_eq_true (by kernel_rfl)) h1 (fun x hx => hb.same (hlt x (hm x (m1 x hx)))) (fun x hx => hsp x (hm x (m1 x hx))))
      (Trod_stays laidOut (by kernel_rfl) (of_decide_eq_true (by kernel_rfl)) h2 (fun x hx => hb.same (hlt x (hm x (m2 x hx)))) (fun x hx => hsp x (hm x (m2 x hx))))
  rcases open_bits (hval 0 22 v0 rfl rfl) h0 with rfl | ⟨μ, B, hB, hH, hv⟩
  · refine ((Tryz.aWelllogCutsNil s.data.toList u.data.toList).2 W.heap.size _ W [.slice none 0 0, .string s, .string u] hG (hrel_empty W) (VRels_cons.2 ⟨by simp [VRel], VRels_cons.2 ⟨vrel_string _ _ s, VRels_cons.2 ⟨vrel_string _ _ u, by simp [VRels]⟩⟩⟩)).mono ?_
    rintro e W' ⟨V, v', m', μ', rfl, q1, q2, q3, rfl, rfl⟩
    simp only [VRel] at q1
    subst q1
    exact ⟨_, rfl, fin W' (kept_of q3 noOwn_nil)⟩
  · refine ((Tryz.aWelllogCuts B hB s.data.toList u.data.toList).2 W.heap.size μ W [v0, .string s, .string u] hG hH (VRels_cons.2 ⟨hv, VRels_cons.2 ⟨vrel_string _ _ s, VRels_cons.2 ⟨vrel_string _ _ u, by simp [VRels]⟩⟩⟩)).mono ?_
    rintro e W' ⟨V, v', m', μ', rfl, q1, q2, q3, rfl, rfl⟩
    simp only [VRel] at q1
    subst q1
    exact ⟨_, rfl, fin W' (kept_of q3 (noOwn_row _ _))⟩
end Go.Proofs.YtiopbpbcgccngaaGreatDoor
