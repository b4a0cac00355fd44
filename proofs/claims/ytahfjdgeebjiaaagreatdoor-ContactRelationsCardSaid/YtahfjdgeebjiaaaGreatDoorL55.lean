/-
The law ContactRelations of package klippelaw36 returns true for every contact, and its argument reads afterwards as it read before.
Conditions: those of the given row alone: the package-level variables that it lists hold at the start what the program's text lays (the given tie closes that); nothing is asked of the argument beyond what a Go program can hold.
How: an executable engine over abstract values, proved sound over the library's fenced calculus (parts L01 to L10), contracts of the program's functions by runs of that engine (L13 to L39), the closed run of known by the kernel, cut into remembered calls (L41), the law itself (L42), the row and its card (the last parts).
-/
import Derived.Test.YtahfjdgeebjiaaaGreatDoorL54
set_option linter.all false
namespace Go.Proofs.YtahfjdgeebjiaaaGreatDoor
open Go.ChangeShapes Go.WideShapes Go.ChangeAt Go.WideMaps Go.WideElems Go.RowKit Go.Eng
theorem open_four {H : Type} {enc : TypeId × Value → H} {P : Program} {w : World} {base : Nat} {spare : Nat → Bool} {held : Bool} {e : TypeId} {f0 f1 f2 f3 : Field} {fuel : Nat} {cs : List Value} {x : DataW H × List MemPlace}
    (he : P.underlying e = some (.struct #[f0, f1, f2, f3])) (o0 : f0.offset = 0) (o1 : f1.offset = 1) (o2 : f2.offset = 2) (o3 : f3.offset = 3) (c0 : P.cellsOf f0.type = 1) (c1 : P.cellsOf f1.type = 1) (c2 : P.cellsOf f2.type = 1) (c3 : P.cellsOf f3.type = 1)
    (hl : cs.length = 4) (h : DataW.trod enc P w base spare held fuel e cs = some x) :
    ∃ q0 q1 q2 q3, cs = [q0, q1, q2, q3] ∧ (∃ n y, DataW.trod enc P w base spare held n f0.type [q0] = some y) ∧ (∃ n y, DataW.trod enc P w base spare held n f1.type [q1] = some y) ∧ (∃ n y, DataW.trod enc P w base spare held n f2.type [q2] = some y) ∧ (∃ n y, DataW.trod enc P w base spare held n f3.type [q3] = some y) := by
  obtain ⟨xs, k, hk, hxy, _, hxl, hf⟩ := DataW.trod_struct he h
  match xs, hxl, cs, hl with
  | [y0, y1, y2, y3], _, [v0, v1, v2, v3], _ =>
    have g0 := hf 0 f0 rfl
    have g1 := hf 1 f1 rfl
    have g2 := hf 2 f2 rfl
    have g3 := hf 3 f3 rfl
    simp [o0, o1, o2, o3, c0, c1, c2, c3] at g0 g1 g2 g3
    exact ⟨v0, v1, v2, v3, rfl, ⟨_, _, g0⟩, ⟨_, _, g1⟩, ⟨_, _, g2⟩, ⟨_, _, g3⟩⟩
set_option maxRecDepth 100000 in
theorem open_contact {H : Type} {enc : TypeId × Value → H} {W : World} {b0 : Nat} {v : Value} {d : DataW H} {p : List MemPlace} (hval : Value.okWide Tryz.prog W .any b0 85 v) (h : DataW.Trod enc Tryz.prog W 0 (fun _ => true) true 85 v d p) :
    ∃ (k e : Int) (u l : ByteArray), v = .agg #[.int .i64 k, .int .i64 e, .string u, .string l] := by
  obtain ⟨fuel, hf⟩ := h
  have hu := Tryz.underlying85
  simp only [Value.okWide, hu] at hval
  obtain ⟨cs, rfl, hcs, _⟩ := hval
  have hcl : (Value.agg cs).cells.toList.length = 4 := by
    simp only [Value.cells, Array.length_toList, hcs]
    kernel_rfl
  obtain ⟨q0, q1, q2, q3, hq, ⟨_, _, t0⟩, ⟨_, _, t1⟩, ⟨_, _, t2⟩, ⟨_, _, t3⟩⟩ := open_four hu rfl rfl rfl rfl (by kernel_rfl) (by kernel_rfl) (by kernel_rfl) (by kernel_rfl) hcl hf
  obtain ⟨k, hk, _, _⟩ := DataW.trod_int Tryz.underlying3 t0
  obtain ⟨e, he, _, _⟩ := DataW.trod_int Tryz.underlying3 t1
  obtain ⟨u, hu', _, _⟩ := DataW.trod_string Tryz.underlying9 t2
  obtain ⟨l, hl, _, _⟩ := DataW.trod_string Tryz.underlying9 t3
  simp only [List.cons.injEq, and_true] at hk he hu' hl
  subst hk he hu' hl
  refine ⟨k, e, u, l, ?_⟩
  congr 1
  exact Array.ext' hq
set_option maxRecDepth 100000 in
theorem contactRelations_lifted (os : Os) (started : os.Started) (H : Type) (enc : TypeId × Value → H) :
    ReturnsInHanded {} Tryz.checked os 5 .any (fun w args => (Rows.contactRelationsSpec.pre enc Tryz.prog Tryz.f5 [] false w args ∧ laidMetH Tryz.prog laidAll w) ∧ sizedMet enc Tryz.prog Tryz.f5 (OpenSpec.ofChange Rows.contactRelationsSpec) false w args)
      (Rows.contactRelationsSpec.post enc Tryz.prog Tryz.f5 false true false false) := by
  refine returnsInHanded_of_change_and (C := Tryz.checked) (X := fun w _ => laidMetH Tryz.prog laidAll w) (fun _ _ _ hh h => h.of_heap hh) own started (by kernel_rfl) Tryz.func5
    (ChangeSpec.witness_shaped (enc := enc) (C := Tryz.checked) (os := os) (X := fun w _ => laidMetH Tryz.prog laidAll w) false (World.doorLaid Tryz.prog 400 os) #[.agg #[.int .i64 0, .int .i64 0, .string ⟨#[]⟩, .string ⟨#[]⟩]] 8 rfl (World.shaped_of_RefB (by kernel_rfl) (by kernel_rfl)) (by kernel_rfl) (by kernel_rfl) (by kernel_rfl) (door_met os _)) ?_
  intro W base args ds gs before hval0 hW _ _ hL _
  have hval : ∀ (j : Nat) t v, Tryz.f5.params[j]? = some t → args[j]? = some v → Value.okWide Tryz.prog W .any base t v := hval0
  have hW' := hW
  obtain ⟨p, q, hA0, hV, hpq, hfz, hnd⟩ := hW
  have hA : DataW.TrodAll enc Tryz.prog W 0 (fun _ => true) true Tryz.f5.params.toList args.toList ds p := hA0
  have hpar : Tryz.f5.params = #[85] := rfl
  rw [hpar] at hA hval
  obtain ⟨v0, d0, hargs, rfl, h0⟩ := trodAll_one hA
  subst hargs
  obtain ⟨rfl, rfl⟩ := trodVars_none hV
  have hG := glob_of_laid hL
  have hlt : ∀ x ∈ before, x.block < W.heap.size := hW'.lt
  have fin : ∀ (W' : World), Below W.heap.size W W' → Rows.contactRelationsSpec.post enc Tryz.prog Tryz.f5 false true false false W #[v0] (.bool true) W' := by
    intro W' hb
    refine post_true rfl hW' hb hpq rfl rfl rfl fun sp hsp => ?_
    rw [hpar]
    rw [List.append_nil]
    have hm : ∀ x ∈ p, x ∈ before := fun x hx => by rw [hpq, List.append_nil]; exact hx
    exact trodAll_mk1 (Trod_stays laidOut (by kernel_rfl) (of_decide_eq_true (by kernel_rfl)) h0 (fun x hx => hb.same (hlt x (hm x hx))) (fun x hx => hsp x (hm x hx)))
  obtain ⟨k, e, u, l, hv⟩ := open_contact (hval 0 85 v0 rfl rfl) h0
  have hr : VRel (fun _ => ⟨0, 0, 0, 0⟩) 0 (.agg [.int .i64 k, .int .i64 e, .str u.data.toList, .str l.data.toList]) v0 := by
    rw [hv]
    simp only [VRel]
    exact ⟨_, rfl, VRels_cons.2 ⟨by simp [VRel], VRels_cons.2 ⟨by simp [VRel], VRels_cons.2 ⟨vrel_string _ _ _, VRels_cons.2 ⟨vrel_string _ _ _, by simp [VRels]⟩⟩⟩⟩⟩
  refine ((Tryz.aContactRelations k e u.data.toList l.data.toList).2 W.heap.size _ W [v0] hG (hrel_empty W) (VRels_cons.2 ⟨hr, by simp [VRels]⟩)).mono ?_
  rintro x W' ⟨V, v', m', μ', rfl, q1, q2, q3, rfl, rfl⟩
  simp only [VRel] at q1
  subst q1
  exact ⟨_, rfl, fin W' (kept_of q3 noOwn_nil)⟩
end Go.Proofs.YtahfjdgeebjiaaaGreatDoor
namespace Go.Proofs.YtahfjdgeebjiaaaGreatDoor
open Go.ChangeShapes Go.WideShapes Go.ChangeAt Go.WideMaps Go.WideElems Go.RowKit Go.Eng
set_option maxHeartbeats 40000000 in
set_option maxRecDepth 100000 in
theorem contactRelations_facts : joinedFacts Tryz.prog 5 Tryz.f5 Rows.contactRelationsSpec Rows.contactRelationsRow = true := by
  unfold joinedFacts
  simp only [Bool.and_eq_true]
  repeat' apply And.intro
  all_goals (as_aux_lemma => kernel_rfl)
end Go.Proofs.YtahfjdgeebjiaaaGreatDoor
namespace Go.Proofs.YtahfjdgeebjiaaaGreatDoor
open Go.ChangeShapes Go.WideShapes Go.ChangeAt Go.WideMaps Go.WideElems Go.RowKit Go.Eng
set_option maxHeartbeats 40000000 in
set_option maxRecDepth 100000 in
theorem contactRelations_row : Rows.ContactRelationsSaid :=
  OpenClaim.holds_of_wide 5 Tryz.f5 rfl rfl rfl rfl rfl rfl rfl ⟨rfl, rfl, rfl, rfl, rfl⟩ rfl rfl rfl rfl rfl (by as_aux_lemma => kernel_rfl) Tryz.func5 contactRelations_facts
    (of_decide_eq_true (by as_aux_lemma => kernel_rfl)) (by unfold Func.isWrapper; first | (rw [if_pos (by decide +kernel)]; kernel_rfl) | (rw [if_neg (by decide +kernel)]; exact ⟨rfl, rfl⟩))
    (fun os started H enc _ => contactRelations_lifted os started H enc)
end Go.Proofs.YtahfjdgeebjiaaaGreatDoor
namespace Go.Proofs.YtahfjdgeebjiaaaGreatDoor
open Go.ChangeShapes Go.WideShapes Go.ChangeAt Go.WideMaps Go.WideElems Go.RowKit Go.Eng
set_option maxHeartbeats 40000000 in
set_option maxRecDepth 100000 in
theorem contactRelations_card : Rows.ContactRelationsCardSaid :=
  Claim7.holds_tied_plain_at .later [] [.data, .data, .data, .sentinel, .sentinel] true (true, "d976ce6e159c9476462327590d89ddbd84ea140f394d5bdcde75f261a6add298") true
    contactRelations_row (fun _ h => by cases h) (by as_aux_lemma => kernel_rfl) (fun _ h => by cases h) contactRelations_row_tie rfl ⟨rfl, rfl⟩ (by as_aux_lemma => kernel_rfl) rfl
    (fun f fn hf hfn => by
      obtain rfl : f = 5 := Option.some.inj ((show Tryz.prog.funcNamed Rows.contactRelationsRow.func = some 5 by as_aux_lemma => kernel_rfl).symm.trans hf) |>.symm
      obtain rfl : fn = Tryz.f5 := (Option.some.inj (Tryz.func5.symm.trans hfn)).symm
      exact ⟨by as_aux_lemma => kernel_rfl, fun j t ht => by
        have hp : Tryz.f5.params = #[85] := rfl
        rw [hp] at ht
        match j, ht with
        | 0, ht => simp at ht; subst ht; exact (show Tryz.prog.wantsStandIn 85 = false by as_aux_lemma => kernel_rfl)
        | j + 1, ht => simp at ht⟩)
    (by as_aux_lemma => kernel_rfl)
#print axioms contactRelations_card
end Go.Proofs.YtahfjdgeebjiaaaGreatDoor
