/- Part C46 of a proof: see its last part, YtiopbpbcgccngaaGreatDoorC54.lean. -/
import Derived.Test.YtiopbpbcgccngaaGreatDoorC37
import Derived.Test.YtiopbpbcgccngaaGreatDoorC10
import Derived.Test.YtiopbpbcgccngaaGreatDoorC42
import Derived.Test.YtiopbpbcgccngaaGreatDoorC45
set_option linter.all false
namespace Go.Proofs
open Go.Eng
def ivN (x : Iv) : Option (Rat × Rat) := match ratP x.2.1, ratP x.2.2 with
  | some a, some b => if (natD a.num.natAbs).length ≤ 200 ∧ (natD a.den).length ≤ 200 ∧ (natD b.num.natAbs).length ≤ 200 ∧ (natD b.den).length ≤ 200 then some (a, b) else none
  | _, _ => none
def rightIv (x : Iv) : Prop := ∃ a b, ivN x = some (a, b)
theorem ivN_some {x : Iv} {a b : Rat} (h : ivN x = some (a, b)) : x.2.1 = ratS a ∧ x.2.2 = ratS b ∧ fine a ∧ fine b := by
  unfold ivN at h
  split at h
  · rename_i a' b' h1 h2
    split at h
    · rename_i hc
      cases h
      exact ⟨ratP_some h1, ratP_some h2, ⟨by omega, by omega⟩, ⟨by omega, by omega⟩⟩
    · cases h
  · cases h
end Go.Proofs
namespace Go.Proofs
open Go.Eng
theorem logE_right : ∀ (L : List Iv) (p : Option Rat), logE p L = 0 → ∀ x ∈ L, rightIv x
  | [], _, _, x, hx => by cases hx
  | y :: L, p, h, x, hx => by
    unfold logE at h
    split at h
    · rename_i h0
      rcases List.mem_cons.1 hx with rfl | hx
      · unfold ivE at h0
        split at h0
        · cases h0
        · split at h0
          · rename_i hc
            obtain ⟨a, ha, _, a1, a2⟩ := chkR_rat hc.1
            obtain ⟨z, hz, _, z1, z2⟩ := chkR_rat hc.2
            refine ⟨a, z, ?_⟩
            unfold ivN
            rw [ha, hz]
            simp only
            rw [if_pos ⟨a1, a2, z1, z2⟩]
          · cases h0
      · exact logE_right L _ h x hx
    · rename_i h0; exact absurd h h0
theorem logR_right {L : List Iv} (h : logR L = 0) : ∀ x ∈ L, rightIv x := by
  unfold logR at h
  split at h
  · cases h
  · exact logE_right L _ h
end Go.Proofs
namespace Go.Proofs
open Go.Eng
end Go.Proofs
namespace Go.Proofs
open Go.Eng
noncomputable def Tryz.w18F (f : FuncId) (args : List AV) : Option AV :=
  match f, args with
  | 51, [.str s] => if s.length ≤ 1000000000 then some (.bool (chkR s == 0)) else none
  | f, args => Tryz.w5F f args
theorem Tryz.w18_ok : OracleOk Tryz.prog (pureO Tryz.w18F) := pureO_ok fun f args v h mem => by
  unfold Tryz.w18F at h
  split at h
  · split at h
    · rename_i hc; cases h; exact Tryz.aPRight _ hc mem
    · cases h
  · have := Tryz.w5_ok.fn _ _ mem ⟨v, none, []⟩ (by unfold pureO; simp only; rw [h])
    simpa [CallRes.mem] using this
theorem Tryz.aLRight (s : List UInt8) (hl : s.length ≤ 1000000000) (mem : Mem) :
    ACallsTo Tryz.prog 19 [.str s] mem (.bool (chkR s == 0)) mem := by
  have hG : fnOf Tryz.prog 19 = some Tryz.f19 := by kernel_rfl
  refine Tryz.run Tryz.w18_ok (lv := fun _ => []) (K := 1) rfl rfl ?_ mem
  simp [callFn, hG, Tryz.f19, pureO, Tryz.w18F, hl]
end Go.Proofs
namespace Go.Proofs
open Go.Eng
end Go.Proofs
namespace Go.Proofs
open Go.Eng
end Go.Proofs
