/- Part A45 of a proof: see its last part, YtindglnpfdlbhaaGreatDoorA51.lean. -/
import Derived.Test.YtindglnpfdlbhaaGreatDoorA44
set_option linter.all false
namespace Go.Proofs
open Go.Eng
def okTrue (r : CallRes) : Bool := (match r.v with
  | .bool b => b
  | _ => false) && r.new.isEmpty && (match r.pre with
  | some p => p.isEmpty
  | none => true)
theorem Tryz.known_run : (callF (tyOf Tryz.prog) writesC (fnOf Tryz.prog) Tryz.knO2 60 20 (.fn 11) [] []).map okTrue = some true := by
  kernel_rfl
theorem okTrue_spec {r : CallRes} (h : okTrue r = true) : r.v = .bool true ∧ r.mem [] = [] := by
  obtain ⟨v, pre, new⟩ := r
  simp only [okTrue, Bool.and_eq_true, List.isEmpty_iff] at h
  obtain ⟨⟨h1, rfl⟩, h3⟩ := h
  constructor
  · cases v <;> first | (cases h1; done) | skip
    simp only at h1
    rw [h1]
  · cases pre with
    | none => rfl
    | some p => simp only [List.isEmpty_iff] at h3; subst h3; rfl
theorem Tryz.aKnown (M : Mem) : ACallsTo Tryz.prog 11 [] M (.bool true) M := by
  have h := Tryz.known_run
  rw [Option.map_eq_some_iff] at h
  obtain ⟨r, h1, h2⟩ := h
  have := (callF_sound Tryz.mixed (tyOf_ok _) (fnOf_ok _) Tryz.knO2_ok 20).fn _ _ _ _ h1
  obtain ⟨e1, e2⟩ := okTrue_spec h2
  rw [e1, e2] at this
  exact ACallsTo.lift rfl rfl this M
end Go.Proofs
