/- See K54. -/
import Derived.Test.YtiopbpbcgccngaaGreatDoorK37
import Derived.Test.YtiopbpbcgccngaaGreatDoorK41
import Derived.Test.YtiopbpbcgccngaaGreatDoorK10
set_option linter.all false
namespace Go.Proofs
open Go.Eng
end Go.Proofs
namespace Go.Eng
open Classical in
noncomputable def oneO (f : FuncId) (args : List AV) (m : Mem) (r : CallRes) : Oracle := fun c a M => if c = .fn f ∧ a = args ∧ M = m then some r else none
theorem oneO_at (f : FuncId) (args : List AV) (m : Mem) (r : CallRes) : oneO f args m r (.fn f) args m = some r := by simp [oneO]
theorem oneO_ne {f g : FuncId} (h : g ≠ f) (args a : List AV) (m M : Mem) (r : CallRes) : oneO f args m r (.fn g) a M = none := by simp [oneO,h]
theorem oneO_ok {P : Program} {f : FuncId} {args : List AV} {m new : Mem} {v : AV} (h : ACallsTo P f args m v (m ++ new)) : OracleOk P (oneO f args m ⟨v,none,new⟩) := by
 refine oracleOk_of fun c a M r hr => ?_
 unfold oneO at hr
 split at hr
 ·rename_i hc
  obtain ⟨rfl,rfl,rfl⟩ := hc
  cases hr
  exact soundAt_call h
 ·cases hr
end Go.Eng
namespace Go.Proofs
open Go.Eng
end Go.Proofs
namespace Go.Proofs
open Go.Eng
end Go.Proofs
namespace Go.Proofs
open Go.Eng
end Go.Proofs
