/- See L55. -/
import Derived.Test.YtiopbpbcgccngaaGreatDoorL17
import Derived.Test.YtiopbpbcgccngaaGreatDoorL24
import Derived.Test.YtiopbpbcgccngaaGreatDoorL08
import Derived.Test.YtiopbpbcgccngaaGreatDoorL25
import Derived.Test.YtiopbpbcgccngaaGreatDoorL33
import Derived.Test.YtiopbpbcgccngaaGreatDoorL35
set_option linter.all false
namespace Go.Proofs
open Go.Eng
noncomputable def Tryz.rtO : Oracle := fun c args M => ((pureO Tryz.ratF4).or Tryz.inO) c args M
theorem Tryz.rtO_ok : OracleOk Tryz.prog Tryz.rtO := Tryz.rat4_ok.or Tryz.inO_ok
theorem Tryz.root16 : callF (tyOf Tryz.prog) writesC (fnOf Tryz.prog) Tryz.rtO 60 3 (.fn 134) [.str [49,54]] [] = some ⟨.tuple [.str [52],.bool true],none,[]⟩ := by kernel_rfl
theorem Tryz.root25 : callF (tyOf Tryz.prog) writesC (fnOf Tryz.prog) Tryz.rtO 60 3 (.fn 134) [.str [50,53]] [] = some ⟨.tuple [.str [53],.bool true],none,[]⟩ := by kernel_rfl
theorem Tryz.root36 : callF (tyOf Tryz.prog) writesC (fnOf Tryz.prog) Tryz.rtO 60 3 (.fn 134) [.str [51,54]] [] = some ⟨.tuple [.str [54],.bool true],none,[]⟩ := by kernel_rfl
def Tryz.rootF (f : FuncId) (args : List AV) : Option AV := match f,args with
 | 134,[.str s] => if s = [49,54] then some (.tuple [.str [52],.bool true]) else if s = [50,53] then some (.tuple [.str [53],.bool true]) else if s = [51,54] then some (.tuple [.str [54],.bool true]) else none
 | _,_ => none
theorem Tryz.rootF_ok : OracleOk Tryz.prog (pureO Tryz.rootF) := pureO_ok fun f args v h mem => by
 have key : ∀ s v,callF (tyOf Tryz.prog) writesC (fnOf Tryz.prog) Tryz.rtO 60 3 (.fn 134) [.str s] [] = some ⟨v,none,[]⟩ → v.closed = true → ACallsTo Tryz.prog 134 [.str s] mem v mem := by
  intro s v hr hc
  have := (callF_sound Tryz.mixed (tyOf_ok _) (fnOf_ok _) Tryz.rtO_ok 3).fn _ _ _ _ hr
  exact ACallsTo.lift rfl hc (by simpa [CallRes.mem] using this) mem
 unfold Tryz.rootF at h
 split at h
 ·split at h
  ·rename_i hs; cases h; subst hs; exact key _ _ Tryz.root16 rfl
  ·split at h
   ·rename_i hs; cases h; subst hs; exact key _ _ Tryz.root25 rfl
   ·split at h
    ·rename_i hs; cases h; subst hs; exact key _ _ Tryz.root36 rfl
    ·cases h
 ·cases h
end Go.Proofs
