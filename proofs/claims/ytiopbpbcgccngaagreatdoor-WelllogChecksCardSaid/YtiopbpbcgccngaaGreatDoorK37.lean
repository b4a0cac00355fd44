/- See K54. -/
import Derived.Test.YtiopbpbcgccngaaGreatDoorK36
set_option linter.all false
namespace Go.Proofs
open Go.Eng
end Go.Proofs
namespace Go.Proofs
open Go.Eng
def hf (n : Nat) : Rat := mkRat (n : Int) 2
theorem hf_big (n : Nat) (h : n ≤ 1000000) : (natD (hf n).num.natAbs).length ≤ 20 ∧ (natD (hf n).den).length ≤ 20 := by
 have hn : (hf n).num.natAbs ≤ n := by
  unfold hf
  rw [Rat.num_mkRat]
  split
  ·simp
  ·rw [Int.natAbs_natCast,← Int.natCast_ediv,Int.natAbs_natCast]
   exact Nat.div_le_self _ _
 have hd : (hf n).den ≤ 2 := by
  unfold hf
  rw [Rat.den_mkRat]
  split
  ·omega
  ·exact Nat.div_le_self _ _
 exact ⟨natD_length_le (by omega) (by omega),natD_length_le (by omega) (by omega)⟩
theorem chkR_ratS {q : Rat} (h1 : (natD q.num.natAbs).length ≤ 200) (h2 : (natD q.den).length ≤ 200) : chkR (ratS q) = 0 := by
 unfold chkR
 rw [ratP_ratS]
 simp [h1,h2]
end Go.Proofs
