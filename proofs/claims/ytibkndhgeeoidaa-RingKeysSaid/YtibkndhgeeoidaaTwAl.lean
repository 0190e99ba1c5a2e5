/- Plain facts of lists of pairs (lookL, putL, delL): what is found behind a change, and sums over the pairs. -/
import Derived.Test.YtibkndhgeeoidaaTwCut
namespace Go.Tw
set_option linter.unusedSimpArgs false
set_option linter.unusedVariables false
set_option linter.unusedSectionVars false
section
variable {κ β : Type} [DecidableEq κ]
/-- a sum over the pairs -/
def sumL (g : β → Nat) : List (κ × β) → Nat
  | [] => 0
  | (_, b) :: r => g b + sumL g r
end
theorem own_max {w : World} {base e sz n c : Nat} {A : Option Addr} {X : List Value} (h : w.ownsRow base e sz (.slice A n c) n X) : n ≤ 9223372036854775807 := by
  rcases Nat.eq_zero_or_pos n with h0 | h0
  · omega
  · obtain ⟨_, _, _, _, _, h1, h2, _⟩ := own_blkd h h0
    simp only [Go.maxLen] at h2; omega
end Go.Tw
