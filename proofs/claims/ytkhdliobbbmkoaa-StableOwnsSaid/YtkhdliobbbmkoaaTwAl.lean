/- Plain facts of lists of pairs (lookL, putL, delL): what is found behind a change, and sums over the pairs. -/
import Derived.Test.YtkhdliobbbmkoaaTwCut
namespace Go.Tw
set_option linter.unusedSimpArgs false
set_option linter.unusedVariables false
set_option linter.unusedSectionVars false
section
variable {κ β : Type} [DecidableEq κ]
/-- a sum over the pairs -/
def sumL (g : β → Nat) : List (κ × β) → Nat
  | [] => 0
  | (_, b) :: r => g b + sumL g r
end
end Go.Tw
