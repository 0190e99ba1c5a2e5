/- Contracts of functions of the program, each proved by a walk through its code; conditions stand in the statements. -/
import Derived.Test.YtmahghppojbeoaaSeAC
namespace Go.Proofs.Ytmahghppojbeoaa
set_option linter.unusedSimpArgs false
set_option linter.unusedVariables false
set_option linter.unusedSectionVars false
open Go Go.RowKit Go.Tw
set_option linter.unusedVariables false
set_option maxRecDepth 20000
open Go.Sort
def zeroT (L X : List Int) (j n : Nat) : Prop := L.length = n + 1 ∧ ∀ k, j ≤ k → L[k]? = (X ++ [7])[k]?
theorem out_len {w : World} {F : List Nat} {A : Option Addr} {n c : Nat} {V : List (Int × List Int)} (h : outAt w F A n c V) : n = V.length ∧ n ≤ c := by
  obtain ⟨ms, h1, h2, h3, h4, _⟩ := h
  exact ⟨by rw [← h1, List.length_map, h2], h3⟩
end Go.Proofs.Ytmahghppojbeoaa
