/- Plain facts of lists of pairs (lookL, putL, delL): what is found behind a change, and sums over the pairs. -/
import Derived.Test.YtfligklljkcbfaaGreatDoorTwCut
namespace Go.Tw
set_option linter.unusedSimpArgs false
set_option linter.unusedVariables false
set_option linter.unusedSectionVars false
section
variable {κ β : Type} [DecidableEq κ]
/-- a sum over the pairs -/
def sumL (g : β → Nat) : List (κ × β) → Nat
  | [] => 0
  | (_, b) :: r => g b + sumL g r
end
theorem rd_lt {α : Type} {w : World} {sz : Nat} {enc : α → List Value} {A : Option Addr} {xs : List α} (h : Rd w sz enc A xs) (hp : ∀ x, 0 < (enc x).length) {b off : Nat} (hA : A = some ⟨b, off, none⟩) (hne : xs ≠ []) : b < w.heap.size := by
  subst hA
  cases xs with
  | nil => exact absurd rfl hne
  | cons x r =>
    obtain ⟨b', off', hA', hc⟩ := h.at_ 0 x rfl
    have h0 := hc 0 ((enc x)[0]'(hp x)) (by simp [hp x])
    cases hA'
    rcases Nat.lt_or_ge b w.heap.size with h' | h'
    · exact h'
    · simp [World.cell?, Array.getElem?_eq_none h'] at h0
end Go.Tw
