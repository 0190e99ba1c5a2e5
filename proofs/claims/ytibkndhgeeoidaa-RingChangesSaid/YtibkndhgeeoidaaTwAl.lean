/- Plain facts of lists of pairs (lookL, putL, delL): what is found behind a change, and sums over the pairs. -/
import Derived.Test.YtibkndhgeeoidaaTwCut
namespace Go.Tw
set_option linter.unusedSimpArgs false
set_option linter.unusedVariables false
set_option linter.unusedSectionVars false
section
variable {κ β : Type} [DecidableEq κ]
/-- a sum over the pairs -/
def sumL (g : β → Nat) : List (κ × β) → Nat
  | [] => 0
  | (_, b) :: r => g b + sumL g r
end
theorem own_max {w : World} {base e sz n c : Nat} {A : Option Addr} {X : List Value} (h : w.ownsRow base e sz (.slice A n c) n X) : n ≤ 9223372036854775807 := by
  rcases Nat.eq_zero_or_pos n with h0 | h0
  · omega
  · obtain ⟨_, _, _, _, _, h1, h2, _⟩ := own_blkd h h0
    simp only [Go.maxLen] at h2; omega
theorem rd_lt {α : Type} {w : World} {sz : Nat} {enc : α → List Value} {A : Option Addr} {xs : List α} (h : Rd w sz enc A xs) (hp : ∀ x, 0 < (enc x).length) {b off : Nat} (hA : A = some ⟨b, off, none⟩) (hne : xs ≠ []) : b < w.heap.size := by
  subst hA
  cases xs with
  | nil => exact absurd rfl hne
  | cons x r =>
    obtain ⟨b', off', hA', hc⟩ := h.at_ 0 x rfl
    have h0 := hc 0 ((enc x)[0]'(hp x)) (by simp [hp x])
    cases hA'
    rcases Nat.lt_or_ge b w.heap.size with h' | h'
    · exact h'
    · simp [World.cell?, Array.getElem?_eq_none h'] at h0
end Go.Tw
