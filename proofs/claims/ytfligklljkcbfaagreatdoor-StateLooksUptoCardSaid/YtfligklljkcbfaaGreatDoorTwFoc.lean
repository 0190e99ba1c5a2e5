/- The walk's own words: a block comes out of a footprint, and goes back. Over any program. -/
import Derived.Test.YtfligklljkcbfaaGreatDoorTwClr
namespace Go.Tw
set_option linter.unusedSimpArgs false
set_option linter.unusedVariables false
set_option linter.unusedSectionVars false
open Go.RowKit
section
variable {w0 w w' : World} {F0 : List Nat} {M : List (Nat × Obj)} {Fs : List (List Nat)}
/-- a footprint's blocks are as they were in w0 -/
def SameF (w0 w : World) (R : List Nat) : Prop := ∀ x ∈ R, x < w.heap.size ∧ w.heap[x]? = w0.heap[x]?
theorem SameF.refl (w : World) (R : List Nat) (h : ∀ x ∈ R, x < w.heap.size) : SameF w w R := fun x hx => ⟨h x hx, rfl⟩
theorem SameF.fr {R F : List Nat} (h : SameF w0 w R) (hf : Fr w w' F) (hd : ∀ x ∈ R, x ∉ F) : SameF w0 w' R := fun x hx => ⟨Nat.lt_of_lt_of_le (h x hx).1 hf.size, (hf.block x (h x hx).1 (hd x hx)).trans (h x hx).2⟩
end
end Go.Tw
