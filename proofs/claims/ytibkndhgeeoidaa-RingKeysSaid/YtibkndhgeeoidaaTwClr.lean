/- The walk's own words: clear on a row's rest; min; a frame as growth. Over any program. -/
import Derived.Test.YtibkndhgeeoidaaTwObj
import Derived.Lib.MinMax
import Derived.Sort.Grow
import Derived.Deep.Draws
namespace Go.Tw
set_option linter.unusedSimpArgs false
set_option linter.unusedVariables false
set_option linter.unusedSectionVars false
open Go.RowKit Go.Sort
section
variable {P : Program} {w w' w0 : World} {F0 : List Nat} {M : List (Nat × Obj)} {Fs : List (List Nat)}
def zOne (P : Program) (e : Nat) : Bool := match P.info? e with
  | some i => match i.zero with | some z => z.cells.toList.all Value.oneCell' | none => false
  | none => false
theorem run_minI {ts : Array TypeId} {ty : TypeId} {k : IntKind} {x y : Int} : (Builtin.min_ ts ty #[.int k x, .int k y]).run P w = .ok (.int k (min x y)) w := by
  rw [Lib.run_min_ints]
theorem fr_grow (h : Fr w w' []) (hdr : DR) : ∃ q os, w' = grow (w.drewN q) os := by
  refine ⟨w'.drawn - w.drawn, w'.heap.extract w.heap.size w'.heap.size, ?_⟩
  have hd := h.drawn hdr
  have hh : w'.heap = w.heap ++ w'.heap.extract w.heap.size w'.heap.size := by
    apply Array.ext_getElem?
    intro k
    rw [Array.getElem?_append]
    split
    · rename_i hk; exact h.block k hk (by simp)
    · rename_i hk
      rw [Array.getElem?_extract]
      have hs := h.size
      split
      · congr 1; omega
      · exact Array.getElem?_eq_none (by omega)
  obtain ⟨heap, tape, drawn, os, output⟩ := w'
  have h1 := h.os; have h2 := h.tape; have h3 := h.output
  simp only at h1 h2 h3 hh hd
  subst h1 h2 h3
  simp only [grow, World.drewN]
  congr 1
  omega
end
end Go.Tw
