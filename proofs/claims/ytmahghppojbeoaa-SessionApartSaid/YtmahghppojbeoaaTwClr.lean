/- The walk's own words: clear on a row's rest; min; a frame as growth. Over any program. -/
import Derived.Test.YtmahghppojbeoaaTwObj
import Derived.Lib.MinMax
import Derived.Sort.Grow
import Derived.Deep.Draws
namespace Go.Tw
set_option linter.unusedSimpArgs false
set_option linter.unusedVariables false
set_option linter.unusedSectionVars false
open Go.RowKit Go.Sort
section
variable {P : Program} {w w' w0 : World} {F0 : List Nat} {M : List (Nat × Obj)} {Fs : List (List Nat)}
def zOne (P : Program) (e : Nat) : Bool := match P.info? e with
  | some i => match i.zero with | some z => z.cells.toList.all Value.oneCell' | none => false
  | none => false
theorem run_minI {ts : Array TypeId} {ty : TypeId} {k : IntKind} {x y : Int} : (Builtin.min_ ts ty #[.int k x, .int k y]).run P w = .ok (.int k (min x y)) w := by
  rw [Lib.run_min_ints]
end
end Go.Tw
