/- The walk's own words: the comparison of two structs of plain fields. Over any program. -/
import Derived.Test.YtmahghppojbeoaaTwRun
import Derived.Laws.StructEq
namespace Go.Tw
set_option linter.unusedSimpArgs false
set_option linter.unusedVariables false
set_option linter.unusedSectionVars false
open Go.RowKit
def eqF (P : Program) (xs ys : Array Value) : List Field → Option Bool
  | [] => some true
  | f :: fs => bif f.name == "_" then none else match P.underlying f.type, xs[f.offset]?, ys[f.offset]? with
    | some (.int _), some (.int k a), some (.int k' b) => bif decide (k = k') then (match eqF P xs ys fs with | some r => some ((a == b) && r) | none => none) else none
    | some .bool, some (.bool a), some (.bool b) => (match eqF P xs ys fs with | some r => some ((a == b) && r) | none => none)
    | some .string, some (.string a), some (.string b) => (match eqF P xs ys fs with | some r => some ((a == b) && r) | none => none)
    | _, _, _ => none
def eqS (P : Program) (t : TypeId) (xs ys : Array Value) : Option Bool := match P.underlying t with
  | some (.struct fs) => bif P.stoodInHeld t || P.eqGuardType P.depth t then none else eqF P xs ys fs.toList
  | _ => none
section
variable {P : Program} {w : World}
end
end Go.Tw
