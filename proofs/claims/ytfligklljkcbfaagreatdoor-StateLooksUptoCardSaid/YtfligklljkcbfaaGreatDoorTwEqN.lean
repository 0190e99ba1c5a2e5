/- The walk's own words: the comparison of structs that hold structs. Over any program. -/
import Derived.Test.YtfligklljkcbfaaGreatDoorTwAl
namespace Go.Tw
set_option linter.unusedSimpArgs false
set_option linter.unusedVariables false
set_option linter.unusedSectionVars false
open Go.RowKit
def partOf (P : Program) (t : TypeId) (xs : Array Value) (o : Nat) : Option Value := match aggB P t with
  | some true => bif (P.info? t).isSome then some (.agg (xs.extract o (o + P.cellsOf t))) else none
  | some false => xs[o]?
  | none => none
def eqN (P : Program) : Nat → TypeId → Value → Value → Option Bool
  | 0, _, _, _ => none
  | d + 1, t, x, y => match P.underlying t, x, y with
    | some (.int _), .int k a, .int k' b => bif decide (k = k') then some (a == b) else none
    | some .bool, .bool a, .bool b => some (a == b)
    | some .string, .string a, .string b => some (a == b)
    | some (.struct fs), .agg xs, .agg ys => bif P.stoodInHeld t then none else fs.toList.foldr (fun f r => bif f.name == "_" then none else match partOf P f.type xs f.offset, partOf P f.type ys f.offset with
      | some a, some b => (match eqN P d f.type a b, r with
        | some p, some q => some (p && q)
        | _, _ => none)
      | _, _ => none) (some true)
    | _, _, _ => none
section
variable {P : Program} {w : World}
end
end Go.Tw
