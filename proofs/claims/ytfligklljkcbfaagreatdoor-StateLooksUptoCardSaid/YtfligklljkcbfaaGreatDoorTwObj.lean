/- Laws on an object whose own cells and one of whose rows a call turns together; on keys that are arrays of three whole numbers; on 'm[k]++' at a key that is not there. Each holds without conditions beyond those that stand in it. -/
import Derived.Test.YtfligklljkcbfaaGreatDoorTwByt
namespace Go.Tw
set_option linter.unusedSimpArgs false
set_option linter.unusedVariables false
set_option linter.unusedSectionVars false
open Go Go.RowKit Go.ChangeMaps
section
variable {P : Program} {w w' w0 : World} {F0 : List Nat} {M : List (Nat × Obj)} {Fs : List (List Nat)}
def ek3 (p : Int × Int × Int) : Value := .agg #[.int .i64 p.1, .int .i64 p.2.1, .int .i64 p.2.2]
variable {κ β : Type} [DecidableEq κ] {ek : κ → Value} {ev : β → Value} {es : Array MapEntry} {clock : Nat} {m : List (κ × β)}
end
end Go.Tw
