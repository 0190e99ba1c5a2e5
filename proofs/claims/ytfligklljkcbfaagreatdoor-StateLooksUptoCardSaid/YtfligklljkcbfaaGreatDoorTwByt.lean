/- Laws on slices of bytes as strings, on a copied map, on objects of several tracked blocks. Each holds without conditions beyond those that stand in it. -/
import Derived.Test.YtfligklljkcbfaaGreatDoorTwAny
import Derived.Laws.BytesArg
import Derived.Laws.Externs
import Derived.Laws.Strings
namespace Go.Tw
set_option linter.unusedSimpArgs false
set_option linter.unusedVariables false
set_option linter.unusedSectionVars false
open Go Go.RowKit
section
variable {P : Program} {w w' w0 : World} {F0 : List Nat} {M : List (Nat × Obj)} {Fs : List (List Nat)}
end
end Go.Tw
