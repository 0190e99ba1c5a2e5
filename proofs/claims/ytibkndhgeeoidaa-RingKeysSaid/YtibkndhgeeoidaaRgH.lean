/- Contracts of functions of the program, each proved by a walk through its code; conditions stand in the statements. -/
import Derived.Test.YtibkndhgeeoidaaRgG
namespace Go.Proofs.Ytibkndhgeeoidaa
set_option linter.unusedSimpArgs false
set_option linter.unusedVariables false
set_option linter.unusedSectionVars false
open Go Go.RowKit Go.Tw
set_option linter.unusedVariables false
set_option maxRecDepth 20000
def dipOk (h v : Int) : Bool := decide (0 ≤ h ∧ h < 8 ∧ 0 ≤ v ∧ v < 16)
def isHome (a : Int) : Bool := decide (167837696 ≤ a ∧ (a - 167837696) / 256 < 8 ∧ (a - 167837696) % 256 < 16)
def isVip (a : Int) : Bool := decide (1 ≤ a / 16777216 ∧ a / 16777216 ≤ 223 ∧ a / 16777216 ≠ 10 ∧ a / 16777216 ≠ 127)
def homeN (a : Int) : Int := if isHome a then 48 + (a - 167837696) / 256 else 0
def homeV (a : Int) : Int := if isHome a then (a - 167837696) % 256 else 0
def goodE1 (e : EndV) : Bool := isHome e.dip && decide (0 ≤ e.port ∧ e.port ≤ 65535 ∧ 1 ≤ e.weight ∧ e.weight ≤ 16)
def goodE (es : List EndV) : Bool := decide (es.length ≤ 64) && (es.all goodE1 && decide ((es.map (·.dip)).Nodup))
def anyDip (e : EndV) (xs : List EndV) : Bool := xs.any fun d => d.dip == e.dip
def dupK {α κ : Type} (f : α → κ) (xs : List α) (i j : Nat) : Prop := ∃ a b k, k < j ∧ xs[i]? = some a ∧ xs[k]? = some b ∧ f b = f a
end Go.Proofs.Ytibkndhgeeoidaa
