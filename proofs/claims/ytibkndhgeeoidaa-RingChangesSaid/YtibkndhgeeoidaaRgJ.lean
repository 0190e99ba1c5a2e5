/- Contracts of functions of the program, each proved by a walk through its code; conditions stand in the statements. -/
import Derived.Test.YtibkndhgeeoidaaRgI
namespace Go.Proofs.Ytibkndhgeeoidaa
set_option linter.unusedSimpArgs false
set_option linter.unusedVariables false
set_option linter.unusedSectionVars false
open Go Go.RowKit Go.Tw
set_option linter.unusedVariables false
set_option maxRecDepth 20000
/-! ### the reference's hash, the reference's choice -/
def byteR (a : Int) (k : Nat) : Int := IntKind.u8.wrap (a / 2 ^ (24 - 8 * k) % 256)
def b4F (f : FlowV) : List Int := [IntKind.u8.wrap ((f.sp : Int).fdiv (2 ^ 8)), IntKind.u8.wrap f.sp, IntKind.u8.wrap ((f.dp : Int).fdiv (2 ^ 8)), IntKind.u8.wrap f.dp]
def bytesR (f : FlowV) : List Int := [IntKind.u8.wrap f.proto] ++ b4 f.src ++ b4 f.dst ++ b4F f
def stI (L : List EndV) (o : Option (Int × EndV)) (best top : Int) : Prop := match o with
  | none => best = -1
  | some (b, c) => ∃ n : Nat, best = (n : Int) ∧ n < L.length ∧ L[n]? = some c ∧ top = b
def chI (f : FlowV) (L : List EndV) (r : Int) : Prop := (foundB f L = true ∧ ∃ n : Nat, r = (n : Int) ∧ n < L.length ∧ L[n]? = some (chosenE f L)) ∨ (foundB f L = false ∧ r = -1 ∧ chosenE f L = zE)
end Go.Proofs.Ytibkndhgeeoidaa
