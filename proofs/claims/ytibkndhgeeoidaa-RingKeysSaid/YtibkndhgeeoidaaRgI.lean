/- Contracts of functions of the program, each proved by a walk through its code; conditions stand in the statements. -/
import Derived.Test.YtibkndhgeeoidaaRgH
namespace Go.Proofs.Ytibkndhgeeoidaa
set_option linter.unusedSimpArgs false
set_option linter.unusedVariables false
set_option linter.unusedSectionVars false
open Go Go.RowKit Go.Tw
set_option linter.unusedVariables false
set_option maxRecDepth 20000
/-! ### the choice stays -/
def leO (o : Option (Int × EndV)) (b : Int) : Prop := ∀ x, o = some x → x.1 ≤ b
def RO (d : EndV) (o o' : Option (Int × EndV)) : Prop := o = o' ∨ ∃ bd, o' = some (bd, d) ∧ leO o bd
def grE (e : EndV) (g : Int) (x : EndV) : EndV := if x = e then ⟨x.dip, x.port, min 16 (x.weight + g)⟩ else x
def growL (e : EndV) (g : Int) (L : List EndV) (j : Nat) : List EndV := (L.take j).map (grE e g) ++ L.drop j
def idxO (out : Int) (n : Nat) : Nat := ((IntKind.u64.wrap out).tmod (n : Int)).toNat
def gmod (grow : Int) : Int := (IntKind.u64.wrap grow).tmod 16
end Go.Proofs.Ytibkndhgeeoidaa
