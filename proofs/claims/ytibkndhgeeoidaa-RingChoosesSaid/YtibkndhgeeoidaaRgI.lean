/- Contracts of functions of the program, each proved by a walk through its code; conditions stand in the statements. -/
import Derived.Test.YtibkndhgeeoidaaRgH
namespace Go.Proofs.Ytibkndhgeeoidaa
set_option linter.unusedSimpArgs false
set_option linter.unusedVariables false
set_option linter.unusedSectionVars false
open Go Go.RowKit Go.Tw
set_option linter.unusedVariables false
set_option maxRecDepth 20000
/-! ### the choice stays -/
def leO (o : Option (Int × EndV)) (b : Int) : Prop := ∀ x, o = some x → x.1 ≤ b
def RO (d : EndV) (o o' : Option (Int × EndV)) : Prop := o = o' ∨ ∃ bd, o' = some (bd, d) ∧ leO o bd
def grE (e : EndV) (g : Int) (x : EndV) : EndV := if x = e then ⟨x.dip, x.port, min 16 (x.weight + g)⟩ else x
def growL (e : EndV) (g : Int) (L : List EndV) (j : Nat) : List EndV := (L.take j).map (grE e g) ++ L.drop j
def idxO (out : Int) (n : Nat) : Nat := ((IntKind.u64.wrap out).tmod (n : Int)).toNat
def gmod (grow : Int) : Int := (IntKind.u64.wrap grow).tmod 16
theorem endV_beq {a b : EndV} : (a.dip == b.dip && (a.port == b.port && (a.weight == b.weight && true))) = decide (a = b) := by
  rw [Bool.eq_iff_iff]
  simp only [Bool.and_eq_true, beq_iff_eq, decide_eq_true_eq, and_true]
  constructor
  · rintro ⟨h1, h2, h3⟩; cases a; cases b; simp only at h1 h2 h3; subst h1 h2 h3; rfl
  · rintro rfl; exact ⟨rfl, rfl, rfl⟩
end Go.Proofs.Ytibkndhgeeoidaa
