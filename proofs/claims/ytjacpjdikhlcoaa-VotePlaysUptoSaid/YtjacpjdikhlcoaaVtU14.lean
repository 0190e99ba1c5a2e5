/- Contracts of functions of the program, each proved by a walk through its code; conditions stand in the statements. -/
import Derived.Test.YtjacpjdikhlcoaaVtT14
namespace Go.Proofs.Ytjacpjdikhlcoaa
set_option linter.unusedSimpArgs false
set_option linter.unusedVariables false
set_option linter.unusedSectionVars false
open Go Go.RowKit Go.Tw
set_option linter.unusedVariables false
set_option maxRecDepth 20000
def numAt (bs : List Int) (k : Nat) : Int := IntKind.i64.wrap (valF 0 ((bs.drop (8 * k)).take 8))
def intsL (bs : List Int) : List Int := (List.range (bs.length / 8)).map (numAt bs)
def gN (ns : List Int) (i : Nat) : Int := (ns[i]?).getD 0
def endN (ns : List Int) (p : Nat) : EndV := ⟨wrapA (gN ns p), gN ns (p + 1), gN ns (p + 2)⟩
def endsN (ns : List Int) (p k : Nat) : List EndV := (List.range k).map fun i => endN ns (p + 3 * i)
def cmdN (ns : List Int) (a : Nat) : CmdV :=
  ⟨gN ns a, gN ns (a + 1), gN ns (a + 2), gN ns (a + 3), gN ns (a + 4), wrapA (gN ns (a + 5)), gN ns (a + 6), gN ns (a + 7), endsN ns (a + 9) (gN ns (a + 8)).toNat, wrapA (gN ns (a + 9 + 3 * (gN ns (a + 8)).toNat)), wrapA (gN ns (a + 10 + 3 * (gN ns (a + 8)).toNat)), decide (gN ns (a + 11 + 3 * (gN ns (a + 8)).toNat) = 1)⟩
structure Hyp (bs : List Int) (L0 : List CmdV) : Prop where
  good : goodL L0 = true
  wf : ∀ v ∈ L0, wfC v
  byt : bytesL L0 = bs
def RdI (bs : List Int) (Ls : List CmdV) (a : Nat) : Prop := ∀ L0, Hyp bs L0 → Ls.length ≤ L0.length ∧ Ls = L0.take Ls.length ∧ a = 1 + ((L0.take Ls.length).flatMap numsC).length
end Go.Proofs.Ytjacpjdikhlcoaa
