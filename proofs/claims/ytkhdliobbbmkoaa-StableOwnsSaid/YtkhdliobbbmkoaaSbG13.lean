/- Contracts of functions of the program, each proved by a walk through its code; conditions stand in the statements. -/
import Derived.Test.YtkhdliobbbmkoaaSbF13
import Derived.Test.YtkhdliobbbmkoaaSbK13
import Derived.Test.YtkhdliobbbmkoaaTwOpen
namespace Go.Proofs.Ytkhdliobbbmkoaa
set_option linter.unusedSimpArgs false
set_option linter.unusedVariables false
set_option linter.unusedSectionVars false
open Go Go.RowKit Go.Tw
set_option linter.unusedVariables false
set_option maxRecDepth 20000
open Go.Maps in
def keysL (N : Ct) : List ByteArray := ((N.map (·.1.data.toList)).mergeSort leB).map fun l => ⟨l.toArray⟩
theorem putE_yes {N : Ct} {size : Int} {key : ByteArray} {tot : Nat} (h1 : 1 ≤ key.size) (h2 : key.size ≤ 64) (h : ((usedL (delL N key) + key.size + tot : Nat) : Int) ≤ size) : putE N size key tot = 0 := by
  unfold putE; rw [if_neg (by omega), if_pos h]
theorem cat1 (a : Option Addr) (n c : Nat) (xs : List Int) : catL [⟨a, n, c, xs⟩] = xs := by simp [catL]
end Go.Proofs.Ytkhdliobbbmkoaa
