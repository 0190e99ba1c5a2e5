/- Contracts of functions of the program, each proved by a walk through its code; conditions stand in the statements. -/
import Derived.Test.YtkhdliobbbmkoaaProg
import Derived.Shelf.SlIter.Nil
import Derived.Shelf.SortM.Plain
import Derived.Shelf.SortM.SortNone
import Derived.Ground.GgzProg
import Derived.Ground.SlgmProg
namespace Go.Proofs
set_option linter.unusedSimpArgs false
set_option linter.unusedVariables false
set_option linter.unusedSectionVars false
open Go.RowKit Go.Maps Go.Sort Go.Shelf
shelf_lay_g SlLaysZ.n7 Ggz 7 at Try 37 as StKeys.keysA
shelf_lay_g SlLaysZ.n6 Ggz 6 at Try 36 as StKeys.sortedA
shelf_lay_g SlLaysM.n6 Slgm 6 at Try 46 as StKeys.sortA
theorem StKeys.keys (mb : Option Nat) (W : World) : Calls Try.prog 37 #[.map mb] W fun e w' => e = .returned (.func (.func 47) #[] #[.pointer (some ⟨W.heap.size, 0, none⟩)]) ∧ w' = W.alloc (.cells #[.map mb] 68) :=
  (callsIn_wide (n := 5)).1 (AnyZ.keys_in StKeys.keysA Fence.wide 5 trivial rfl mb W)
end Go.Proofs
