/- The walk's own words: a seq whose middle is told; tracked blocks in another order. Over any program. -/
import Derived.Test.YtjacpjdikhlcoaaTwFoc
namespace Go.Tw
set_option linter.unusedSimpArgs false
set_option linter.unusedVariables false
set_option linter.unusedSectionVars false
open Go.RowKit
theorem blk_n (A : Option Addr) (n c n' c' : Nat) : blk (.slice A n c) = blk (.slice A n' c') := by cases A <;> rfl
end Go.Tw
