/- The walk's own words: a seq whose middle is told; tracked blocks in another order. Over any program. -/
import Derived.Test.YtmahghppojbeoaaTwFoc
namespace Go.Tw
set_option linter.unusedSimpArgs false
set_option linter.unusedVariables false
set_option linter.unusedSectionVars false
open Go.RowKit
end Go.Tw
