/- Contracts of functions of the program, each proved by a walk through its code; conditions stand in the statements. -/
import Derived.Test.YtjacpjdikhlcoaaVtS14
namespace Go.Proofs.Ytjacpjdikhlcoaa
set_option linter.unusedSimpArgs false
set_option linter.unusedVariables false
set_option linter.unusedSectionVars false
open Go Go.RowKit Go.Tw
set_option linter.unusedVariables false
set_option maxRecDepth 20000
theorem vals_wf {w : World} {L : List Cmd} (h : ∀ m ∈ L, cmdAt w m) : ∀ v ∈ vals L, wfC v := by
  intro v hv
  obtain ⟨m, hm, rfl⟩ := List.mem_map.1 hv
  exact (h m hm).wf
end Go.Proofs.Ytjacpjdikhlcoaa
