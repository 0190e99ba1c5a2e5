/- Contracts of functions of the program, each proved by a walk through its code; conditions stand in the statements. -/
import Derived.Test.YtjacpjdikhlcoaaVtU14
namespace Go.Proofs.Ytjacpjdikhlcoaa
set_option linter.unusedSimpArgs false
set_option linter.unusedVariables false
set_option linter.unusedSectionVars false
open Go Go.RowKit Go.Tw
set_option linter.unusedVariables false
set_option maxRecDepth 20000
theorem RRead_n (A : Option Addr) (n c : Nat) (bs : List Int) (w : World) (hr : Rd w 1 (Go.Tw.encI .u8) A bs) (hn : bs.length = n) (hb : byteL bs) (hl : n ≤ 4398046511104) : Calls Try.prog 13 #[.slice A n c] w fun e w' => ∃ (A2 : Option Addr) (c2 : Nat) (L2 : List Cmd) (R2 : List Nat), e = .returned (.tuple #[.slice A2 L2.length c2, .int .i64 (if readOk bs then 0 else 3)]) ∧ Fr w w' [] ∧ w'.ownsRow w.heap.size 61 12 (.slice A2 L2.length c2) L2.length (L2.flatMap cellsC) ∧ logIn w' R2 L2 ∧ vals L2 = (if readOk bs then readL bs else []) ∧ (∀ x ∈ R2, w.heap.size ≤ x ∧ x < w'.heap.size) ∧ (∀ x ∈ blk (.slice A2 L2.length c2), x ∉ R2) := by subst hn; exact RRead_ct A c bs w hr hb hl
end Go.Proofs.Ytjacpjdikhlcoaa
