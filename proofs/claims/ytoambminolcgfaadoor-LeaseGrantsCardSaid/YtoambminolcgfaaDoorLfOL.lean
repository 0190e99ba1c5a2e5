/- Contracts of functions of the program, each proved by a walk through its code; conditions stand in the statements. -/
import Derived.Test.YtoambminolcgfaaDoorLfM
import Derived.Test.YtoambminolcgfaaDoorTwOpen
import Derived.OpenShut
namespace Go.Proofs.YtoambminolcgfaaDoor
set_option linter.unusedSimpArgs false
set_option linter.unusedVariables false
set_option linter.unusedSectionVars false
open Go Go.RowKit Go.Tw
theorem U23 : Tryd.prog.underlying 23 = some (.int .u32) := by kernel_rfl
theorem U3 : Tryd.prog.underlying 3 = some (.int .i64) := by kernel_rfl
theorem C23 : Tryd.prog.cellsOf 23 = 1 := by kernel_rfl
theorem C3 : Tryd.prog.cellsOf 3 = 1 := by kernel_rfl
theorem C27 : Tryd.prog.cellsOf 27 = 4 := by kernel_rfl
def fields27 : List (TypeId × Nat) := [(23, 0), (3, 1), (23, 2), (3, 3)]
theorem T27 : fieldTab Tryd.prog 27 = some fields27 := by kernel_rfl
theorem opn_lease {H : Type} {henc : TypeId × Value → H} {w : World} {base : Nat} {spare : Nat → Bool} {held : Bool} : Opn henc Tryd.prog w base spare held 27 encL okL := by
  refine ⟨fun fuel cs x h => ?_⟩
  obtain ⟨hl, hf⟩ := trod_tab T27 h
  rw [C27] at hl
  match cs, hl with
  | [a, b, c, d], _ =>
    obtain ⟨n0, y0, h0⟩ := hf (23, 0) (by simp [fields27])
    obtain ⟨n1, y1, h1⟩ := hf (3, 1) (by simp [fields27])
    obtain ⟨n2, y2, h2⟩ := hf (23, 2) (by simp [fields27])
    obtain ⟨n3, y3, h3⟩ := hf (3, 3) (by simp [fields27])
    simp only [C23, C3, List.drop_zero, List.drop_succ_cons, List.take_succ_cons, List.take_zero] at h0 h1 h2 h3
    obtain ⟨v0, e0, _, w0⟩ := DataW.trod_int U23 h0
    obtain ⟨v1, e1, _, w1⟩ := DataW.trod_int U3 h1
    obtain ⟨v2, e2, _, w2⟩ := DataW.trod_int U23 h2
    obtain ⟨v3, e3, _, w3⟩ := DataW.trod_int U3 h3
    simp only [List.cons.injEq, and_true] at e0 e1 e2 e3
    subst e0 e1 e2 e3
    have b0 := bounds_u32 w0
    have b1 := bounds_i64 w1
    have b2 := bounds_u32 w2
    have b3 := bounds_i64 w3
    exact ⟨⟨v0, v1, v2, v3⟩, rfl, by simp only [okL]; omega⟩
end Go.Proofs.YtoambminolcgfaaDoor
