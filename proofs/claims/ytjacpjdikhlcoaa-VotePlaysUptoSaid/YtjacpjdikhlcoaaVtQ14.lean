/- Contracts of functions of the program, each proved by a walk through its code; conditions stand in the statements. -/
import Derived.Test.YtjacpjdikhlcoaaVtP14
namespace Go.Proofs.Ytjacpjdikhlcoaa
set_option linter.unusedSimpArgs false
set_option linter.unusedVariables false
set_option linter.unusedSectionVars false
open Go Go.RowKit Go.Tw
set_option linter.unusedVariables false
set_option maxRecDepth 20000
theorem vs_loglen {w : World} {FA : List Nat} {p : Nat} {V : Vo} {sp : Nat} {N Y : Ct} {size : Int} (h : vsAt w FA p V sp N Y size) : V.log.length ≤ 1099511627776 := by
  obtain ⟨_, _, ⟨_, _, L, _, _, _, _, h4, h5, _⟩, _⟩ := h
  rw [← h4, vals_len]; exact h5
theorem asked_yes {V : Vo} {n d : Int} (h : askedE V n d = 0) : goodBal n d = true ∧ lessB n d V.pn V.pd = false := by
  unfold askedE at h
  cases hg : goodBal n d <;> simp only [hg] at h
  · cases h
  · cases hl : lessB n d V.pn V.pd <;> simp only [hl] at h
    · exact ⟨rfl, rfl⟩
    · cases h
theorem accept_yes {V : Vo} {n d : Int} {L : List CmdV} (h : acceptE V n d L = 0) : askedE V n d = 0 ∧ goodL L = true := by
  unfold acceptE at h
  by_cases hg : goodBal n d = false ∨ goodL L = false
  · rw [if_pos hg] at h; cases h
  · rw [if_neg hg] at h
    refine ⟨h, ?_⟩
    cases hl : goodL L
    · exact absurd (.inr hl) hg
    · rfl
theorem used_prep (N : Ct) (n d : Int) : usedL (putL N kP (bytesN [n, d])) ≤ usedL N + 23 := by
  have h1 := used_put N kP (bytesN [n, d])
  have h2 := used_del_le N kP
  rw [bytes2_len] at h1
  rw [h1, show kP.size = 7 from rfl]; omega
theorem room_prep {N : Ct} {s : Int} (h : (usedL N : Int) + 147 ≤ s) : putE N s kP 16 = 0 :=
  putE_yes (by decide) (by decide) (by have h2 := used_del_le N kP; rw [show kP.size = 7 from rfl]; omega)
end Go.Proofs.Ytjacpjdikhlcoaa
