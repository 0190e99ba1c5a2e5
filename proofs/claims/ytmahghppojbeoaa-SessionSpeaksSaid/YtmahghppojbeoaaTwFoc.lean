/- The walk's own words: a block comes out of a footprint, and goes back. Over any program. -/
import Derived.Test.YtmahghppojbeoaaTwClr
namespace Go.Tw
set_option linter.unusedSimpArgs false
set_option linter.unusedVariables false
set_option linter.unusedSectionVars false
open Go.RowKit
section
variable {w0 w w' : World} {F0 : List Nat} {M : List (Nat × Obj)} {Fs : List (List Nat)}
theorem Cx.toF1 (h : Cx w0 F0 w M Fs) (k j : Nat) {b : Nat} {o : Obj} {R : List Nat} (hk : M[k]? = some (b, o)) (hj : Fs[j]? = some R) : Cx w0 F0 w (M.eraseIdx k) (Fs.set j (b :: R)) := by
  have hbm : (b, o) ∈ M := List.mem_of_getElem? hk
  have hrm : R ∈ Fs := List.mem_of_getElem? hj
  have h1 : Cx w0 F0 w (M.eraseIdx k) Fs := h.sub (List.eraseIdx_sublist _ _) (List.Sublist.refl _)
  have hnb : ∀ q ∈ M.eraseIdx k, q.1 ≠ b := by
    intro q hq e
    obtain ⟨i, hik, hi⟩ := List.mem_eraseIdx_iff_getElem?.1 hq
    exact h.ne i k (a := q.1) (o := q.2) (by simpa using hi) hk hik e
  have mem : ∀ G ∈ Fs.set j (b :: R), G = b :: R ∨ ∃ i, j ≠ i ∧ Fs[i]? = some G := by
    intro G hG
    obtain ⟨i, hi⟩ := List.getElem?_of_mem hG
    rw [List.getElem?_set] at hi
    split at hi
    · split at hi
      · cases hi; exact .inl rfl
      · cases hi
    · rename_i hij; exact .inr ⟨i, hij, hi⟩
  refine ⟨h1.fr, h1.has, h1.nodup, ?_, ?_, ?_, h1.ownM, ?_⟩
  · rw [List.pairwise_iff_getElem]
    intro x y hx hy hxy q hq
    have hx' : x < Fs.length := by simpa using hx
    have hy' : y < Fs.length := by simpa using hy
    rw [List.getElem_set] at hq ⊢
    split at hq
    · rename_i e; subst e
      rw [if_neg (by omega)]
      rcases List.mem_cons.1 hq with rfl | hq
      · exact h.apart _ (List.getElem_mem (l := Fs) hy') _ hbm
      · exact h.disj j y hj (List.getElem?_eq_getElem hy') (by omega) q hq
    · split
      · rename_i e; subst e
        intro hq2
        rcases List.mem_cons.1 hq2 with rfl | hq2
        · exact h.apart _ (List.getElem_mem (l := Fs) hx') _ hbm hq
        · exact h.disj x j (List.getElem?_eq_getElem hx') hj (by omega) q hq hq2
      · exact h.disj x y (List.getElem?_eq_getElem hx') (List.getElem?_eq_getElem hy') (by omega) q hq
  · intro G hG p hp
    rcases mem G hG with rfl | ⟨i, _, hi⟩
    · intro hx
      rcases List.mem_cons.1 hx with e | hx
      · exact hnb p hp e
      · exact h1.apart _ hrm p hp hx
    · exact h1.apart G (List.mem_of_getElem? hi) p hp
  · intro G hG x hx
    rcases mem G hG with rfl | ⟨i, _, hi⟩
    · rcases List.mem_cons.1 hx with rfl | hx
      · exact h.lt hbm
      · exact h.bound _ hrm x hx
    · exact h.bound G (List.mem_of_getElem? hi) x hx
  · intro G hG x hx
    rcases mem G hG with rfl | ⟨i, _, hi⟩
    · rcases List.mem_cons.1 hx with rfl | hx
      · exact h.ownM _ hbm
      · exact h.ownF _ hrm x hx
    · exact h.ownF G (List.mem_of_getElem? hi) x hx
/-- a footprint's blocks are as they were in w0 -/
def SameF (w0 w : World) (R : List Nat) : Prop := ∀ x ∈ R, x < w.heap.size ∧ w.heap[x]? = w0.heap[x]?
theorem SameF.refl (w : World) (R : List Nat) (h : ∀ x ∈ R, x < w.heap.size) : SameF w w R := fun x hx => ⟨h x hx, rfl⟩
theorem SameF.fr {R F : List Nat} (h : SameF w0 w R) (hf : Fr w w' F) (hd : ∀ x ∈ R, x ∉ F) : SameF w0 w' R := fun x hx => ⟨Nat.lt_of_lt_of_le (h x hx).1 hf.size, (hf.block x (h x hx).1 (hd x hx)).trans (h x hx).2⟩
end
end Go.Tw
