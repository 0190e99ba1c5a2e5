/- The walk's own words: a seq whose middle is told; tracked blocks in another order. Over any program. -/
import Derived.Test.YtfligklljkcbfaaGreatDoorTwFoc
namespace Go.Tw
set_option linter.unusedSimpArgs false
set_option linter.unusedVariables false
set_option linter.unusedSectionVars false
open Go.RowKit
theorem WC.seqI {P : Program} {n : Nat} {Q : Exit → Act → World → Prop} {E : Env} {w : World} {x y : Code} (I : Env → World → Prop) (h1 : ∀ K : Act → World → Prop, (∀ E' w', I E' w' → ∀ a, Ag n E' a → K a w') → WC P n x (Exit.then K Q) E w) (h2 : ∀ E' w', I E' w' → WC P n y Q E' w') : WC P n (.seq x y) Q E w :=
  WCs fun K hK => h1 K fun E' w' hI => hK E' w' (h2 E' w' hI)
theorem blk_n (A : Option Addr) (n c n' c' : Nat) : blk (.slice A n c) = blk (.slice A n' c') := by cases A <;> rfl
theorem Cx.pickM {w0 w : World} {F0 : List Nat} {M : List (Nat × Obj)} {Fs : List (List Nat)} (h : Cx w0 F0 w M Fs) (is js : List Nat) (hn : is.Nodup) {M' : List (Nat × Obj)} {Fs' : List (List Nat)} (hM : is.filterMap (fun i => M[i]?) = M') (hF : Tw.pick js Fs = Fs') : Cx w0 F0 w M' Fs' := by
  subst hM
  have h2 : Cx w0 F0 w M Fs' := by subst hF; exact h.sub (List.Sublist.refl _) (pick_sub _ _)
  have hmem : ∀ p ∈ is.filterMap (fun i => M[i]?), p ∈ M := by
    intro p hp
    obtain ⟨i, _, hi⟩ := List.mem_filterMap.1 hp
    exact List.mem_of_getElem? hi
  refine ⟨h2.fr, fun p hp => h2.has p (hmem p hp), ?_, h2.sep, fun F hF p hp => h2.apart F hF p (hmem p hp), h2.bound, fun p hp => h2.ownM p (hmem p hp), h2.ownF⟩
  rw [List.Nodup, List.pairwise_map, List.pairwise_filterMap]
  refine List.Pairwise.imp ?_ hn
  intro i j hij a ha b hb e
  obtain ⟨a1, a2⟩ := a
  obtain ⟨b1, b2⟩ := b
  simp only at e
  subst e
  exact hij (nodup_inj h2.nodup ha hb)
end Go.Tw
