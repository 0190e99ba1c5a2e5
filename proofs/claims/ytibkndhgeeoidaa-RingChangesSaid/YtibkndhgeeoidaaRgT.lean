/- Contracts of functions of the program, each proved by a walk through its code; conditions stand in the statements. -/
import Derived.Test.YtibkndhgeeoidaaRgJ
import Derived.Test.YtibkndhgeeoidaaRgS
namespace Go.Proofs.Ytibkndhgeeoidaa
set_option linter.unusedSimpArgs false
set_option linter.unusedVariables false
set_option linter.unusedSectionVars false
open Go Go.RowKit Go.Tw
set_option linter.unusedVariables false
set_option maxRecDepth 20000
/-! ### the owners by their ways -/
def wayP (key a : Int) : Int := IntKind.u64.wrap (a - key)
def lexW (x y : Int × Int) : Prop := x.1 < y.1 ∨ x.1 = y.1 ∧ x.2 ≤ y.2
def wq (key : Int) (p : Int × Int) : Int × Int := (wayP key p.1, p.2)
def candM (key m : Int) (j : Nat) : List (Int × Int) := (List.range j).map fun q => (wayP key (ptAt m q).1, m)
def candL (key per : Int) (out M : List Int) (i : Nat) : List (Int × Int) := (M.take i).flatMap fun m => if out.contains m then [] else candM key m per.toNat
def bestS (S : List (Int × Int)) (b w : Int) : Prop := (S = [] ∧ b = -1) ∨ (S ≠ [] ∧ 0 ≤ b ∧ (w, b) ∈ S ∧ ∀ q ∈ S, lexW (w, b) q)
theorem goodR_perm {per : Int} {A B : List Int} (h : A.Perm B) : goodR per A = goodR per B := by
  have : okG A ↔ okG B := by
    unfold okG
    rw [h.length_eq, h.nodup_iff]
    constructor
    · rintro ⟨h1, h2, h3⟩; exact ⟨h1, fun m hm => h2 m (h.mem_iff.2 hm), h3⟩
    · rintro ⟨h1, h2, h3⟩; exact ⟨h1, fun m hm => h2 m (h.mem_iff.1 hm), h3⟩
  unfold goodR
  split
  · rfl
  · by_cases ho : okG A
    · rw [if_pos ho, if_pos (this.1 ho)]
    · rw [if_neg ho, if_neg (fun q => ho (this.2 q))]
theorem with_perm (M X : List Int) : (sortI M ++ X).Perm (M ++ X) := (sortI_perm M).append_right X
theorem with_good (per : Int) (M X : List Int) : goodR per (M ++ X) = goodR per (sortI M ++ X) := goodR_perm (with_perm M X).symm
theorem with_sort (M X : List Int) : sortI (sortI M ++ X) = sortI (M ++ X) := sortI_of_perm (with_perm M X)
theorem out_sort (K M : List Int) : sortI (outK K (sortI M)) = sortI (outK K M) := sortI_of_perm ((sortI_perm M).filter _)
end Go.Proofs.Ytibkndhgeeoidaa
