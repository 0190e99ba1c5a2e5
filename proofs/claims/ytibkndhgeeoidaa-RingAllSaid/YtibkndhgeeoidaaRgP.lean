/- Contracts of functions of the program, each proved by a walk through its code; conditions stand in the statements. -/
import Derived.Test.YtibkndhgeeoidaaRgG
namespace Go.Proofs.Ytibkndhgeeoidaa
set_option linter.unusedSimpArgs false
set_option linter.unusedVariables false
set_option linter.unusedSectionVars false
open Go Go.RowKit Go.Tw
set_option linter.unusedVariables false
set_option maxRecDepth 20000
/-! ### a list less others -/
def inK (k : List Int) (m : Int) : Bool := k.contains m
theorem newR.base {w' : World} {b b' : Nat} {per : Int} {M : List Int} {x y : Value} (h : newR w' b per M x y) (hb : b' ≤ b) : newR w' b' per M x y := by
  rcases h with h | ⟨h0, p, G, AP, cP, AM, cM, h1, h2, h3, h4⟩
  · exact .inl h
  · exact .inr ⟨h0, p, G, AP, cP, AM, cM, h1, h2, h3, fun z hz => Nat.le_trans hb (h4 z hz)⟩
def idxK (k : List Int) (ts : List Int) : Int := match ts.findIdx? (inK k) with
  | some i => (i : Int)
  | none => -1
def outK (k : List Int) (ts : List Int) : List Int := ts.filter fun t => !inK k t
structure DelI (k : List Int) (ts L : List Int) (i j : Nat) : Prop where
  ij : i < j ∧ j ≤ ts.length
  len : L.length = ts.length
  pre : L.take i = outK k (ts.take j)
  post : L.drop j = ts.drop j
theorem DelI.el {k : List Int} {ts L : List Int} {i j : Nat} (h : DelI k ts L i j) {e : Int} (he : L[j]? = some e) : ts[j]? = some e := by
  have h1 : (L.drop j)[0]? = (ts.drop j)[0]? := by rw [h.post]
  rw [List.getElem?_drop, List.getElem?_drop, Nat.add_zero] at h1
  rw [← h1]; exact he
theorem outK_snoc {k : List Int} {ts : List Int} {j : Nat} {e : Int} (he : ts[j]? = some e) : outK k (ts.take (j + 1)) = outK k (ts.take j) ++ (if inK k e then [] else [e]) := by
  obtain ⟨hj, rfl⟩ := List.getElem?_eq_some_iff.1 he
  unfold outK
  rw [List.take_succ_eq_append_getElem hj, List.filter_append]
  cases h : inK k ts[j] <;> simp [h]
theorem DelI.skip {k : List Int} {ts L : List Int} {i j : Nat} (h : DelI k ts L i j) {e : Int} (he : L[j]? = some e) (hk : inK k e = true) : DelI k ts L i (j + 1) := by
  have hj := (List.getElem?_eq_some_iff.1 (h.el he)).1
  refine ⟨⟨by have := h.ij; omega, by omega⟩, h.len, ?_, ?_⟩
  · rw [outK_snoc (h.el he), hk, h.pre]; simp
  · rw [← List.drop_drop, h.post, List.drop_drop]
theorem DelI.keep {k : List Int} {ts L : List Int} {i j : Nat} (h : DelI k ts L i j) {e : Int} (he : L[j]? = some e) (hk : inK k e = false) : DelI k ts (L.set i e) (i + 1) (j + 1) := by
  have hj := (List.getElem?_eq_some_iff.1 (h.el he)).1
  have hij := h.ij
  refine ⟨⟨by omega, by omega⟩, by rw [List.length_set]; exact h.len, ?_, ?_⟩
  · rw [outK_snoc (h.el he), hk, ← h.pre]
    have hi : i < (L.set i e).length := by rw [List.length_set, h.len]; omega
    rw [List.take_succ_eq_append_getElem hi, List.getElem_set_self, List.take_set_of_le (by omega)]
    simp
  · rw [List.drop_set_of_lt (by omega), ← List.drop_drop, h.post, List.drop_drop]
end Go.Proofs.Ytibkndhgeeoidaa
