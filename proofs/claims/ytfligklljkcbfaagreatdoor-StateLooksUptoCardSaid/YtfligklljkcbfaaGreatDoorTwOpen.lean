/- The walk's own words: arguments opened: what a reading as data says of the cells. Over any program. -/
import Derived.Test.YtfligklljkcbfaaGreatDoorTwRun
import Derived.ChangeArms
import Derived.Lib.LaidTab
namespace Go.Tw
set_option linter.unusedSimpArgs false
set_option linter.unusedVariables false
set_option linter.unusedSectionVars false
open Go.RowKit
section
variable {H : Type} {henc : TypeId × Value → H} {P : Program} {w : World} {base : Nat} {spare : Nat → Bool} {held : Bool}
/-- whatever reads at type t is the coding of something that is in order -/
structure Opn {α : Type} (henc : TypeId × Value → H) (P : Program) (w : World) (base : Nat) (spare : Nat → Bool) (held : Bool) (t : TypeId) (enc : α → List Value) (ok : α → Prop) : Prop where
  out : ∀ fuel cs x, DataW.trod henc P w base spare held fuel t cs = some x → ∃ y, cs = enc y ∧ ok y
def encS (s : ByteArray) : List Value := [.string s]
def encB (b : Bool) : List Value := [.bool b]
theorem cells_get {a : Addr} {n : Nat} {l : List Value} (h : w.cells? base a n = some l) : l.length = n ∧ ∀ j u, l[j]? = some u → w.cell? (a.add j) = some u := by
  unfold World.cells? at h
  split at h
  · have hl := Lib.mapM_length h
    simp at hl
    refine ⟨hl, fun j u hu => ?_⟩
    have hj : j < n := by have := (List.getElem?_eq_some_iff.1 hu).1; omega
    obtain ⟨b, hb, hc⟩ := Lib.mapM_at h j j (by simp [hj])
    rw [hu] at hb; cases hb; exact hc
  · cases h
theorem spot_none {a : Addr} {v : Value} (h : w.cell? a = some v) : ∃ b off, a = ⟨b, off, none⟩ := by
  obtain ⟨b, off, s⟩ := a
  cases s with
  | none => exact ⟨b, off, rfl⟩
  | some q =>
    unfold World.cell? at h
    split at h
    · simp at h
    · cases h
theorem list_of {α : Type} {Q : Nat → α → Prop} : ∀ (n : Nat), (∀ i, i < n → ∃ x, Q i x) → ∃ l : List α, l.length = n ∧ ∀ i x, l[i]? = some x → Q i x
  | 0, _ => ⟨[], rfl, by simp⟩
  | n + 1, h => by
    obtain ⟨l, hl, hq⟩ := list_of n (fun i hi => h i (by omega))
    obtain ⟨x, hx⟩ := h n (by omega)
    refine ⟨l ++ [x], by simp [hl], fun i y hy => ?_⟩
    by_cases e : i < n
    · rw [List.getElem?_append_left (by omega)] at hy; exact hq i y hy
    · have hlt := (List.getElem?_eq_some_iff.1 hy).1
      simp [hl] at hlt
      have : i = n := by omega
      subst this
      rw [List.getElem?_append_right (by omega), hl] at hy
      simp at hy; subst hy; exact hx
end
def fieldTab (P : Program) (t : TypeId) : Option (List (TypeId × Nat)) := match P.underlying t with
  | some (.struct fs) => some (fs.toList.map fun f => (f.type, f.offset))
  | _ => none
end Go.Tw
