/- The walk's own words: arguments opened: what a reading as data says of the cells. Over any program. -/
import Derived.Test.YtmahghppojbeoaaTwRun
import Derived.ChangeArms
import Derived.Lib.LaidTab
namespace Go.Tw
set_option linter.unusedSimpArgs false
set_option linter.unusedVariables false
set_option linter.unusedSectionVars false
open Go.RowKit
section
variable {H : Type} {henc : TypeId × Value → H} {P : Program} {w : World} {base : Nat} {spare : Nat → Bool} {held : Bool}
/-- whatever reads at type t is the coding of something that is in order -/
structure Opn {α : Type} (henc : TypeId × Value → H) (P : Program) (w : World) (base : Nat) (spare : Nat → Bool) (held : Bool) (t : TypeId) (enc : α → List Value) (ok : α → Prop) : Prop where
  out : ∀ fuel cs x, DataW.trod henc P w base spare held fuel t cs = some x → ∃ y, cs = enc y ∧ ok y
def encS (s : ByteArray) : List Value := [.string s]
def encB (b : Bool) : List Value := [.bool b]
/-- the fields of a struct that reads -/
theorem trod_fields {fuel : Nat} {t : TypeId} {fs : Array Field} {cs : List Value} {x : DataW H × List MemPlace} (hu : P.underlying t = some (.struct fs)) (h : DataW.trod henc P w base spare held fuel t cs = some x) :
    cs.length = P.cellsOf t ∧ ∀ f ∈ fs.toList, ∃ n y, DataW.trod henc P w base spare held n f.type ((cs.drop f.offset).take (P.cellsOf f.type)) = some y := by
  cases fuel with
  | zero => simp [DataW.trod] at h
  | succ fuel =>
    unfold DataW.trod at h
    rw [hu] at h
    simp only at h
    split at h
    · rename_i hl
      refine ⟨hl, fun f hf => ?_⟩
      obtain ⟨xs, hm, _⟩ := Option.map_eq_some_iff.1 h
      obtain ⟨i, hi⟩ := List.getElem?_of_mem hf
      obtain ⟨y, _, hb⟩ := Lib.mapM_at hm i f hi
      exact ⟨fuel, y, hb⟩
    · cases h
end
def fieldTab (P : Program) (t : TypeId) : Option (List (TypeId × Nat)) := match P.underlying t with
  | some (.struct fs) => some (fs.toList.map fun f => (f.type, f.offset))
  | _ => none
theorem trod_tab {H : Type} {henc : TypeId × Value → H} {P : Program} {w : World} {base : Nat} {spare : Nat → Bool} {held : Bool} {fuel : Nat} {t : TypeId} {cs : List Value} {x : DataW H × List MemPlace} {l : List (TypeId × Nat)} (ht : fieldTab P t = some l) (h : DataW.trod henc P w base spare held fuel t cs = some x) :
    cs.length = P.cellsOf t ∧ ∀ q ∈ l, ∃ n y, DataW.trod henc P w base spare held n q.1 ((cs.drop q.2).take (P.cellsOf q.1)) = some y := by
  unfold fieldTab at ht
  split at ht
  · rename_i fs hu
    obtain ⟨h1, h2⟩ := trod_fields hu h
    simp only [Option.some.injEq] at ht
    subst ht
    refine ⟨h1, fun q hq => ?_⟩
    obtain ⟨f, hf, rfl⟩ := List.mem_map.1 hq
    exact h2 f hf
  · cases ht
end Go.Tw
