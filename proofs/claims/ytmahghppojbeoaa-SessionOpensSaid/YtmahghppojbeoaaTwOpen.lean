/- The walk's own words: arguments opened: what a reading as data says of the cells. Over any program. -/
import Derived.Test.YtmahghppojbeoaaTwRun
import Derived.ChangeArms
import Derived.Lib.LaidTab
namespace Go.Tw
set_option linter.unusedSimpArgs false
set_option linter.unusedVariables false
set_option linter.unusedSectionVars false
open Go.RowKit
section
variable {H : Type} {henc : TypeId × Value → H} {P : Program} {w : World} {base : Nat} {spare : Nat → Bool} {held : Bool}
/-- whatever reads at type t is the coding of something that is in order -/
structure Opn {α : Type} (henc : TypeId × Value → H) (P : Program) (w : World) (base : Nat) (spare : Nat → Bool) (held : Bool) (t : TypeId) (enc : α → List Value) (ok : α → Prop) : Prop where
  out : ∀ fuel cs x, DataW.trod henc P w base spare held fuel t cs = some x → ∃ y, cs = enc y ∧ ok y
theorem opn_int {t : TypeId} {k : IntKind} (hu : P.underlying t = some (.int k)) : Opn henc P w base spare held t (encI k) (fun n => (Lit.int k n).wf = true) :=
  ⟨fun _ _ _ h => let ⟨n, h1, _, h3⟩ := DataW.trod_int hu h; ⟨n, h1, h3⟩⟩
def encS (s : ByteArray) : List Value := [.string s]
def encB (b : Bool) : List Value := [.bool b]
theorem cells_get {a : Addr} {n : Nat} {l : List Value} (h : w.cells? base a n = some l) : l.length = n ∧ ∀ j u, l[j]? = some u → w.cell? (a.add j) = some u := by
  unfold World.cells? at h
  split at h
  · have hl := Lib.mapM_length h
    simp at hl
    refine ⟨hl, fun j u hu => ?_⟩
    have hj : j < n := by have := (List.getElem?_eq_some_iff.1 hu).1; omega
    obtain ⟨b, hb, hc⟩ := Lib.mapM_at h j j (by simp [hj])
    rw [hu] at hb; cases hb; exact hc
  · cases h
theorem spot_none {a : Addr} {v : Value} (h : w.cell? a = some v) : ∃ b off, a = ⟨b, off, none⟩ := by
  obtain ⟨b, off, s⟩ := a
  cases s with
  | none => exact ⟨b, off, rfl⟩
  | some q =>
    unfold World.cell? at h
    split at h
    · simp at h
    · cases h
theorem list_of {α : Type} {Q : Nat → α → Prop} : ∀ (n : Nat), (∀ i, i < n → ∃ x, Q i x) → ∃ l : List α, l.length = n ∧ ∀ i x, l[i]? = some x → Q i x
  | 0, _ => ⟨[], rfl, by simp⟩
  | n + 1, h => by
    obtain ⟨l, hl, hq⟩ := list_of n (fun i hi => h i (by omega))
    obtain ⟨x, hx⟩ := h n (by omega)
    refine ⟨l ++ [x], by simp [hl], fun i y hy => ?_⟩
    by_cases e : i < n
    · rw [List.getElem?_append_left (by omega)] at hy; exact hq i y hy
    · have hlt := (List.getElem?_eq_some_iff.1 hy).1
      simp [hl] at hlt
      have : i = n := by omega
      subst this
      rw [List.getElem?_append_right (by omega), hl] at hy
      simp at hy; subst hy; exact hx
theorem opn_slice {α : Type} {enc : α → List Value} {ok : α → Prop} {fuel : Nat} {t e : TypeId} {sz : Nat} {cs : List Value} {x : DataW H × List MemPlace} (hu : P.underlying t = some (.slice e)) (hsz : P.cellsOf e = sz) (hpos : 0 < sz) (hlen : ∀ x, (enc x).length = sz) (ho : Opn henc P w base spare held e enc ok)
    (h : DataW.trod henc P w base spare held fuel t cs = some x) : ∃ A xs c, cs = [.slice A xs.length c] ∧ Rd w sz enc A xs ∧ (∀ x ∈ xs, ok x) ∧ xs.length ≤ c ∧ c ≤ maxLen := by
  rcases DataW.trod_slice hu h with ⟨rfl, _⟩ | ⟨a, len, cap, elems, rest, n, _, rfl, _, _, hlc, hcm, hel, hat, _⟩
  · exact ⟨none, [], 0, rfl, Rd.nil _ _ _ _, by simp, by simp, by simp⟩
  · have hall : ∀ i, i < len → ∃ y, ok y ∧ w.cells? base (a.add (i * sz)) sz = some (enc y) := fun i hi => by
      have h1 := hat i hi
      rw [hsz] at h1
      obtain ⟨q, hq⟩ := get_some (xs := elems) (i := i) (by omega)
      rw [hq] at h1
      obtain ⟨l, hl, hd⟩ := Option.bind_eq_some_iff.1 h1
      obtain ⟨y, rfl, hy⟩ := ho.out _ _ _ hd
      exact ⟨y, hy, hl⟩
    obtain ⟨xs, hxl, hxs⟩ := list_of len hall
    refine ⟨some a, xs, cap, by rw [hxl], ⟨fun i y hy => ?_⟩, fun y hy => ?_, by omega, hcm⟩
    · have h0 : 0 < len := by have := (List.getElem?_eq_some_iff.1 hy).1; omega
      obtain ⟨y0, _, hc0⟩ := hall 0 h0
      have hp0 : 0 < (enc y0).length := by rw [hlen]; exact hpos
      have hc0' := (cells_get hc0).2 0 ((enc y0)[0]'hp0) (by simp [hp0])
      simp only [Nat.zero_mul] at hc0'
      have ha0 : (a.add 0).add 0 = a := by simp [Addr.add]
      rw [ha0] at hc0'
      obtain ⟨b, off, rfl⟩ := spot_none hc0'
      refine ⟨b, off, rfl, fun j u hu' => ?_⟩
      have := (cells_get (hxs i y hy).2).2 j u hu'
      rw [add_at, add_at] at this
      exact this
    · obtain ⟨i, hi⟩ := List.getElem?_of_mem hy
      exact (hxs i y hi).1
end
def fieldTab (P : Program) (t : TypeId) : Option (List (TypeId × Nat)) := match P.underlying t with
  | some (.struct fs) => some (fs.toList.map fun f => (f.type, f.offset))
  | _ => none
end Go.Tw
