/- The arguments' bulk beside what they hold. Over any program. -/
import Derived.Test.YtfligklljkcbfaaGreatDoorTwOpen
namespace Go.Tw
set_option linter.unusedSimpArgs false
set_option linter.unusedVariables false
set_option linter.unusedSectionVars false
open Go.ChangeShapes Go.WideShapes Go.RowKit
section
variable {H : Type} {henc : TypeId × Value → H} {P : Program} {w : World} {base : Nat} {spare : Nat → Bool} {held : Bool}
theorem sum_le {α β : Type} (f : α → Nat) (g : β → Nat) : ∀ (xs : List α) (ys : List β), xs.length = ys.length → (∀ (i : Nat) (x : α) (y : β), xs[i]? = some x → ys[i]? = some y → f x ≤ g y) → (xs.map f).sum ≤ (ys.map g).sum
  | [], _, _, _ => Nat.zero_le _
  | x :: r, [], h, _ => by simp at h
  | x :: r, y :: s, h, hp => by
    have h1 := hp 0 x y rfl rfl
    have h2 := sum_le f g r s (by simpa using h) (fun i a b ha hb => hp (i + 1) a b ha hb)
    simp only [List.map_cons, List.sum_cons]
    omega
theorem bulk_sum {B : DataW H → Nat} {BA : List (DataW H) → Nat} (h0 : BA [] = 0) (hc : ∀ d r, BA (d :: r) = B d + BA r) : ∀ l : List (DataW H), BA l = (l.map B).sum
  | [] => h0
  | d :: r => by rw [hc, bulk_sum h0 hc r, List.map_cons, List.sum_cons]
theorem opn_sliceB {α : Type} {enc : α → List Value} {ok : α → Prop} {wt : α → Nat} {fuel : Nat} {t e : TypeId} {sz : Nat} {cs : List Value} {x : DataW H × List MemPlace} {B : DataW H → Nat} {BA : List (DataW H) → Nat} (h0 : BA [] = 0) (hc : ∀ d r, BA (d :: r) = B d + BA r) (hs : ∀ l s, B (.slice l s) = BA l + BA s + 1)
    (hu : P.underlying t = some (.slice e)) (hsz : P.cellsOf e = sz) (hpos : 0 < sz) (hlen : ∀ y, (enc y).length = sz) (ho : ∀ fuel cs x, DataW.trod henc P w base spare held fuel e cs = some x → ∃ y, cs = enc y ∧ ok y ∧ wt y ≤ B x.1)
    (h : DataW.trod henc P w base spare held fuel t cs = some x) : ∃ A xs c, cs = [.slice A xs.length c] ∧ Rd w sz enc A xs ∧ (∀ x ∈ xs, ok x) ∧ xs.length ≤ c ∧ c ≤ maxLen ∧ (xs.map wt).sum ≤ B x.1 := by
  rcases DataW.trod_slice hu h with ⟨rfl, _⟩ | ⟨a, len, cap, elems, rest, n, _, rfl, hx, _, hlc, hcm, hel, hat, _⟩
  · exact ⟨none, [], 0, rfl, Rd.nil _ _ _ _, by simp, by simp, by simp, Nat.zero_le _⟩
  · have hall : ∀ i, i < len → ∃ y, (ok y ∧ ∀ q, elems[i]? = some q → wt y ≤ B q.1) ∧ w.cells? base (a.add (i * sz)) sz = some (enc y) := fun i hi => by
      have h1 := hat i hi
      rw [hsz] at h1
      obtain ⟨q, hq⟩ := get_some (xs := elems) (i := i) (by omega)
      rw [hq] at h1
      obtain ⟨l, hl, hd⟩ := Option.bind_eq_some_iff.1 h1
      obtain ⟨y, rfl, hy, hw⟩ := ho _ _ _ hd
      exact ⟨y, ⟨hy, fun q' hq' => by rw [hq] at hq'; cases hq'; exact hw⟩, hl⟩
    obtain ⟨xs, hxl, hxs⟩ := list_of len hall
    refine ⟨some a, xs, cap, by rw [hxl], ⟨fun i y hy => ?_⟩, fun y hy => ?_, by omega, hcm, ?_⟩
    · have h0 : 0 < len := by have := (List.getElem?_eq_some_iff.1 hy).1; omega
      obtain ⟨y0, _, hc0⟩ := hall 0 h0
      have hp0 : 0 < (enc y0).length := by rw [hlen]; exact hpos
      have hc0' := (cells_get hc0).2 0 ((enc y0)[0]'hp0) (by simp [hp0])
      simp only [Nat.zero_mul] at hc0'
      have ha0 : (a.add 0).add 0 = a := by simp [Addr.add]
      rw [ha0] at hc0'
      obtain ⟨b, off, rfl⟩ := spot_none hc0'
      refine ⟨b, off, rfl, fun j u hu' => ?_⟩
      have := (cells_get (hxs i y hy).2).2 j u hu'
      rw [add_at, add_at] at this
      exact this
    · obtain ⟨i, hi⟩ := List.getElem?_of_mem hy
      exact (hxs i y hi).1.1
    · subst hx
      show _ ≤ B (.slice (elems.map (·.1)) (rest.map (·.1)))
      rw [hs, bulk_sum h0 hc (elems.map (·.1)), List.map_map]
      have := sum_le wt (B ∘ fun (x : DataW H × List MemPlace) => x.1) xs elems (by omega) (fun i y q hy hq => (hxs i y hy).1.2 q hq)
      omega
theorem trod_tabB {fuel : Nat} {t : TypeId} {cs : List Value} {x : DataW H × List MemPlace} {l : List (TypeId × Nat)} (ht : fieldTab P t = some l) (h : DataW.trod henc P w base spare held fuel t cs = some x) :
    cs.length = P.cellsOf t ∧ ∃ ys : List (DataW H × List MemPlace), ys.length = l.length ∧ x.1 = .agg (ys.map (·.1)) ∧ ∀ (i : Nat) (q : TypeId × Nat), l[i]? = some q → ∃ n y, ys[i]? = some y ∧ DataW.trod henc P w base spare held n q.1 ((cs.drop q.2).take (P.cellsOf q.1)) = some y := by
  unfold fieldTab at ht
  split at ht
  · rename_i fs hu
    obtain ⟨xs, n, _, rfl, hl, hxl, hf⟩ := DataW.trod_struct hu h
    simp only [Option.some.injEq] at ht
    subst ht
    refine ⟨hl, xs, by simpa using hxl, rfl, fun i q hq => ?_⟩
    rw [List.getElem?_map] at hq
    obtain ⟨f, hfi, rfl⟩ := Option.map_eq_some_iff.1 hq
    have hi : i < fs.size := by have := (List.getElem?_eq_some_iff.1 hfi).1; simpa using this
    obtain ⟨y, hy⟩ := get_some (xs := xs) (i := i) (by omega)
    exact ⟨n, y, hy, by rw [hf i f (by simpa using hfi), hy]⟩
  · cases ht
end
end Go.Tw
