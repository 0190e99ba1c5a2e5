/- Plain facts of lists of pairs (lookL, putL, delL): what is found behind a change, and sums over the pairs. -/
import Derived.Test.YtmahghppojbeoaaTwCut
namespace Go.Tw
set_option linter.unusedSimpArgs false
set_option linter.unusedVariables false
set_option linter.unusedSectionVars false
section
variable {κ β : Type} [DecidableEq κ]
theorem al_look_mem : ∀ {m : List (κ × β)} {k : κ} {v : β}, lookL m k = some v → (k, v) ∈ m
  | [], _, _, h => by cases h
  | (a, b) :: r, k, v, h => by
    unfold lookL at h
    by_cases e : a = k
    · rw [if_pos e] at h; cases h; subst e; exact List.mem_cons_self
    · rw [if_neg e] at h; exact List.mem_cons_of_mem _ (al_look_mem h)
theorem al_none : ∀ {m : List (κ × β)} {k : κ}, lookL m k = none ↔ ∀ p ∈ m, p.1 ≠ k
  | [], k => by simp [lookL]
  | (a, b) :: r, k => by
    unfold lookL
    by_cases e : a = k
    · rw [if_pos e]; simp [e]
    · rw [if_neg e, al_none (m := r)]; simp [e]
theorem al_mem_look : ∀ {m : List (κ × β)} {k : κ} {v : β}, (m.map (·.1)).Nodup → (k, v) ∈ m → lookL m k = some v
  | [], _, _, _, h => by cases h
  | (a, b) :: r, k, v, hn, h => by
    rw [List.map_cons, List.nodup_cons] at hn
    unfold lookL
    rcases List.mem_cons.1 h with h1 | h1
    · cases h1; rw [if_pos rfl]
    · have : a ≠ k := fun e => hn.1 (List.mem_map.2 ⟨(k, v), h1, e.symm⟩)
      rw [if_neg this]; exact al_mem_look hn.2 h1
theorem al_look_put : ∀ (m : List (κ × β)) (k : κ) (v : β) (j : κ), lookL (putL m k v) j = if k = j then some v else lookL m j
  | [], k, v, j => by unfold putL; unfold lookL; rfl
  | (a, b) :: r, k, v, j => by
    unfold putL
    by_cases e : a = k
    · rw [if_pos e]; subst e
      conv => lhs; unfold lookL
      by_cases g : a = j
      · rw [if_pos g, if_pos g]
      · rw [if_neg g, if_neg g]; conv => rhs; unfold lookL
        rw [if_neg g]
    · rw [if_neg e]
      conv => lhs; unfold lookL
      rw [al_look_put r k v j]
      by_cases g : a = j
      · rw [if_pos g]
        have : ¬ k = j := fun h => e (g.trans h.symm)
        rw [if_neg this]; conv => rhs; unfold lookL
        rw [if_pos g]
      · rw [if_neg g]
        conv => rhs; unfold lookL
        rw [if_neg g]
theorem al_look_del : ∀ {m : List (κ × β)}, (m.map (·.1)).Nodup → ∀ (k j : κ), lookL (delL m k) j = if k = j then none else lookL m j
  | [], _, k, j => by unfold delL; unfold lookL; simp
  | (a, b) :: r, hn, k, j => by
    rw [List.map_cons, List.nodup_cons] at hn
    unfold delL
    by_cases e : a = k
    · subst e
      rw [if_pos rfl]
      by_cases g : a = j
      · subst g
        rw [if_pos rfl]
        exact al_none.2 fun p hp h => hn.1 (List.mem_map.2 ⟨p, hp, h⟩)
      · rw [if_neg g]; conv => rhs; unfold lookL
        rw [if_neg g]
    · rw [if_neg e]
      conv => lhs; unfold lookL
      rw [al_look_del hn.2 k j]
      by_cases g : a = j
      · have : ¬ k = j := fun h => e (g.trans h.symm)
        rw [if_pos g, if_neg this]; conv => rhs; unfold lookL
        rw [if_pos g]
      · rw [if_neg g]
        conv => rhs; unfold lookL
        rw [if_neg g]
theorem al_mem_put {m : List (κ × β)} {k : κ} {v : β} (hn : (m.map (·.1)).Nodup) {p : κ × β} : p ∈ putL m k v ↔ p = (k, v) ∨ (p ∈ m ∧ p.1 ≠ k) := by
  obtain ⟨a, b⟩ := p
  have h1 : (a, b) ∈ putL m k v ↔ lookL (putL m k v) a = some b := ⟨al_mem_look (putL_keys m k v hn), al_look_mem⟩
  have h2 : (a, b) ∈ m ↔ lookL m a = some b := ⟨al_mem_look hn, al_look_mem⟩
  rw [h1, h2, al_look_put]
  by_cases e : k = a
  · subst e; simp [eq_comm]
  · rw [if_neg e]
    constructor
    · intro h; exact .inr ⟨h, fun g => e g.symm⟩
    · rintro (h | ⟨h, _⟩)
      · cases h; exact absurd rfl e
      · exact h
theorem al_mem_del {m : List (κ × β)} {k : κ} (hn : (m.map (·.1)).Nodup) {p : κ × β} : p ∈ delL m k ↔ p ∈ m ∧ p.1 ≠ k := by
  obtain ⟨a, b⟩ := p
  have h1 : (a, b) ∈ delL m k ↔ lookL (delL m k) a = some b := ⟨al_mem_look (delL_keys m k hn), al_look_mem⟩
  have h2 : (a, b) ∈ m ↔ lookL m a = some b := ⟨al_mem_look hn, al_look_mem⟩
  rw [h1, h2, al_look_del hn]
  by_cases e : k = a
  · subst e; simp
  · rw [if_neg e]
    exact ⟨fun h => ⟨h, fun g => e g.symm⟩, fun h => h.1⟩
/-- a sum over the pairs -/
def sumL (g : β → Nat) : List (κ × β) → Nat
  | [] => 0
  | (_, b) :: r => g b + sumL g r
end
theorem own_max {w : World} {base e sz n c : Nat} {A : Option Addr} {X : List Value} (h : w.ownsRow base e sz (.slice A n c) n X) : n ≤ 9223372036854775807 := by
  rcases Nat.eq_zero_or_pos n with h0 | h0
  · omega
  · obtain ⟨_, _, _, _, _, h1, h2, _⟩ := own_blkd h h0
    simp only [Go.maxLen] at h2; omega
theorem ne_of_get {α : Type} {xs : List α} {i : Nat} {x : α} (h : xs[i]? = some x) : xs ≠ [] := by
  rintro rfl; simp at h
end Go.Tw
