/- Plain facts of lists of pairs (lookL, putL, delL): what is found behind a change, and sums over the pairs. -/
import Derived.Test.YtjacpjdikhlcoaaTwCut
namespace Go.Tw
set_option linter.unusedSimpArgs false
set_option linter.unusedVariables false
set_option linter.unusedSectionVars false
section
variable {κ β : Type} [DecidableEq κ]
theorem al_look_mem : ∀ {m : List (κ × β)} {k : κ} {v : β}, lookL m k = some v → (k, v) ∈ m
  | [], _, _, h => by cases h
  | (a, b) :: r, k, v, h => by
    unfold lookL at h
    by_cases e : a = k
    · rw [if_pos e] at h; cases h; subst e; exact List.mem_cons_self
    · rw [if_neg e] at h; exact List.mem_cons_of_mem _ (al_look_mem h)
theorem al_none : ∀ {m : List (κ × β)} {k : κ}, lookL m k = none ↔ ∀ p ∈ m, p.1 ≠ k
  | [], k => by simp [lookL]
  | (a, b) :: r, k => by
    unfold lookL
    by_cases e : a = k
    · rw [if_pos e]; simp [e]
    · rw [if_neg e, al_none (m := r)]; simp [e]
theorem al_look_put : ∀ (m : List (κ × β)) (k : κ) (v : β) (j : κ), lookL (putL m k v) j = if k = j then some v else lookL m j
  | [], k, v, j => by unfold putL; unfold lookL; rfl
  | (a, b) :: r, k, v, j => by
    unfold putL
    by_cases e : a = k
    · rw [if_pos e]; subst e
      conv => lhs; unfold lookL
      by_cases g : a = j
      · rw [if_pos g, if_pos g]
      · rw [if_neg g, if_neg g]; conv => rhs; unfold lookL
        rw [if_neg g]
    · rw [if_neg e]
      conv => lhs; unfold lookL
      rw [al_look_put r k v j]
      by_cases g : a = j
      · rw [if_pos g]
        have : ¬ k = j := fun h => e (g.trans h.symm)
        rw [if_neg this]; conv => rhs; unfold lookL
        rw [if_pos g]
      · rw [if_neg g]
        conv => rhs; unfold lookL
        rw [if_neg g]
/-- a sum over the pairs -/
def sumL (g : β → Nat) : List (κ × β) → Nat
  | [] => 0
  | (_, b) :: r => g b + sumL g r
end
theorem own_max {w : World} {base e sz n c : Nat} {A : Option Addr} {X : List Value} (h : w.ownsRow base e sz (.slice A n c) n X) : n ≤ 9223372036854775807 := by
  rcases Nat.eq_zero_or_pos n with h0 | h0
  · omega
  · obtain ⟨_, _, _, _, _, h1, h2, _⟩ := own_blkd h h0
    simp only [Go.maxLen] at h2; omega
theorem Cx.openR {w : World} {p : Nat} {o : Obj} {A : List Nat} (hp : w.heap[p]? = some o) (hA : ∀ x ∈ A, x < w.heap.size) (hn : p ∉ A) : Cx w (p :: A) w [(p, o)] [A] :=
  ⟨.refl _ _, by simpa using hp, by simp, by simp, by simpa using hn, by simpa using hA, by simp, by simp; exact fun x hx => .inl (.inr hx)⟩
theorem blk_in {A : Option Addr} {n c b off : Nat} (h : A = some ⟨b, off, none⟩) : b ∈ blk (.slice A n c) := by
  subst h; simp [blk, Value.ownBlock]
theorem rd_lt {α : Type} {w : World} {sz : Nat} {enc : α → List Value} {A : Option Addr} {xs : List α} (h : Rd w sz enc A xs) (hp : ∀ x, 0 < (enc x).length) {b off : Nat} (hA : A = some ⟨b, off, none⟩) (hne : xs ≠ []) : b < w.heap.size := by
  subst hA
  cases xs with
  | nil => exact absurd rfl hne
  | cons x r =>
    obtain ⟨b', off', hA', hc⟩ := h.at_ 0 x rfl
    have h0 := hc 0 ((enc x)[0]'(hp x)) (by simp [hp x])
    cases hA'
    rcases Nat.lt_or_ge b w.heap.size with h' | h'
    · exact h'
    · simp [World.cell?, Array.getElem?_eq_none h'] at h0
end Go.Tw
