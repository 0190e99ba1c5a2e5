/- The walk's own words: no operation takes draws back. Over any program. -/
import Derived.Calls
namespace Go.Tw
set_option linter.unusedSimpArgs false
set_option linter.unusedVariables false
set_option linter.unusedSectionVars false
/-- are draws counted too? (False where a contract of the kit's is leant on that says nothing of them) -/
def DR : Prop := True
theorem ask_drawn {α : Type} : ∀ (q : Ask α) (w : World), w.drawn ≤ (w.ask q).2.drawn
  | .done _, _ => Nat.le_refl _
  | .ask what range k, w => by
    unfold World.ask
    dsimp only
    split
    · exact ask_drawn _ _
    · exact Nat.le_trans (Nat.le_succ _) (ask_drawn _ { w with drawn := w.drawn + 1 })
theorem sys_drawn (c : Sys) (w : World) : w.drawn ≤ (w.sys c).2.drawn := by
  unfold World.sys
  have h := ask_drawn (Kernel.perform c w.os) w
  split
  · exact Nat.le_refl _
  · rename_i heq; rw [heq] at h; exact h
theorem view_drawn {P : Program} {w w' : World} {at_ : Addr} {u : TypeId} {k : Addr} {v : Value} {b : Bool} {L : List Addr} (h : w.viewStore P at_ u k v b = .ok (w', L)) : w'.drawn = w.drawn := by
  unfold World.viewStore at h
  simp only [bind, Except.bind, pure, Except.pure, throw, throwThe, MonadExceptOf.throw] at h
  repeat' (split at h)
  all_goals first
    | cases h; done
    | (simp only [Except.ok.injEq, Prod.mk.injEq] at h; obtain ⟨rfl, _⟩ := h; rfl)
theorem far_drawn {P : Program} {w w' : World} {a : Addr} {v : Value} {b : Bool} {L : List Addr} (h : w.farStore P a v b = .ok (w', L)) : w'.drawn = w.drawn := by
  unfold World.farStore at h
  split at h
  · split at h
    · rename_i heq; cases h; exact view_drawn heq
    · cases h
  · cases h
theorem freeze_drawn (w : World) (a : Addr) (n : Nat) : (w.freeze a n).drawn = w.drawn := by unfold World.freeze; split <;> rfl
theorem run_drawn {P : Program} {α : Type} : ∀ (m : Sem α) (w : World) (x : α) (w' : World), m.run P w = .ok x w' → w.drawn ≤ w'.drawn := by
  intro m
  induction m with
  | pure a => intro w x w' h; unfold Sem.run at h; cases h; exact Nat.le_refl _
  | load md a k ih =>
    intro w x w' h
    unfold Sem.run at h
    split at h
    · exact ih _ _ _ _ h
    · split at h
      · exact ih _ _ _ _ h
      · cases h
  | store md a v k ih =>
    intro w x w' h
    cases v <;> simp only [Sem.run] at h <;> first
      | (cases h; done)
      | (split at h
         · split at h
           · cases h
           · exact ih (w.setCell a _) _ _ h
         · split at h
           · rename_i heq
             have h2 := ih _ _ _ h
             rw [far_drawn heq] at h2
             exact h2
           · cases h)
  | new o k ih => intro w x w' h; unfold Sem.run at h; exact ih _ { w with heap := w.heap.push o } _ _ h
  | shape r k ih => intro w x w' h; unfold Sem.run at h; exact ih _ _ _ _ h
  | freeze a n k ih => intro w x w' h; unfold Sem.run at h; have := ih _ _ _ h; rw [freeze_drawn] at this; exact this
  | frozen a k ih => intro w x w' h; unfold Sem.run at h; exact ih _ _ _ _ h
  | getObj r k ih =>
    intro w x w' h
    unfold Sem.run at h
    split at h
    · cases h
    · exact ih _ _ _ _ h
    · cases h
  | setObj r o k ih =>
    intro w x w' h
    unfold Sem.run at h
    split at h
    · cases h
    · exact ih { w with heap := w.heap.setIfInBounds r o } _ _ h
    · cases h
  | choose q k ih =>
    intro w x w' h
    unfold Sem.run at h
    split at h
    · exact ih _ _ _ _ h
    · exact Nat.le_trans (Nat.le_succ _) (ih _ { w with drawn := w.drawn + 1 } _ _ h)
  | sys c k ih => intro w x w' h; unfold Sem.run at h; exact Nat.le_trans (sys_drawn c w) (ih _ _ _ _ h)
  | program k ih => intro w x w' h; unfold Sem.run at h; exact ih _ _ _ _ h
  | mark md k ih => intro w x w' h; unfold Sem.run at h; exact ih _ _ _ h
  | halt hh => intro w x w' h; unfold Sem.run at h; cases h
end Go.Tw
