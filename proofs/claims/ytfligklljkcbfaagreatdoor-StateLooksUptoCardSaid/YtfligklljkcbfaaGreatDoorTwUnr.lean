/- Loops walked round by round; append's two ways told apart (in place, or in a new block). -/
import Derived.Test.YtfligklljkcbfaaGreatDoorTwEqN
namespace Go.Tw
set_option linter.unusedSimpArgs false
set_option linter.unusedVariables false
set_option linter.unusedSectionVars false
open Go.RowKit
section
variable {P : Program} {n : Nat} {c : Code} {Q : Exit → Act → World → Prop} {E E' : Env} {w w' : World}
/-- a loop ahead of its next round -/
def Rounds (P : Program) (n : Nat) (c : Code) (Q : Exit → Act → World → Prop) (E : Env) (w : World) : Prop :=
  ∀ a, Ag n E a → ∀ b k cs, ∃ e a' w', Q e a' w' ∧ Arrives P (lone (b.at a (.code c :: .inLoop c :: k)) cs w) b k cs e a' w'
theorem Rounds.round (h : ∀ K : Act → World → Prop, (∀ E' w', Rounds P n c Q E' w' → ∀ a, Ag n E' a → K a w') → WC P n c (Exit.then K Q) E w) : Rounds P n c Q E w := fun a ha b k cs => by
  obtain ⟨e, a1, w1, hq, harr⟩ := h (fun a w => ∀ b k cs, ∃ e a' w', Q e a' w' ∧ Arrives P (lone (b.at a (.code c :: .inLoop c :: k)) cs w) b k cs e a' w') (fun E' w' hR a ha => hR a ha) a ha b (.inLoop c :: k) cs
  cases e with
  | normal =>
    obtain ⟨e2, a2, w2, hq2, harr2⟩ := hq b k cs
    exact ⟨e2, a2, w2, hq2, .of_steps (Steps.trans harr (.one step_inLoop)) harr2⟩
  | exit id => exact ⟨_, a1, w1, hq, .pass (x := .inLoop c) rfl (fun _ _ => .inl (by simp)) harr⟩
  | goto l => exact ⟨_, a1, w1, hq, .pass (x := .inLoop c) rfl (fun _ _ => .inl (by simp)) harr⟩
  | ret => exact ⟨_, a1, w1, hq, .pass (x := .inLoop c) rfl (fun _ _ => .inl (by simp)) harr⟩
  | panic ch => exact ⟨_, a1, w1, hq, .pass (x := .inLoop c) rfl (fun _ _ => .inl (by simp)) harr⟩
  | outgrown => exact ⟨_, a1, w1, hq, .pass (x := .inLoop c) rfl (fun _ _ => .inl (by simp)) harr⟩
end
section
variable {P : Program} {w0 w w' : World} {F0 : List Nat} {M : List (Nat × Obj)} {Fs : List (List Nat)}
/-- a list's old header and the row as it has grown: it lies where it lay, or apart from it -/
structure Grp (w : World) (e : Nat) (f : Nat → List Value) (A0 : Option Addr) (n c0 : Nat) (A : Option Addr) (m c : Nat) : Prop where
  own : w.ownsRow 0 e 1 (.slice A m c) m ((List.range m).flatMap f)
  old : w.ownsRow 0 e 1 (.slice A0 n c0) n ((List.range n).flatMap f)
  le : n ≤ m
  one : ∀ j, (f j).length = 1
  way : (A = A0 ∧ c = c0) ∨ ∀ x ∈ blk (.slice A m c), x ∉ blk (.slice A0 n c0)
theorem Grp.start {e : Nat} {f : Nat → List Value} {A : Option Addr} {n c : Nat} (h1 : ∀ j, (f j).length = 1) (h : w.ownsRow 0 e 1 (.slice A n c) n ((List.range n).flatMap f)) : Grp w e f A n c A n c := ⟨h, h, Nat.le_refl _, h1, .inl ⟨rfl, rfl⟩⟩
end
end Go.Tw
