/- The walk's own words: the comparison of structs that hold structs. Over any program. -/
import Derived.Test.YtfligklljkcbfaaDoorTwAl
namespace Go.Tw
set_option linter.unusedSimpArgs false
set_option linter.unusedVariables false
set_option linter.unusedSectionVars false
open Go.RowKit
def partOf (P : Program) (t : TypeId) (xs : Array Value) (o : Nat) : Option Value := match aggB P t with
  | some true => bif (P.info? t).isSome then some (.agg (xs.extract o (o + P.cellsOf t))) else none
  | some false => xs[o]?
  | none => none
def eqN (P : Program) : Nat → TypeId → Value → Value → Option Bool
  | 0, _, _, _ => none
  | d + 1, t, x, y => match P.underlying t, x, y with
    | some (.int _), .int k a, .int k' b => bif decide (k = k') then some (a == b) else none
    | some .bool, .bool a, .bool b => some (a == b)
    | some .string, .string a, .string b => some (a == b)
    | some (.struct fs), .agg xs, .agg ys => bif P.stoodInHeld t then none else fs.toList.foldr (fun f r => bif f.name == "_" then none else match partOf P f.type xs f.offset, partOf P f.type ys f.offset with
      | some a, some b => (match eqN P d f.type a b, r with
        | some p, some q => some (p && q)
        | _, _ => none)
      | _, _ => none) (some true)
    | _, _, _ => none
section
variable {P : Program} {w : World}
theorem run_partOf {t : TypeId} {xs : Array Value} {o : Nat} {v : Value} (h : partOf P t xs o = some v) : (part t xs o).run P w = .ok v w := by
  unfold partOf at h
  split at h
  · rename_i ha
    cases hi : (P.info? t).isSome
    · rw [hi] at h; cases h
    · rw [hi] at h
      cases h
      unfold part
      simp only [Sem.run_bind, run_isAgg ha, Result.andThen_ok, if_true, run_sizeOf' hi]
      rfl
  · rename_i ha; exact run_part1 ha h
  · cases h
theorem eqN_run : ∀ (d : Nat) {t : TypeId} {x y : Value} {r : Bool}, eqN P d t x y = some r → ∀ D, d ≤ D → (Op.equalIn D t x y).run P w = .ok r w
  | 0, _, _, _, _, h, _, _ => by cases h
  | d + 1, t, x, y, r, h, D, hD => by
    obtain ⟨D, rfl⟩ : ∃ k, D = k + 1 := ⟨D - 1, by omega⟩
    unfold eqN at h
    split at h
    · rename_i q k a k' b hu
      cases hk : decide (k = k')
      · rw [hk] at h; cases h
      · rw [hk] at h; cases h
        have hkk : k = k' := by simpa using hk
        subst hkk
        exact run_equalIn_int w D t k q a b hu
    · rename_i a b hu; cases h; exact run_equalIn_bool' w D t a b hu
    · rename_i a b hu; cases h; rw [run_equalIn_string w D t a b hu, ← beq_toListBytes]
    · rename_i fs xs ys hu
      cases hs : P.stoodInHeld t
      · rw [hs] at h
        simp only [cond_false] at h
        have hf : P.fieldsOf t = fs := by unfold Program.fieldsOf; rw [hu]
        rw [run_equalIn_struct w D t xs ys (by rw [hf]; exact hu) hs, hf]
        clear hf hu hs
        generalize fs.toList = l at h
        induction l generalizing r with
        | nil => cases h; rfl
        | cons f l ih =>
          rw [List.foldr_cons] at h
          cases hn : (f.name == "_")
          · rw [hn] at h
            simp only [cond_false] at h
            have hn' : f.name ≠ "_" := by simpa using hn
            split at h
            · rename_i a b hx hy
              split at h
              · rename_i p q hp hq
                cases h
                have h1 := eqN_run d hp D (by omega)
                have h2 := ih _ hq
                simp only [Op.eqFields, hn', ne_eq, not_false_eq_true, if_true, Sem.run_bind, run_partOf hx, run_partOf hy, Result.andThen_ok, h1]
                cases p
                · simp
                · simp [h2]
              · cases h
            · cases h
          · rw [hn] at h; cases h
      · rw [hs] at h; cases h
    · cases h
theorem eqN_guard {t : TypeId} (hb : P.eqGuardType P.depth t = false) (op : BinOp) (X Y : Operand) (xs ys : Array Value) : (eqGuard op t X Y (.agg xs) (.agg ys)).run P w = .ok () w := run_eqGuard_agg w op t X Y xs ys hb
theorem run_neq_N {t : TypeId} {X Y : Operand} {xs ys : Array Value} {r : Bool} (hb : P.eqGuardType P.depth t = false) (h : eqN P 8 t (.agg xs) (.agg ys) = some r) : (do eqGuard .neq t X Y (.agg xs) (.agg ys); binOp .neq t (.agg xs) (.agg ys) : Sem Value).run P w = .ok (.bool (!r)) w := by
  have h1 := eqN_run (w := w) 8 h 10000 (by decide)
  simp only [Sem.run_bind, eqN_guard hb, Result.andThen_ok, run_neq_struct, h1]
end
end Go.Tw
