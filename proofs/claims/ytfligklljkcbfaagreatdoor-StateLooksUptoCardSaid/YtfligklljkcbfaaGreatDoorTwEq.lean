/- The walk's own words: the comparison of two structs of plain fields. Over any program. -/
import Derived.Test.YtfligklljkcbfaaGreatDoorTwRun
import Derived.Laws.StructEq
namespace Go.Tw
set_option linter.unusedSimpArgs false
set_option linter.unusedVariables false
set_option linter.unusedSectionVars false
open Go.RowKit
def eqF (P : Program) (xs ys : Array Value) : List Field → Option Bool
  | [] => some true
  | f :: fs => bif f.name == "_" then none else match P.underlying f.type, xs[f.offset]?, ys[f.offset]? with
    | some (.int _), some (.int k a), some (.int k' b) => bif decide (k = k') then (match eqF P xs ys fs with | some r => some ((a == b) && r) | none => none) else none
    | some .bool, some (.bool a), some (.bool b) => (match eqF P xs ys fs with | some r => some ((a == b) && r) | none => none)
    | some .string, some (.string a), some (.string b) => (match eqF P xs ys fs with | some r => some ((a == b) && r) | none => none)
    | _, _, _ => none
def eqS (P : Program) (t : TypeId) (xs ys : Array Value) : Option Bool := match P.underlying t with
  | some (.struct fs) => bif P.stoodInHeld t || P.eqGuardType P.depth t then none else eqF P xs ys fs.toList
  | _ => none
section
variable {P : Program} {w : World}
theorem run_part1 {t : TypeId} {xs : Array Value} {o : Nat} {v : Value} (ht : aggB P t = some false) (h : xs[o]? = some v) : (part t xs o).run P w = .ok v w := by
  unfold part
  simp [run_isAgg ht, h]
theorem eqF_run {xs ys : Array Value} {d : Nat} : ∀ {fs : List Field} {r : Bool}, eqF P xs ys fs = some r → (Op.eqFields (d + 1) xs ys fs).run P w = .ok r w
  | [], r, h => by simp [eqF] at h; subst h; rfl
  | f :: fs, r, h => by
    unfold eqF at h
    cases hn : (f.name == "_")
    · rw [hn] at h
      simp only [cond_false] at h
      have hn' : f.name ≠ "_" := by simpa using hn
      split at h
      · rename_i q k a k' b hu hx hy
        cases hk : decide (k = k')
        · rw [hk] at h; simp at h
        · rw [hk] at h
          simp only [cond_true] at h
          have hkk : k = k' := by simpa using hk
          subst hkk
          split at h
          · rename_i r' hr
            simp only [Option.some.injEq] at h
            subst h
            have ha : aggB P f.type = some false := by unfold aggB; rw [hu]
            have ih := eqF_run (d := d) hr
            simp only [Op.eqFields, hn', ne_eq, not_false_eq_true, if_true, Sem.run_bind, run_part1 ha hx, run_part1 ha hy, Result.andThen_ok, run_equalIn_int w d f.type k q a b hu]
            cases hab : (a == b)
            · simp
            · simp [ih]
          · cases h
      · rename_i a b hu hx hy
        split at h
        · rename_i r' hr
          simp only [Option.some.injEq] at h
          subst h
          have ha : aggB P f.type = some false := by unfold aggB; rw [hu]
          have ih := eqF_run (d := d) hr
          simp only [Op.eqFields, hn', ne_eq, not_false_eq_true, if_true, Sem.run_bind, run_part1 ha hx, run_part1 ha hy, Result.andThen_ok, run_equalIn_bool' w d f.type a b hu]
          cases hab : (a == b)
          · simp
          · simp [ih]
        · cases h
      · rename_i a b hu hx hy
        split at h
        · rename_i r' hr
          simp only [Option.some.injEq] at h
          subst h
          have ha : aggB P f.type = some false := by unfold aggB; rw [hu]
          have ih := eqF_run (d := d) hr
          simp only [Op.eqFields, hn', ne_eq, not_false_eq_true, if_true, Sem.run_bind, run_part1 ha hx, run_part1 ha hy, Result.andThen_ok, run_equalIn_string w d f.type a b hu, ← beq_toListBytes]
          cases hab : (a == b)
          · simp
          · simp [ih]
        · cases h
      · cases h
    · rw [hn] at h; simp at h
theorem eqS_run {t : TypeId} {xs ys : Array Value} {r : Bool} (h : eqS P t xs ys = some r) : (Op.equalIn 10000 t (.agg xs) (.agg ys)).run P w = .ok r w ∧ ∀ op X Y, (eqGuard op t X Y (.agg xs) (.agg ys)).run P w = .ok () w := by
  unfold eqS at h
  split at h
  · rename_i fs hu
    cases hb : (P.stoodInHeld t || P.eqGuardType P.depth t)
    · rw [hb] at h
      simp only [cond_false] at h
      simp only [Bool.or_eq_false_iff] at hb
      have hf : P.fieldsOf t = fs := by unfold Program.fieldsOf; rw [hu]
      refine ⟨?_, fun op X Y => run_eqGuard_agg w op t X Y xs ys hb.2⟩
      rw [run_equalIn_agg w 9999 t xs ys (by rw [hf]; exact hu) hb.1, hf]
      exact eqF_run h
    · rw [hb] at h; simp at h
  · cases h
theorem run_eql_S {t : TypeId} {X Y : Operand} {xs ys : Array Value} {r : Bool} (h : eqS P t xs ys = some r) : (do eqGuard .eql t X Y (.agg xs) (.agg ys); binOp .eql t (.agg xs) (.agg ys) : Sem Value).run P w = .ok (.bool r) w := by
  obtain ⟨h1, h2⟩ := eqS_run (w := w) h
  simp only [Sem.run_bind, h2, Result.andThen_ok, run_eql_struct, h1]
theorem run_neq_S {t : TypeId} {X Y : Operand} {xs ys : Array Value} {r : Bool} (h : eqS P t xs ys = some r) : (do eqGuard .neq t X Y (.agg xs) (.agg ys); binOp .neq t (.agg xs) (.agg ys) : Sem Value).run P w = .ok (.bool (!r)) w := by
  obtain ⟨h1, h2⟩ := eqS_run (w := w) h
  simp only [Sem.run_bind, h2, Result.andThen_ok, run_neq_struct, h1]
end
end Go.Tw
