/- The walk's own words: sparse environments of slots, pure stretches reckoned by the kernel, tracked memory. Over any program. -/
import Derived.WalkKit
import Derived.OrdersHeld
import Derived.KernelRfl
namespace Go.Tw
set_option linter.unusedSimpArgs false
set_option linter.unusedVariables false
set_option linter.unusedSectionVars false
open Go.RowKit

/-! ### slots -/
abbrev Env := List (Nat × Value)
def get : Env → Nat → Option Value
  | [], _ => none
  | (k, v) :: r, t => bif Nat.beq k t then some v else get r t
def opnd (E : Env) : Operand → Option Value
  | .tmp t => get E t
  | .const v => some v
  | .global g => some (.pointer (some ⟨g, 0, none⟩))
  | .func f => some (.func (.func f) #[] #[])
def rho (E : Env) (x : Operand) : Value := (opnd E x).getD undef
structure Ag (n : Nat) (E : Env) (a : Act) : Prop where
  defers : a.defers = []
  size : a.tmps.size = n
  vals : ∀ t v, get E t = some v → a.tmps[t]? = some v

theorem beq_iff (k t : Nat) : Nat.beq k t = decide (k = t) := by
  by_cases h : k = t
  · subst h; simp
  · simp only [h, decide_false]
    cases hb : Nat.beq k t
    · rfl
    · exact absurd (Nat.eq_of_beq_eq_true hb) h
theorem Ag.put {n d : Nat} {E : Env} {a : Act} (h : Ag n E a) (hd : d < n) (v : Value) : Ag n ((d, v) :: E) (a.put (some d) v) := by
  refine ⟨h.defers, by simp [Act.put, h.size], fun t u hu => ?_⟩
  simp only [get, beq_iff] at hu
  by_cases e : d = t
  · subst e
    simp at hu
    subst hu
    simp [Act.put, h.size, hd]
  · simp [e] at hu
    simp only [Act.put]
    rw [Array.getElem?_setIfInBounds_ne e]
    exact h.vals t u hu
theorem Ag.eval {n : Nat} {E : Env} {a : Act} (h : Ag n E a) {x : Operand} {v : Value} (hx : opnd E x = some v) : a.eval x = v := by
  cases x with
  | tmp t => simp only [opnd] at hx; simp [Act.eval, h.vals t v hx, Array.getD_eq_getD_getElem?]
  | const u => simpa [opnd, Act.eval] using hx
  | global g => simpa [opnd, Act.eval] using hx
  | func f => simpa [opnd, Act.eval] using hx
theorem Ag.weaken {n : Nat} {E E' : Env} {a : Act} (h : Ag n E a) (hs : ∀ t v, get E' t = some v → get E t = some v) : Ag n E' a :=
  ⟨h.defers, h.size, fun t v ht => h.vals t v (hs t v ht)⟩

def noSel : Op → Bool | .select _ _ => false | _ => true
def known (E : Env) (op : Op) : Bool := noSel op && op.operands.toList.all fun x => (opnd E x).isSome
theorem Ag.exec {n : Nat} {E : Env} {a : Act} (h : Ag n E a) (o : Oper) (hk : known E o.op = true) : execOp a.eval o = execOp (rho E) o := by
  simp only [known, Bool.and_eq_true, List.all_eq_true] at hk
  refine execOp_congr o (fun cs b e => by rw [e] at hk; simp [noSel] at hk) fun x hx => ?_
  obtain ⟨v, hv⟩ := Option.isSome_iff_exists.1 (hk.2 x (by simpa using hx))
  rw [h.eval hv, rho, hv]; rfl
/-- is the operation wanted: none, if that is not known -/
def wantE (ops : Array Oper) (E : Env) (o : Oper) : Option Bool :=
  match o.guard with
  | none => some true
  | some (j, b) => match ops[j]? with
    | none => none
    | some oj => match oj.dst with
      | none => none
      | some d => match get E d with
        | some (.bool c) => some (bif c then b else !b)
        | some (.tuple _) => some false
        | _ => none
theorem Ag.want {n : Nat} {E : Env} {a : Act} {ops : Array Oper} {o : Oper} {b : Bool} (h : Ag n E a) (hw : wantE ops E o = some b) : Region.wanted o (yielded ops a.tmps) = b := by
  unfold wantE at hw
  unfold Region.wanted
  split at hw
  · rename_i hg; rw [hg]; simpa using hw
  · rename_i j c hg
    rw [hg]
    simp only
    split at hw
    · cases hw
    · rename_i oj ho
      split at hw
      · cases hw
      · rename_i d hd
        split at hw
        · rename_i c' he
          have := h.vals _ _ he
          simp [yielded, ho, hd, this]
          cases c' <;> cases c <;> simp_all
        · rename_i vs he
          have := h.vals _ _ he
          simp [yielded, ho, hd, this]
          simpa using hw
        · cases hw

/-! ### a stretch of operations, reckoned -/
def stepE (P : Program) (n : Nat) (ops : Array Oper) (i : Nat) (E : Env) (w : World) : Option (Env × World) :=
  match ops[i]? with
  | none => none
  | some o => match wantE ops E o with
    | none => none
    | some false => match o.dst with
      | some d => bif Nat.blt d n then some ((d, undef) :: E, w) else none
      | none => some (E, w)
    | some true => bif known E o.op then
        match (execOp (rho E) o).run P w with
        | .ok (.value v) w' => match o.dst with
          | some d => bif Nat.blt d n then some ((d, v) :: E, w') else none
          | none => some (E, w')
        | .ok .skip w' => match o.dst with
          | some d => bif Nat.blt d n then some ((d, undef) :: E, w') else none
          | none => some (E, w')
        | _ => none
      else none
def runE (P : Program) (n : Nat) (ops : Array Oper) : Nat → Nat → Env → World → Option (Env × World)
  | 0, _, E, w => some (E, w)
  | k + 1, i, E, w => match stepE P n ops i E w with
    | some (E', w') => runE P n ops k (i + 1) E' w'
    | none => none

def WL (P : Program) (n : Nat) (ops : Array Oper) (Q : Exit → Act → World → Prop) (i : Nat) (E : Env) (w : World) : Prop :=
  ∀ a, Ag n E a → wpList P ops Q (ops.toList.drop i) a w
def QX (n : Nat) (Q : Exit → Act → World → Prop) (e : Exit) (E : Env) (w : World) : Prop := ∀ a, Ag n E a → Q e a w

section
variable {P : Program} {n : Nat} {ops : Array Oper} {Q : Exit → Act → World → Prop} {i : Nat} {E E' : Env} {w w' : World}
theorem drop_at {o : Oper} (h : ops[i]? = some o) : ops.toList.drop i = o :: ops.toList.drop (i + 1) := by
  obtain ⟨hi, rfl⟩ := Array.getElem?_eq_some_iff.1 h
  rw [List.drop_eq_getElem_cons (by simpa using hi)]
  simp
/-- the putting of a result, whatever the place -/
def putE (E : Env) (d : Option Nat) (v : Value) : Env := match d with | some d => (d, v) :: E | none => E
theorem Ag.putE {a : Act} (h : Ag n E a) {d : Option Nat} (hd : ∀ x, d = some x → x < n) (v : Value) : Ag n (Tw.putE E d v) (a.put d v) := by
  cases d with
  | none => exact h
  | some x => exact h.put (hd x rfl) v
theorem WL.upon {o : Oper} (ho : ops[i]? = some o) (hw : wantE ops E o = some true) (hk : known E o.op = true)
    (h : ∀ a, Ag n E a → o.upon P a (wpList P ops Q (ops.toList.drop (i + 1))) Q ((execOp (rho E) o).run P w)) : WL P n ops Q i E w := by
  intro a ha
  rw [drop_at ho, wpList, ha.want hw]
  refine .inl ?_
  unfold Oper.wp
  rw [ha.exec o hk]
  exact h a ha
theorem WL.skip {o : Oper} (ho : ops[i]? = some o) (hw : wantE ops E o = some false) (hd : ∀ x, o.dst = some x → x < n)
    (h : WL P n ops Q (i + 1) (Tw.putE E o.dst undef) w) : WL P n ops Q i E w := by
  intro a ha
  rw [drop_at ho, wpList, ha.want hw]
  exact h _ (ha.putE hd undef)
theorem WL.value {o : Oper} {v : Value} (ho : ops[i]? = some o) (hw : wantE ops E o = some true) (hk : known E o.op = true) (hd : ∀ x, o.dst = some x → x < n)
    (hr : (execOp (rho E) o).run P w = .ok (.value v) w') (h : WL P n ops Q (i + 1) (Tw.putE E o.dst v) w') : WL P n ops Q i E w :=
  WL.upon ho hw hk fun a ha => by rw [hr]; exact h _ (ha.putE hd v)
theorem WL.unit {o : Oper} (ho : ops[i]? = some o) (hw : wantE ops E o = some true) (hk : known E o.op = true) (hd : ∀ x, o.dst = some x → x < n)
    (hr : (execOp (rho E) o).run P w = .ok .skip w') (h : WL P n ops Q (i + 1) (Tw.putE E o.dst undef) w') : WL P n ops Q i E w :=
  WL.upon ho hw hk fun a ha => by rw [hr]; exact h _ (ha.putE hd undef)
theorem lt_of_blt {d n : Nat} (h : Nat.blt d n = true) : d < n := by simpa [Nat.blt_eq] using h
theorem WL.step (hs : stepE P n ops i E w = some (E', w')) (h : WL P n ops Q (i + 1) E' w') : WL P n ops Q i E w := by
  unfold stepE at hs
  split at hs
  · cases hs
  · rename_i o ho
    split at hs
    · cases hs
    · rename_i hw
      have key : (∀ x, o.dst = some x → x < n) ∧ (Tw.putE E o.dst undef, w) = (E', w') := by
        cases hd : o.dst with
        | none => rw [hd] at hs; exact ⟨(fun _ h => nomatch h), by simpa [Tw.putE] using hs⟩
        | some d =>
          rw [hd] at hs
          simp only at hs
          cases hb : Nat.blt d n
          · rw [hb] at hs; simp at hs
          · rw [hb] at hs; exact ⟨fun x hx => by cases hx; exact lt_of_blt hb, by simpa [Tw.putE] using hs⟩
      obtain ⟨hdst, he⟩ := key
      cases he
      exact WL.skip ho hw hdst h
    · rename_i hw
      cases hk : known E o.op
      · rw [hk] at hs; simp at hs
      · rw [hk] at hs
        simp only [cond_true] at hs
        split at hs
        · rename_i v w1 hr
          have key : (∀ x, o.dst = some x → x < n) ∧ (Tw.putE E o.dst v, w1) = (E', w') := by
            cases hd : o.dst with
            | none => rw [hd] at hs; exact ⟨(fun _ h => nomatch h), by simpa [Tw.putE] using hs⟩
            | some d =>
              rw [hd] at hs
              simp only at hs
              cases hb : Nat.blt d n
              · rw [hb] at hs; simp at hs
              · rw [hb] at hs; exact ⟨fun x hx => by cases hx; exact lt_of_blt hb, by simpa [Tw.putE] using hs⟩
          obtain ⟨hdst, he⟩ := key
          cases he
          exact WL.value ho hw hk hdst hr h
        · rename_i w1 hr
          have key : (∀ x, o.dst = some x → x < n) ∧ (Tw.putE E o.dst undef, w1) = (E', w') := by
            cases hd : o.dst with
            | none => rw [hd] at hs; exact ⟨(fun _ h => nomatch h), by simpa [Tw.putE] using hs⟩
            | some d =>
              rw [hd] at hs
              simp only at hs
              cases hb : Nat.blt d n
              · rw [hb] at hs; simp at hs
              · rw [hb] at hs; exact ⟨fun x hx => by cases hx; exact lt_of_blt hb, by simpa [Tw.putE] using hs⟩
          obtain ⟨hdst, he⟩ := key
          cases he
          exact WL.unit ho hw hk hdst hr h
        · cases hs
/-- k operations, reckoned by the kernel -/
theorem WL.run (k : Nat) : ∀ {i : Nat} {E : Env} {w : World}, runE P n ops k i E w = some (E', w') → WL P n ops Q (i + k) E' w' → WL P n ops Q i E w := by
  induction k with
  | zero => intro i E w hr h; simp only [runE, Option.some.injEq, Prod.mk.injEq] at hr; obtain ⟨rfl, rfl⟩ := hr; exact h
  | succ k ih =>
    intro i E w hr h
    simp only [runE] at hr
    split at hr
    · rename_i E1 w1 hs
      exact WL.step hs (ih hr (by rw [Nat.add_assoc, Nat.add_comm 1 k]; exact h))
    · cases hr
theorem WLr (k : Nat) (new : Env) (hr : ∀ w, runE P n ops k i E w = some (new ++ E, w)) (h : WL P n ops Q (i + k) (new ++ E) w) : WL P n ops Q i E w := WL.run k (hr w) h
theorem WLq (k : Nat) (new : Env) (h : WL P n ops Q (i + k) (new ++ E) w) (hr : ∀ w, runE P n ops k i E w = some (new ++ E, w) := by intro _; kernel_rfl) : WL P n ops Q i E w := WLr k new hr h
/-- .. where of what is reckoned only what is wanted later is told -/
theorem runE_app : ∀ (k i : Nat) (E : Env) (w : World) (E' : Env) (w' : World), runE P n ops k i E w = some (E', w') → ∃ A, E' = A ++ E
  | 0, _, E, _, _, _, h => by simp only [runE, Option.some.injEq, Prod.mk.injEq] at h; exact ⟨[], h.1.symm⟩
  | k + 1, i, E, w, E', w', h => by
    unfold runE at h
    split at h
    · rename_i E1 w1 hs
      obtain ⟨A, rfl⟩ := runE_app k (i + 1) E1 w1 E' w' h
      have h1 : ∃ B, E1 = B ++ E := by
        unfold stepE at hs
        split at hs
        · cases hs
        · split at hs
          · cases hs
          · split at hs
            · cases hb : Nat.blt _ n <;> rw [hb] at hs <;> simp at hs
              exact ⟨[_], hs.1.symm⟩
            · simp at hs; exact ⟨[], hs.1.symm⟩
          · cases hk : known E _ <;> rw [hk] at hs <;> simp only [cond_true, cond_false] at hs
            · cases hs
            · split at hs
              · split at hs
                · cases hb : Nat.blt _ n <;> rw [hb] at hs <;> simp at hs
                  exact ⟨[_], hs.1.symm⟩
                · simp at hs; exact ⟨[], hs.1.symm⟩
              · split at hs
                · cases hb : Nat.blt _ n <;> rw [hb] at hs <;> simp at hs
                  exact ⟨[_], hs.1.symm⟩
                · simp at hs; exact ⟨[], hs.1.symm⟩
              · cases hs
      obtain ⟨B, rfl⟩ := h1
      exact ⟨A ++ B, by rw [List.append_assoc]⟩
    · cases h
def runZ (P : Program) (n : Nat) (ops : Array Oper) (k i : Nat) (E : Env) (w : World) (ks : List Nat) : Option (List (Option Value) × World) :=
  match runE P n ops k i E w with
  | some (E', w') => bif (E'.take (E'.length - E.length)).all (fun p => ks.any (Nat.beq p.1) || (get E p.1).isNone) then some (ks.map (get E'), w') else none
  | none => none
theorem get_app_none {A E : Env} {t : Nat} (h : ∀ p ∈ A, p.1 ≠ t) : get (A ++ E) t = get E t := by
  induction A with
  | nil => rfl
  | cons p r ih =>
    have : Nat.beq p.1 t = false := by rw [beq_iff]; exact decide_eq_false (h p (by simp))
    simp only [List.cons_append, get, this, cond_false]
    exact ih fun q hq => h q (List.mem_cons_of_mem _ hq)
theorem get_app_or {A E : Env} {t : Nat} {v : Value} (h : get (A ++ E) t = some v) : (∃ p ∈ A, p.1 = t ∧ p.2 = v) ∨ ((∀ p ∈ A, p.1 ≠ t) ∧ get E t = some v) := by
  induction A with
  | nil => exact .inr ⟨by simp, h⟩
  | cons p r ih =>
    simp only [List.cons_append, get, beq_iff] at h
    by_cases e : p.1 = t
    · simp [e] at h; exact .inl ⟨p, by simp, e, h⟩
    · simp [e] at h
      rcases ih h with ⟨q, hq, h1⟩ | ⟨h1, h2⟩
      · exact .inl ⟨q, List.mem_cons_of_mem _ hq, h1⟩
      · exact .inr ⟨fun q hq => by rcases List.mem_cons.1 hq with rfl | hq; exact e; exact h1 q hq, h2⟩
theorem WL.runz (k : Nat) (new : Env) (hr : ∀ w, runZ P n ops k i E w (new.map (·.1)) = some (new.map (fun p => some p.2), w)) (h : WL P n ops Q (i + k) (new ++ E) w) : WL P n ops Q i E w := by
  have h0 := hr w
  unfold runZ at h0
  split at h0
  · rename_i E' w' hrun
    cases hb : (E'.take (E'.length - E.length)).all (fun p => (new.map (·.1)).any (Nat.beq p.1) || (get E p.1).isNone) <;> rw [hb] at h0 <;> simp only [cond_true, cond_false] at h0
    · cases h0
    · simp only [Option.some.injEq, Prod.mk.injEq, List.map_map] at h0
      obtain ⟨h1, rfl⟩ := h0
      obtain ⟨A, rfl⟩ := runE_app k i E _ E' _ hrun
      rw [show (A ++ E).length - E.length = A.length by simp, List.take_left' rfl] at hb
      refine WL.run k hrun (fun a ha => h a (ha.weaken fun t v ht => ?_))
      rcases get_app_or ht with ⟨p, hp, rfl, rfl⟩ | ⟨h2, h3⟩
      · have := List.map_inj_left.1 h1 p hp; exact this
      · rw [get_app_none]
        · exact h3
        · intro q hq e
          have := List.all_eq_true.1 hb q hq
          rw [Bool.or_eq_true] at this
          rcases this with this | this
          · obtain ⟨x, hx, hx2⟩ := List.any_eq_true.1 this
            obtain ⟨p, hp, rfl⟩ := List.mem_map.1 hx
            exact h2 p hp ((Nat.eq_of_beq_eq_true hx2).symm.trans e)
          · rw [e, h3] at this; cases this
  · cases h0
theorem WLz (k : Nat) (new : Env) (h : WL P n ops Q (i + k) (new ++ E) w) (hr : ∀ w, runZ P n ops k i E w (new.map (·.1)) = some (new.map (fun p => some p.2), w) := by intro _; kernel_rfl) : WL P n ops Q i E w := WL.runz k new hr h
theorem WL.weaken (hs : ∀ t v, get E' t = some v → get E t = some v) (h : WL P n ops Q i E' w) : WL P n ops Q i E w := fun a ha => h a (ha.weaken hs)
/-- the head's slot holds what is the same by an equation -/
theorem WLt {d : Nat} {u v : Value} (he : u = v) (h : WL P n ops Q i ((d, v) :: E) w) : WL P n ops Q i ((d, u) :: E) w := by rw [he]; exact h
theorem WLd (hi : i = ops.size) (h : QX n Q .normal E w) : WL P n ops Q i E w := by
  intro a ha
  rw [List.drop_eq_nil_of_le (by simp [hi])]
  exact h a ha
theorem WLc {o : Oper} {f : FuncId} {args : Array Value} {R : Ending → World → Prop} {d : Nat} (ho : ops[i]? = some o) (hw : wantE ops E o = some true) (hk : known E o.op = true)
    (hdst : o.dst = some d) (hd : Nat.blt d n = true) (hr : (execOp (rho E) o).run P w = .ok (.enter f args) w') (hc : Calls P f args w' R)
    (h : ∀ e w2, R e w2 → ∃ v, e = .returned v ∧ WL P n ops Q (i + 1) ((d, v) :: E) w2) : WL P n ops Q i E w :=
  WL.upon ho hw hk fun a ha => by
    rw [hr]
    refine hc.mono fun e w2 hR => ?_
    obtain ⟨v, rfl, hv⟩ := h e w2 hR
    rw [hdst]
    exact hv _ (ha.put (lt_of_blt hd) v)
theorem WLk {o : Oper} {f : FuncId} {args : Array Value} {R : Ending → World → Prop} {d : Nat} (hc : Calls P f args w' R) (h : ∀ e w2, R e w2 → ∃ v, e = .returned v ∧ WL P n ops Q (i + 1) ((d, v) :: E) w2) (ho : ops[i]? = some o := by exact rfl) (hw : wantE ops E o = some true := by exact rfl) (hk : known E o.op = true := by exact rfl) (hdst : o.dst = some d := by exact rfl) (hd : Nat.blt d n = true := by exact rfl) (hr : (execOp (rho E) o).run P w = .ok (.enter f args) w' := by kernel_rfl) : WL P n ops Q i E w := WLc ho hw hk hdst hd hr hc h
end

theorem Ag.know {n : Nat} {E : Env} {a : Act} {d : Nat} {v : Value} (h : Ag n E a) (hd : get E d = some v) : Ag n ((d, v) :: E) a := by
  refine ⟨h.defers, h.size, fun t u hu => ?_⟩
  simp only [get, beq_iff] at hu
  by_cases e : d = t
  · subst e; simp at hu; subst hu; exact h.vals _ _ hd
  · simp [e] at hu; exact h.vals t u hu
theorem WLa {P : Program} {n : Nat} {ops : Array Oper} {Q : Exit → Act → World → Prop} {i : Nat} {E : Env} {w : World} (d : Nat) (b : Bool) (hd : get E d = some (.bool b)) (ht : b = true → WL P n ops Q i ((d, .bool true) :: E) w) (hf : b = false → WL P n ops Q i ((d, .bool false) :: E) w) : WL P n ops Q i E w := by
  cases b
  · exact fun a ha => hf rfl a (ha.know hd)
  · exact fun a ha => ht rfl a (ha.know hd)
theorem WL.know {P : Program} {n : Nat} {ops : Array Oper} {Q : Exit → Act → World → Prop} {i : Nat} {E : Env} {w : World} (d : Nat) (u v : Value) (hd : get E d = some u) (he : u = v) (h : WL P n ops Q i ((d, v) :: E) w) : WL P n ops Q i E w := by
  subst he; exact fun a ha => h a (ha.know hd)

/-! ### code -/
def WC (P : Program) (n : Nat) (c : Code) (Q : Exit → Act → World → Prop) (E : Env) (w : World) : Prop := ∀ a, Ag n E a → c.wp P Q a w
section
variable {P : Program} {n : Nat} {Q : Exit → Act → World → Prop} {E E' : Env} {w w' : World}
theorem WC.weaken {c : Code} (hs : ∀ t v, get E' t = some v → get E t = some v) (h : WC P n c Q E' w) : WC P n c Q E w := fun a ha => h a (ha.weaken hs)
theorem WCg {id : Nat} {ops : Array Oper} (h : WL P n ops Q 0 E w) : WC P n (.region id ops false) Q E w := fun a ha =>
  wp_region_list (by simpa using h a ha)
/-- what follows, behind a letter -/
theorem WCs {x y : Code} (h : ∀ K : Act → World → Prop, (∀ E' w', WC P n y Q E' w' → ∀ a, Ag n E' a → K a w') → WC P n x (Exit.then K Q) E w) : WC P n (.seq x y) Q E w := fun a ha =>
  wp_seq (h (fun a w => y.wp P Q a w) (fun _ _ hy a ha => hy a ha) a ha)
theorem QXn {K : Act → World → Prop} (h : ∀ a, Ag n E a → K a w) : QX n (Exit.then K Q) .normal E w := h
theorem QXe {K : Act → World → Prop} {id : Nat} (h : QX n Q (.exit id) E w) : QX n (Exit.then K Q) (.exit id) E w := h
theorem QXr {K : Act → World → Prop} (h : QX n Q .ret E w) : QX n (Exit.then K Q) .ret E w := h
theorem QXb {id : Nat} (h : QX n Q .normal E w) : QX n (Exit.inBlock id Q) .normal E w := h
theorem QXk {id : Nat} (h : QX n Q .ret E w) : QX n (Exit.inBlock id Q) .ret E w := h
theorem QX.block_hit {id : Nat} (h : QX n Q .normal E w) : QX n (Exit.inBlock id Q) (.exit id) E w := fun a ha => by simp only [Exit.inBlock, if_true]; exact h a ha
theorem QX.block_miss {id j : Nat} (hne : j ≠ id) (h : QX n Q (.exit j) E w) : QX n (Exit.inBlock id Q) (.exit j) E w := fun a ha => by simp only [Exit.inBlock, hne, if_false]; exact h a ha
theorem WC.skip (h : QX n Q .normal E w) : WC P n .skip Q E w := fun a ha => wp_skip (h a ha)
theorem WC.ret (h : QX n Q .ret E w) : WC P n .ret Q E w := fun a ha => wp_ret (h a ha)
theorem WC.exit {id : Nat} (h : QX n Q (.exit id) E w) : WC P n (.exit id) Q E w := fun a ha => wp_exit (h a ha)
theorem WC.block {id : Nat} {c : Code} (h : WC P n c (Exit.inBlock id Q) E w) : WC P n (.block id c) Q E w := fun a ha => wp_block (h a ha)
theorem WCt {c : Operand} {x y : Code} (hc : opnd E c = some (.bool true)) (h : WC P n x Q E w) : WC P n (.cond c x y) Q E w := fun a ha => wp_cond_true (ha.eval hc) (h a ha)
theorem WCf {c : Operand} {x y : Code} (hc : opnd E c = some (.bool false)) (h : WC P n y Q E w) : WC P n (.cond c x y) Q E w := fun a ha => wp_cond_false (ha.eval hc) (h a ha)
theorem WCa {c : Code} (d : Nat) (b : Bool) (hd : get E d = some (.bool b)) (ht : b = true → WC P n c Q ((d, .bool true) :: E) w) (hf : b = false → WC P n c Q ((d, .bool false) :: E) w) : WC P n c Q E w := by
  cases b
  · exact fun a ha => hf rfl a (ha.know hd)
  · exact fun a ha => ht rfl a (ha.know hd)
theorem WC.know {c : Code} (d : Nat) (u v : Value) (hd : get E d = some u) (he : u = v) (h : WC P n c Q ((d, v) :: E) w) : WC P n c Q E w := by
  subst he; exact fun a ha => h a (ha.know hd)
theorem QX.weaken {e : Exit} (hs : ∀ t v, get E' t = some v → get E t = some v) (h : QX n Q e E' w) : QX n Q e E w := fun a ha => h a (ha.weaken hs)

/-- a loop: a relation with a number that falls -/
theorem wp_loop_ghost {c : Code} {a : Act} (I : Nat → Act → World → Prop) (h₀ : ∃ m, I m a w)
    (round : ∀ m a w, I m a w → c.wp P (Exit.then (fun a' w' => ∃ m', m' < m ∧ I m' a' w') Q) a w) : (Code.loop c).wp P Q a w := by
  intro b k cs
  have key : ∀ m a w, I m a w → ∃ e a' w', Q e a' w' ∧ Arrives P (lone (b.at a (.code c :: .inLoop c :: k)) cs w) b k cs e a' w' := by
    intro m
    induction m using Nat.strongRecOn with
    | _ m ih =>
      intro a w hI
      obtain ⟨e, a₁, w₁, hq, harr⟩ := round m a w hI b (.inLoop c :: k) cs
      cases e with
      | normal =>
        obtain ⟨m', hlt, hI₁⟩ := hq
        obtain ⟨e₂, a₂, w₂, hq₂, harr₂⟩ := ih m' hlt a₁ w₁ hI₁
        exact ⟨e₂, a₂, w₂, hq₂, .of_steps (Steps.trans harr (.one step_inLoop)) harr₂⟩
      | exit id => exact ⟨_, a₁, w₁, hq, .pass (x := .inLoop c) rfl (fun _ _ => .inl (by simp)) harr⟩
      | goto l => exact ⟨_, a₁, w₁, hq, .pass (x := .inLoop c) rfl (fun _ _ => .inl (by simp)) harr⟩
      | ret => exact ⟨_, a₁, w₁, hq, .pass (x := .inLoop c) rfl (fun _ _ => .inl (by simp)) harr⟩
      | panic ch => exact ⟨_, a₁, w₁, hq, .pass (x := .inLoop c) rfl (fun _ _ => .inl (by simp)) harr⟩
      | outgrown => exact ⟨_, a₁, w₁, hq, .pass (x := .inLoop c) rfl (fun _ _ => .inl (by simp)) harr⟩
  obtain ⟨m, hI⟩ := h₀
  obtain ⟨e, a', w', hq, harr⟩ := key m a w hI
  exact ⟨e, a', w', hq, .of_steps (.one step_loop) harr⟩
/-- in the walk's words: I says which slots are known, in which world -/
theorem WC.loop {c : Code} (I : Nat → Env → World → Prop) (h₀ : ∃ m E₀, I m E₀ w ∧ ∀ t v, get E₀ t = some v → get E t = some v)
    (round : ∀ m E w (K : Act → World → Prop), (∀ m' E' w', m' < m → I m' E' w' → ∀ a, Ag n E' a → K a w') → I m E w → WC P n c (Exit.then K Q) E w) : WC P n (.loop c) Q E w := by
  intro a ha
  obtain ⟨m, E₀, hI, hs⟩ := h₀
  refine wp_loop_ghost (fun m a w => ∃ E, I m E w ∧ Ag n E a) ⟨m, E₀, hI, ha.weaken hs⟩ ?_
  rintro m a w ⟨E, hI, ha⟩
  exact round m E w (fun a' w' => ∃ m', m' < m ∧ ∃ E, I m' E w' ∧ Ag n E a') (fun m' E' w' hm hI a ha => ⟨m', hm, E', hI, ha⟩) hI a ha
end

/-! ### functions -/
def args0 : Nat → List Value → Env
  | _, [] => []
  | i, v :: r => (i, v) :: args0 (i + 1) r
theorem get_args0 : ∀ (l : List Value) (i t : Nat) (v : Value), get (args0 i l) t = some v → i ≤ t ∧ l[t - i]? = some v
  | [], _, _, _, h => by cases h
  | u :: l, i, t, v, h => by
    simp only [args0, get, beq_iff] at h
    by_cases e : i = t
    · subst e; simp at h; subst h; simp
    · simp [e] at h
      obtain ⟨h1, h2⟩ := get_args0 l (i + 1) t v h
      refine ⟨by omega, ?_⟩
      rw [show t - i = (t - (i + 1)) + 1 from by omega]
      simpa using h2
/-- the results, read off the slots -/
def resE (E : Env) : List ResultVar → Option (List Value)
  | [] => some []
  | .tmp t :: r => match get E t, resE E r with
    | some v, some vs => some (v :: vs)
    | _, _ => none
  | .cell _ _ :: _ => none
def shut : List Value → Value
  | [v] => v
  | vs => .tuple vs.toArray
theorem resE_map {n : Nat} {E : Env} {a : Act} (ha : Ag n E a) (g : ResultVar → Sem Value) (hg : ∀ t, g (.tmp t) = pure (a.tmps.getD t undef)) : ∀ (l : List ResultVar) (vs : List Value), resE E l = some vs → l.mapM g = pure vs := by
  intro l
  induction l with
  | nil => intro vs h; simp only [resE, Option.some.injEq] at h; subst h; rfl
  | cons x l ih =>
    intro vs h
    cases x with
    | cell _ _ => cases h
    | tmp t =>
      simp only [resE] at h
      split at h
      · rename_i v vs' hv hvs
        simp only [Option.some.injEq] at h
        subst h
        rw [List.mapM_cons, ih vs' hvs, hg]
        simp only [Array.getD_eq_getD_getElem?, ha.vals t v hv, Option.getD_some]
        rfl
      · cases h
theorem resE_run {P : Program} {n : Nat} {E : Env} {a : Act} {w : World} {fn : Func} {vs : List Value} (ha : Ag n E a) (h : resE E fn.results.toList = some vs) :
    (results fn a.tmps).run P w = .ok (shut vs) w := by
  unfold results
  rw [Array.mapM_eq_mapM_toList, resE_map ha _ (fun _ => rfl) _ _ h]
  match vs with
  | [] => rfl
  | [v] => rfl
  | _ :: _ :: _ => rfl
theorem enter {P : Program} {f : FuncId} {fn : Func} {c : Code} {args : Array Value} {w : World} {R : Ending → World → Prop} (n : Nat)
    (hf : P.funcs[f]? = some fn) (hb : fn.body = some c) (hn : fn.ntmps = n) (hsz : args.size ≤ n)
    (h : ∀ Q : Exit → Act → World → Prop, (∀ E w' vs, resE E fn.results.toList = some vs → R (.returned (shut vs)) w' → QX n Q .ret E w' ∧ QX n Q .normal E w') →
      (∀ E w' v, (∀ a, Ag n E a → (results fn a.tmps).run P w' = .ok v w') → R (.returned v) w' → QX n Q .ret E w' ∧ QX n Q .normal E w') →
      WC P n c Q (args0 0 args.toList) w) : Calls P f args w R := by
  refine calls_of_wp hf hb (h (bodyPost P fn R) ?_ ?_ _ ?_)
  · intro E w' vs hvs hR
    exact ⟨fun a ha => ⟨ha.defers, _, resE_run ha hvs, hR⟩, fun a ha => ⟨ha.defers, _, resE_run ha hvs, hR⟩⟩
  · intro E w' v hv hR
    exact ⟨fun a ha => ⟨ha.defers, _, hv a ha, hR⟩, fun a ha => ⟨ha.defers, _, hv a ha, hR⟩⟩
  · refine ⟨rfl, by simp [hn]; omega, fun t v ht => ?_⟩
    obtain ⟨_, h2⟩ := get_args0 _ _ _ _ ht
    simp only [Nat.sub_zero] at h2
    have h3 : args[t]? = some v := by simpa using h2
    rw [Array.getElem?_append_left (Array.getElem?_eq_some_iff.1 h3).1]
    exact h3
abbrev I6 (n : Int) : Value := .int .i64 n
abbrev U4 (n : Int) : Value := .int .u32 n
abbrev P0 (b o : Nat) : Value := .pointer (some ⟨b, o, none⟩)
end Go.Tw
