/- Laws on a region that draws its order where two or three operations may come up at once: each of them is walked. Each holds without conditions beyond those that stand in it. -/
import Derived.Test.YtfligklljkcbfaaGreatDoorTwRng
namespace Go.Tw
set_option linter.unusedSimpArgs false
set_option linter.unusedVariables false
set_option linter.unusedSectionVars false
open Go.RowKit
def WO (P : Program) (n : Nat) (ops : Array Oper) (Q : Exit → Act → World → Prop) (S : World → Prop) (fuel : Nat) (listed : Array Bool) (i : Nat) (E : Env) (w : World) : Prop :=
  ∀ a, Ag n E a → wpOp P ops Q i (fun a' w' => S w' ∧ wpAnyH P .any ops Q S fuel (listed.setIfInBounds i true) a' w') a w
section
variable {P : Program} {n : Nat} {ops : Array Oper} {Q : Exit → Act → World → Prop} {S : World → Prop} {fuel : Nat} {listed : Array Bool} {E : Env} {w w' : World}
theorem WD.all2 (i j : Nat) (hr : Region.ready .any ops listed = [i, j]) (hi : WO P n ops Q S fuel listed i E w) (hj : WO P n ops Q S fuel listed j E w) : WD P n ops Q S (fuel + 1) listed E w := fun a ha =>
  wpAnyH_all hr (by simp) fun k hk => by
    simp only [List.mem_cons, List.not_mem_nil, or_false] at hk
    rcases hk with rfl | rfl
    · exact hi a ha
    · exact hj a ha
theorem WO.only (i : Nat) {o : Oper} (ho : ops[i]? = some o) (hw : wantE ops E o = some true) (hk : known E o.op = true)
    (h : ∀ a, Ag n E a → o.upon P a (fun a' w' => S w' ∧ wpAnyH P .any ops Q S fuel (listed.setIfInBounds i true) a' w') Q ((execOp (rho E) o).run P w)) : WO P n ops Q S fuel listed i E w := by
  intro a ha
  unfold wpOp
  simp only [ho, ha.want hw, if_true]
  refine .inl ?_
  unfold Oper.wp
  rw [ha.exec o hk]
  exact h a ha
theorem WO.call (i : Nat) (_hr : (0 : Nat) = 0) {o : Oper} {f : FuncId} {args : Array Value} {R : Ending → World → Prop} {d : Nat} (ho : ops[i]? = some o) (hw : wantE ops E o = some true) (hk : known E o.op = true)
    (hdst : o.dst = some d) (hd : Nat.blt d n = true) (hrun : (execOp (rho E) o).run P w = .ok (.enter f args) w') (hc : Calls P f args w' R)
    (h : ∀ e w2, R e w2 → ∃ v, e = .returned v ∧ S w2 ∧ WD P n ops Q S fuel (listed.setIfInBounds i true) ((d, v) :: E) w2) : WO P n ops Q S fuel listed i E w :=
  WO.only i ho hw hk fun a ha => by
    rw [hrun]
    refine hc.mono fun e w2 hR => ?_
    obtain ⟨v, rfl, hS, hv⟩ := h e w2 hR
    rw [hdst]
    exact ⟨hS, hv _ (ha.put (lt_of_blt hd) v)⟩
theorem WO.value (i : Nat) {o : Oper} {v : Value} (ho : ops[i]? = some o) (hw : wantE ops E o = some true) (hk : known E o.op = true) (hd : ∀ x, o.dst = some x → x < n)
    (hrun : (execOp (rho E) o).run P w = .ok (.value v) w') (hS : S w') (h : WD P n ops Q S fuel (listed.setIfInBounds i true) (putE E o.dst v) w') : WO P n ops Q S fuel listed i E w :=
  WO.only i ho hw hk fun a ha => by rw [hrun]; exact ⟨hS, h _ (ha.putE hd v)⟩
theorem WO.unit (i : Nat) {o : Oper} (ho : ops[i]? = some o) (hw : wantE ops E o = some true) (hk : known E o.op = true) (hd : ∀ x, o.dst = some x → x < n)
    (hrun : (execOp (rho E) o).run P w = .ok .skip w') (hS : S w') (h : WD P n ops Q S fuel (listed.setIfInBounds i true) (putE E o.dst undef) w') : WO P n ops Q S fuel listed i E w :=
  WO.only i ho hw hk fun a ha => by rw [hrun]; exact ⟨hS, h _ (ha.putE hd undef)⟩
theorem WO.new (i : Nat) (mk : Nat → Value) (o' : Obj) (_hr : (0 : Nat) = 0) {o : Oper} {d : Nat} (ho : ops[i]? = some o) (hw : wantE ops E o = some true) (hk : known E o.op = true) (hdst : o.dst = some d) (hd : Nat.blt d n = true)
    (hs : ∀ w, (execOp (rho E) o).run P w = .ok (.value (mk w.heap.size)) { w with heap := w.heap.push o' })
    (h : ∀ b w', w.heap.size ≤ b → b < w'.heap.size → Fr w w' [] → w'.heap[b]? = some o' → S w' ∧ WD P n ops Q S fuel (listed.setIfInBounds i true) ((d, mk b) :: E) w') : WO P n ops Q S fuel listed i E w :=
  WO.only i ho hw hk fun a ha => by
    rw [hs w]
    have h1 : (w.alloc o').heap[w.heap.size]? = some o' := by show (w.heap.push o')[w.heap.size]? = some o'; simp
    obtain ⟨h2, h3⟩ := h w.heap.size (w.alloc o') (Nat.le_refl _) (by simp) (.alloc w o') h1
    have h4 := h3 _ (ha.put (lt_of_blt hd) _)
    rw [← hdst] at h4
    exact ⟨h2, h4⟩
theorem WO.sem (i : Nat) (m : Sem Value) (d : Nat) (v : Value) (_hR : (0 : Nat) = 0) (hq : opAtE n ops i E = some (some d, valOf m)) (hr : m.run P w = .ok v w') (hS : S w') (h : WD P n ops Q S fuel (listed.setIfInBounds i true) ((d, v) :: E) w') : WO P n ops Q S fuel listed i E w := by
  obtain ⟨o, ho, hw, hk, hdst, hd, he⟩ := opAtE_spec hq
  refine WO.value i ho hw hk (fun x hx => hd x (hdst ▸ hx)) (by rw [he]; exact valOf_run hr) hS ?_
  rw [hdst]; exact h
theorem WOs (i d : Nat) {m : Sem Value} {v : Value} (hr : m.run P w = .ok v w') (hS : S w') (h : WD P n ops Q S fuel (listed.setIfInBounds i true) ((d, v) :: E) w') (hq : opAtE n ops i E = some (some d, valOf m) := by kernel_rfl) : WO P n ops Q S fuel listed i E w := WO.sem i m d v rfl hq hr hS h
theorem WO.semN (i : Nat) (m : Sem Value) (v : Value) (_hR : (0 : Nat) = 0) (hq : opAtE n ops i E = some (none, valOf m)) (hr : m.run P w = .ok v w') (hS : S w') (h : WD P n ops Q S fuel (listed.setIfInBounds i true) E w') : WO P n ops Q S fuel listed i E w := by
  obtain ⟨o, ho, hw, hk, hdst, hd, he⟩ := opAtE_spec hq
  refine WO.value i ho hw hk (fun x hx => hd x (hdst ▸ hx)) (by rw [he]; exact valOf_run hr) hS ?_
  rw [hdst]; exact h
theorem WO.semU (i : Nat) (m : Sem Unit) (_hR : (0 : Nat) = 0) (hq : opAtE n ops i E = some (none, actOf m)) (hr : m.run P w = .ok () w') (hS : S w') (h : WD P n ops Q S fuel (listed.setIfInBounds i true) E w') : WO P n ops Q S fuel listed i E w := by
  obtain ⟨o, ho, hw, hk, hdst, hd, he⟩ := opAtE_spec hq
  refine WO.unit i ho hw hk (fun x hx => hd x (hdst ▸ hx)) (by rw [he]; exact actOf_run hr) hS ?_
  rw [hdst]; exact h
theorem WOu (i : Nat) {m : Sem Unit} (hr : m.run P w = .ok () w') (hS : S w') (h : WD P n ops Q S fuel (listed.setIfInBounds i true) E w') (hq : opAtE n ops i E = some (none, actOf m) := by kernel_rfl) : WO P n ops Q S fuel listed i E w := WO.semU i m rfl hq hr hS h
end
end Go.Tw
