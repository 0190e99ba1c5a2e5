/- The walk's own words: arrays in variables; blocks whose cells are told by a list. Over any program. -/
import Derived.Test.YtfligklljkcbfaaGreatDoorTwSlice
namespace Go.Tw
set_option linter.unusedSimpArgs false
set_option linter.unusedVariables false
set_option linter.unusedSectionVars false
open Go.RowKit
section
variable {P : Program} {n : Nat} {ops : Array Oper} {Q : Exit → Act → World → Prop} {S : World → Prop} {i : Nat} {E E' : Env} {w w' w0 : World} {F0 : List Nat} {M : List (Nat × Obj)} {Fs : List (List Nat)} {fuel : Nat} {listed : Array Bool}
theorem own_count {α : Type} {enc : α → List Value} {base e sz nn : Nat} {v : Value} {ys : List α} (hl : ∀ x, (enc x).length = sz) (hz : 0 < sz) (h : w.ownsRow base e sz v nn (ys.flatMap enc)) : ys.length = nn := by
  have h1 := h.1
  rw [flat_len hl] at h1
  exact Nat.eq_of_mul_eq_mul_right hz h1
theorem own_le {base e sz nn c : Nat} {A : Option Addr} {X : List Value} (h : w.ownsRow base e sz (.slice A nn c) nn X) : nn ≤ c := by
  obtain ⟨A', c', he, hle⟩ := own_form h
  simp at he; omega
theorem Rd.src_n {α : Type} {enc : α → List Value} {sz : Nat} {A : Option Addr} {Y : List α} (hr : Rd w sz enc A Y) (hl : ∀ x, (enc x).length = sz) (hsz : 0 < sz) {m : Nat} (hm : Y.length = m) : srcOk w A m (Y.flatMap enc) := by
  subst hm; exact hr.src_all hl hsz
theorem flat_len_n {α : Type} {enc : α → List Value} {sz : Nat} (hl : ∀ x, (enc x).length = sz) {xs : List α} {m : Nat} (hm : xs.length = m) : (xs.flatMap enc).length = m * sz := by
  subst hm; exact flat_len hl xs
theorem own_snoc {α : Type} {enc : α → List Value} {base e sz nn : Nat} {v : Value} {ys : List α} (x : α) (h : w.ownsRow base e sz v nn (ys.flatMap enc ++ enc x)) : w.ownsRow base e sz v nn ((ys ++ [x]).flatMap enc) := by simpa using h
theorem own_app {α : Type} {enc : α → List Value} {base e sz nn : Nat} {v : Value} {ys zs : List α} (h : w.ownsRow base e sz v nn (ys.flatMap enc ++ zs.flatMap enc)) : w.ownsRow base e sz v nn ((ys ++ zs).flatMap enc) := by simpa using h
theorem own_addr {α : Type} {enc : α → List Value} {base e sz nn c : Nat} {A : Option Addr} {ys : List α} (hz : 0 < sz) (hl : ∀ x, (enc x).length = sz) (h : w.ownsRow base e sz (.slice A nn c) nn (ys.flatMap enc)) {k : Nat} {x : α} (hx : ys[k]? = some x) : ∃ g, A = some ⟨g, 0, none⟩ := by
  have hk : k < ys.length := (List.getElem?_eq_some_iff.1 hx).1
  have := own_count hl hz h
  obtain ⟨g, cur, hA, _⟩ := own_blkd h (by omega)
  exact ⟨g, hA⟩
/-! ### arrays -/
def arrTy (P : Program) (t ln e sz : Nat) : Bool := match P.underlying t, P.info? e with
  | some (.array l e'), some i => Nat.beq l ln && Nat.beq e' e && Nat.beq i.size sz
  | _, _ => false
theorem arrTy_spec {t ln e sz : Nat} (h : arrTy P t ln e sz = true) : P.underlying t = some (.array ln e) ∧ ∃ i, P.info? e = some i ∧ i.size = sz := by
  unfold arrTy at h
  split at h
  · rename_i l e' i hu hi
    simp only [Bool.and_eq_true] at h
    obtain ⟨⟨h1, h2⟩, h3⟩ := h
    have := Nat.eq_of_beq_eq_true h1
    have := Nat.eq_of_beq_eq_true h2
    subst_vars
    exact ⟨hu, i, hi, Nat.eq_of_beq_eq_true h3⟩
  · cases h
theorem run_idxP {t ln e sz b off j : Nat} {k : IntKind} {jv : Int} (hty : arrTy P t ln e sz = true) (hj : jv = (j : Int)) (hlt : j < ln) {o2 : Nat} (ho2 : off + j * sz = o2) : (Instr.indexAt t (.pointer (some ⟨b, off, none⟩)) (.int k jv)).run P w = .ok (.pointer (some ⟨b, o2, none⟩)) w := by
  subst hj ho2
  obtain ⟨hu, inf, hi, hs⟩ := arrTy_spec hty
  have hsz : (sizeOf e).run P w = .ok sz w := by unfold sizeOf; rw [Sem.run_bind]; simp [typeInfo, program, Sem.run, hi, hs]
  have h0 : (0 : Int) ≤ (j : Int) := by omega
  have hlt' : (j : Int) < (ln : Int) := by omega
  unfold Instr.indexAt
  simp [asIntOf, run_underlying hu, Instr.sureAddr, hlt, hsz, add_at]
theorem WL.indexP (t ln e sz b off j : Nat) (k : IntKind) (jv : Int) (d : Nat) (hty : arrTy P t ln e sz = true) (hq : opAtE n ops i E = some (some d, valOf (Instr.indexAt t (.pointer (some ⟨b, off, none⟩)) (.int k jv)))) (hj : jv = (j : Int)) (hlt : j < ln) (o2 : Nat) (ho2 : off + j * sz = o2)
    (h : WL P n ops Q (i + 1) ((d, .pointer (some ⟨b, o2, none⟩)) :: E) w) : WL P n ops Q i E w := WL.sem _ d _ hq (run_idxP hty hj hlt ho2) h
theorem WD.indexP (hN : NoPanic Q) (i : Nat) (t ln e sz b off j : Nat) (k : IntKind) (jv : Int) (d : Nat) (ht : takeB ops listed i = true) (hty : arrTy P t ln e sz = true) (hq : opAtE n ops i E = some (some d, valOf (Instr.indexAt t (.pointer (some ⟨b, off, none⟩)) (.int k jv)))) (hj : jv = (j : Int)) (hlt : j < ln) (o2 : Nat) (ho2 : off + j * sz = o2) (hS : S w)
    (h : WD P n ops Q S fuel (listed.setIfInBounds i true) ((d, .pointer (some ⟨b, o2, none⟩)) :: E) w) : WD P n ops Q S (fuel + 1) listed E w := WD.semP hN i _ d _ ht hq (fun _ _ => run_idxP hty hj hlt ho2) hS h
/-- an element of an array that is a value -/
theorem run_idxA {α : Type} {enc : α → List Value} {ys : List α} {t ln e j : Nat} {k : IntKind} {jv : Int} {x : α} {v : Value} (hty : arrTy P t ln e 1 = true) (ha : aggB P e = some false) (hl : ∀ x, (enc x).length = 1) (hj : jv = (j : Int)) (hlt : j < ln) (hx : ys[j]? = some x) (hv : (enc x)[0]? = some v) :
    (Instr.index t (.agg (ys.flatMap enc).toArray) (.int k jv)).run P w = .ok v w := by
  subst hj
  obtain ⟨hu, inf, hi, hs⟩ := arrTy_spec hty
  have hsz : (sizeOf e).run P w = .ok 1 w := by unfold sizeOf; rw [Sem.run_bind]; simp [typeInfo, program, Sem.run, hi, hs]
  have hg := flat_get hl ys j x hx 0 v hv
  simp only [Nat.mul_one, Nat.add_zero] at hg
  unfold Instr.index
  simp [asIntOf, run_underlying hu, hlt, hsz, part, run_isAgg ha, hg]
theorem WL.indexA {α : Type} {enc : α → List Value} (ys : List α) (t ln e j : Nat) (k : IntKind) (jv : Int) (x : α) (v : Value) (d : Nat) (hty : arrTy P t ln e 1 = true) (ha : aggB P e = some false) (hl : ∀ x, (enc x).length = 1) (hq : opAtE n ops i E = some (some d, valOf (Instr.index t (.agg (ys.flatMap enc).toArray) (.int k jv)))) (hj : jv = (j : Int)) (hlt : j < ln) (hx : ys[j]? = some x) (hv : (enc x)[0]? = some v)
    (h : WL P n ops Q (i + 1) ((d, v) :: E) w) : WL P n ops Q i E w := WL.sem _ d _ hq (run_idxA hty ha hl hj hlt hx hv) h
/-! ### a tracked block whose cells are a list's -/
theorem run_ldL {t b : Nat} {L : List Value} {T : TypeId} {fz : Nat × Nat} (h : w.heap[b]? = some (.cells L.toArray T fz)) (ht : aggB P t = some true) (hn : P.cellsOf t = L.length) : (Instr.loadAt t (.pointer (some ⟨b, 0, none⟩))).run P w = .ok (.agg L.toArray) w :=
  run_loadN ht (by simpa using hn) fun j hj => by rw [cell_blk h, Nat.zero_add]
theorem setMany_list : ∀ (l : List Value) (c : Array Value) (o : Nat), o + l.length ≤ c.size → (setMany c o l).toList = c.toList.take o ++ l ++ c.toList.drop (o + l.length) := by
  intro l
  induction l with
  | nil => intro c o _; simp [setMany]
  | cons x r ih =>
    intro c o ho
    simp only [setMany]
    rw [ih _ _ (by simp at ho ⊢; omega)]
    simp only [Array.toList_setIfInBounds, List.length_cons]
    have := list_seg_step c.toList o x r (by simp at ho ⊢; omega)
    simpa [Nat.add_assoc, Nat.add_comm 1] using this
end
end Go.Tw
