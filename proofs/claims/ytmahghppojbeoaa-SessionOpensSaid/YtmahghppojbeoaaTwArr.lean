/- The walk's own words: arrays in variables; blocks whose cells are told by a list. Over any program. -/
import Derived.Test.YtmahghppojbeoaaTwSlice
namespace Go.Tw
set_option linter.unusedSimpArgs false
set_option linter.unusedVariables false
set_option linter.unusedSectionVars false
open Go.RowKit
section
variable {P : Program} {n : Nat} {ops : Array Oper} {Q : Exit → Act → World → Prop} {S : World → Prop} {i : Nat} {E E' : Env} {w w' w0 : World} {F0 : List Nat} {M : List (Nat × Obj)} {Fs : List (List Nat)} {fuel : Nat} {listed : Array Bool}
theorem own_count {α : Type} {enc : α → List Value} {base e sz nn : Nat} {v : Value} {ys : List α} (hl : ∀ x, (enc x).length = sz) (hz : 0 < sz) (h : w.ownsRow base e sz v nn (ys.flatMap enc)) : ys.length = nn := by
  have h1 := h.1
  rw [flat_len hl] at h1
  exact Nat.eq_of_mul_eq_mul_right hz h1
theorem blk_al {A : Option Addr} {n1 c1 n2 c2 : Nat} {F : List Nat} (h : ∀ x ∈ blk (.slice A n1 c1), x ∉ F) : ∀ x ∈ blk (.slice A n2 c2), x ∉ F := by
  cases A <;> exact h
theorem own_le {base e sz nn c : Nat} {A : Option Addr} {X : List Value} (h : w.ownsRow base e sz (.slice A nn c) nn X) : nn ≤ c := by
  obtain ⟨A', c', he, hle⟩ := own_form h
  simp at he; omega
theorem Rd.src_n {α : Type} {enc : α → List Value} {sz : Nat} {A : Option Addr} {Y : List α} (hr : Rd w sz enc A Y) (hl : ∀ x, (enc x).length = sz) (hsz : 0 < sz) {m : Nat} (hm : Y.length = m) : srcOk w A m (Y.flatMap enc) := by
  subst hm; exact hr.src_all hl hsz
theorem flat_len_n {α : Type} {enc : α → List Value} {sz : Nat} (hl : ∀ x, (enc x).length = sz) {xs : List α} {m : Nat} (hm : xs.length = m) : (xs.flatMap enc).length = m * sz := by
  subst hm; exact flat_len hl xs
theorem own_snoc {α : Type} {enc : α → List Value} {base e sz nn : Nat} {v : Value} {ys : List α} (x : α) (h : w.ownsRow base e sz v nn (ys.flatMap enc ++ enc x)) : w.ownsRow base e sz v nn ((ys ++ [x]).flatMap enc) := by simpa using h
theorem own_app {α : Type} {enc : α → List Value} {base e sz nn : Nat} {v : Value} {ys zs : List α} (h : w.ownsRow base e sz v nn (ys.flatMap enc ++ zs.flatMap enc)) : w.ownsRow base e sz v nn ((ys ++ zs).flatMap enc) := by simpa using h
theorem own_takeE {α : Type} {enc : α → List Value} {base e sz nn c m : Nat} {A : Option Addr} {ys : List α} (hl : ∀ x, (enc x).length = sz) (h : w.ownsRow base e sz (.slice A nn c) nn (ys.flatMap enc)) (hm : m ≤ nn) : w.ownsRow base e sz (.slice A m c) m ((ys.take m).flatMap enc) := by
  rw [← flat_take hl]; exact own_take h hm
theorem own_addr {α : Type} {enc : α → List Value} {base e sz nn c : Nat} {A : Option Addr} {ys : List α} (hz : 0 < sz) (hl : ∀ x, (enc x).length = sz) (h : w.ownsRow base e sz (.slice A nn c) nn (ys.flatMap enc)) {k : Nat} {x : α} (hx : ys[k]? = some x) : ∃ g, A = some ⟨g, 0, none⟩ := by
  have hk : k < ys.length := (List.getElem?_eq_some_iff.1 hx).1
  have := own_count hl hz h
  obtain ⟨g, cur, hA, _⟩ := own_blkd h (by omega)
  exact ⟨g, hA⟩
/-! ### arrays -/
def arrTy (P : Program) (t ln e sz : Nat) : Bool := match P.underlying t, P.info? e with
  | some (.array l e'), some i => Nat.beq l ln && Nat.beq e' e && Nat.beq i.size sz
  | _, _ => false
theorem arrTy_spec {t ln e sz : Nat} (h : arrTy P t ln e sz = true) : P.underlying t = some (.array ln e) ∧ ∃ i, P.info? e = some i ∧ i.size = sz := by
  unfold arrTy at h
  split at h
  · rename_i l e' i hu hi
    simp only [Bool.and_eq_true] at h
    obtain ⟨⟨h1, h2⟩, h3⟩ := h
    have := Nat.eq_of_beq_eq_true h1
    have := Nat.eq_of_beq_eq_true h2
    subst_vars
    exact ⟨hu, i, hi, Nat.eq_of_beq_eq_true h3⟩
  · cases h
/-- an element of an array that is a value -/
theorem run_idxA {α : Type} {enc : α → List Value} {ys : List α} {t ln e j : Nat} {k : IntKind} {jv : Int} {x : α} {v : Value} (hty : arrTy P t ln e 1 = true) (ha : aggB P e = some false) (hl : ∀ x, (enc x).length = 1) (hj : jv = (j : Int)) (hlt : j < ln) (hx : ys[j]? = some x) (hv : (enc x)[0]? = some v) :
    (Instr.index t (.agg (ys.flatMap enc).toArray) (.int k jv)).run P w = .ok v w := by
  subst hj
  obtain ⟨hu, inf, hi, hs⟩ := arrTy_spec hty
  have hsz : (sizeOf e).run P w = .ok 1 w := by unfold sizeOf; rw [Sem.run_bind]; simp [typeInfo, program, Sem.run, hi, hs]
  have hg := flat_get hl ys j x hx 0 v hv
  simp only [Nat.mul_one, Nat.add_zero] at hg
  unfold Instr.index
  simp [asIntOf, run_underlying hu, hlt, hsz, part, run_isAgg ha, hg]
theorem WL.indexA {α : Type} {enc : α → List Value} (ys : List α) (t ln e j : Nat) (k : IntKind) (jv : Int) (x : α) (v : Value) (d : Nat) (hty : arrTy P t ln e 1 = true) (ha : aggB P e = some false) (hl : ∀ x, (enc x).length = 1) (hq : opAtE n ops i E = some (some d, valOf (Instr.index t (.agg (ys.flatMap enc).toArray) (.int k jv)))) (hj : jv = (j : Int)) (hlt : j < ln) (hx : ys[j]? = some x) (hv : (enc x)[0]? = some v)
    (h : WL P n ops Q (i + 1) ((d, v) :: E) w) : WL P n ops Q i E w := WL.sem _ d _ hq (run_idxA hty ha hl hj hlt hx hv) h
/-! ### a tracked block whose cells are a list's -/
end
end Go.Tw
