/- The walk's own words: any operation by its law; slices of slices, copies, stores into rows, rows out of what is read. Over any program. -/
import Derived.Test.YtfligklljkcbfaaGreatDoorTwRow
import Derived.Laws.CopyRow
import Derived.Laws.MakeOwn
import Derived.Lib.Overlaps
namespace Go.Tw
set_option linter.unusedSimpArgs false
set_option linter.unusedVariables false
set_option linter.unusedSectionVars false
open Go.RowKit

/-! ### any operation -/
def valOf (m : Sem Value) : Sem Next := do pure (.value (← m))
def actOf (m : Sem Unit) : Sem Next := do m; pure .skip
def opAtE (n : Nat) (ops : Array Oper) (i : Nat) (E : Env) : Option (Option Nat × Sem Next) :=
  match ops[i]? with
  | none => none
  | some o => match wantE ops E o with
    | some true => bif known E o.op then match o.dst with
        | some d => bif Nat.blt d n then some (some d, execOp (rho E) o) else none
        | none => some (none, execOp (rho E) o)
      else none
    | _ => none
section
variable {P : Program} {n : Nat} {ops : Array Oper} {Q : Exit → Act → World → Prop} {S : World → Prop} {i : Nat} {E E' : Env} {w w' w0 : World} {F0 : List Nat} {M : List (Nat × Obj)} {Fs : List (List Nat)} {fuel : Nat} {listed : Array Bool}
theorem opAtE_spec {d : Option Nat} {X : Sem Next} (h : opAtE n ops i E = some (d, X)) : ∃ o, ops[i]? = some o ∧ wantE ops E o = some true ∧ known E o.op = true ∧ o.dst = d ∧ (∀ x, d = some x → x < n) ∧ execOp (rho E) o = X := by
  unfold opAtE at h
  split at h
  · cases h
  · rename_i o ho
    split at h
    · rename_i hw
      cases hk : known E o.op
      · rw [hk] at h; simp at h
      · rw [hk] at h
        simp only [cond_true] at h
        split at h
        · rename_i d' hdst
          cases hb : Nat.blt d' n
          · rw [hb] at h; simp at h
          · rw [hb] at h
            simp only [cond_true, Option.some.injEq, Prod.mk.injEq] at h
            obtain ⟨rfl, rfl⟩ := h
            exact ⟨o, ho, hw, hk, hdst, fun x hx => by cases hx; exact lt_of_blt hb, rfl⟩
        · rename_i hdst
          simp only [Option.some.injEq, Prod.mk.injEq] at h
          obtain ⟨rfl, rfl⟩ := h
          exact ⟨o, ho, hw, hk, hdst, (fun x hx => by cases hx), rfl⟩
    · cases h
theorem valOf_run {m : Sem Value} {v : Value} (h : m.run P w = .ok v w') : (valOf m).run P w = .ok (.value v) w' := by
  unfold valOf; simp only [Sem.run_bind, h, Result.andThen_ok, Sem.run_pure]
theorem actOf_run {m : Sem Unit} (h : m.run P w = .ok () w') : (actOf m).run P w = .ok .skip w' := by
  unfold actOf; simp only [Sem.run_bind, h, Result.andThen_ok, Sem.run_pure]
theorem WL.sem (m : Sem Value) (d : Nat) (v : Value) (hq : opAtE n ops i E = some (some d, valOf m)) (hr : m.run P w = .ok v w') (h : WL P n ops Q (i + 1) ((d, v) :: E) w') : WL P n ops Q i E w := by
  obtain ⟨o, ho, hw, hk, hdst, hd, he⟩ := opAtE_spec hq
  refine WL.value ho hw hk (fun x hx => hd x (hdst ▸ hx)) (by rw [he]; exact valOf_run hr) ?_
  rw [hdst]; exact h
theorem WLS (d : Nat) {m : Sem Value} {v : Value} (hr : m.run P w = .ok v w') (h : WL P n ops Q (i + 1) ((d, v) :: E) w') (hq : opAtE n ops i E = some (some d, valOf m) := by kernel_rfl) : WL P n ops Q i E w := WL.sem m d v hq hr h
theorem WL.semN (m : Sem Value) (v : Value) (hq : opAtE n ops i E = some (none, valOf m)) (hr : m.run P w = .ok v w') (h : WL P n ops Q (i + 1) E w') : WL P n ops Q i E w := by
  obtain ⟨o, ho, hw, hk, hdst, hd, he⟩ := opAtE_spec hq
  refine WL.value ho hw hk (fun x hx => hd x (hdst ▸ hx)) (by rw [he]; exact valOf_run hr) ?_
  rw [hdst]; exact h
theorem WL.semU (m : Sem Unit) (hq : opAtE n ops i E = some (none, actOf m)) (hr : m.run P w = .ok () w') (h : WL P n ops Q (i + 1) E w') : WL P n ops Q i E w := by
  obtain ⟨o, ho, hw, hk, hdst, hd, he⟩ := opAtE_spec hq
  refine WL.unit ho hw hk (fun x hx => hd x (hdst ▸ hx)) (by rw [he]; exact actOf_run hr) ?_
  rw [hdst]; exact h
theorem WLU {m : Sem Unit} (hr : m.run P w = .ok () w') (h : WL P n ops Q (i + 1) E w') (hq : opAtE n ops i E = some (none, actOf m) := by kernel_rfl) : WL P n ops Q i E w := WL.semU m hq hr h
theorem WD.sem (i : Nat) (m : Sem Value) (d : Nat) (v : Value) (hR : Region.ready .any ops listed = [i]) (hq : opAtE n ops i E = some (some d, valOf m)) (hr : m.run P w = .ok v w') (hS : S w') (h : WD P n ops Q S fuel (listed.setIfInBounds i true) ((d, v) :: E) w') : WD P n ops Q S (fuel + 1) listed E w := by
  obtain ⟨o, ho, hw, hk, hdst, hd, he⟩ := opAtE_spec hq
  refine WD.value i hR ho hw hk (fun x hx => hd x (hdst ▸ hx)) (by rw [he]; exact valOf_run hr) hS ?_
  rw [hdst]; exact h
theorem WDs (i d : Nat) {m : Sem Value} {v : Value} (hr : m.run P w = .ok v w') (hS : S w') (h : WD P n ops Q S fuel (listed.setIfInBounds i true) ((d, v) :: E) w') (hR : Region.ready .any ops listed = [i] := by kernel_rfl) (hq : opAtE n ops i E = some (some d, valOf m) := by kernel_rfl) : WD P n ops Q S (fuel + 1) listed E w := WD.sem i m d v hR hq hr hS h
theorem WD.semN (i : Nat) (m : Sem Value) (v : Value) (hR : Region.ready .any ops listed = [i]) (hq : opAtE n ops i E = some (none, valOf m)) (hr : m.run P w = .ok v w') (hS : S w') (h : WD P n ops Q S fuel (listed.setIfInBounds i true) E w') : WD P n ops Q S (fuel + 1) listed E w := by
  obtain ⟨o, ho, hw, hk, hdst, hd, he⟩ := opAtE_spec hq
  refine WD.value i hR ho hw hk (fun x hx => hd x (hdst ▸ hx)) (by rw [he]; exact valOf_run hr) hS ?_
  rw [hdst]; exact h
theorem WD.semU (i : Nat) (m : Sem Unit) (hR : Region.ready .any ops listed = [i]) (hq : opAtE n ops i E = some (none, actOf m)) (hr : m.run P w = .ok () w') (hS : S w') (h : WD P n ops Q S fuel (listed.setIfInBounds i true) E w') : WD P n ops Q S (fuel + 1) listed E w := by
  obtain ⟨o, ho, hw, hk, hdst, hd, he⟩ := opAtE_spec hq
  refine WD.unit i hR ho hw hk (fun x hx => hd x (hdst ▸ hx)) (by rw [he]; exact actOf_run hr) hS ?_
  rw [hdst]; exact h
theorem WDu (i : Nat) {m : Sem Unit} (hr : m.run P w = .ok () w') (hS : S w') (h : WD P n ops Q S fuel (listed.setIfInBounds i true) E w') (hR : Region.ready .any ops listed = [i] := by kernel_rfl) (hq : opAtE n ops i E = some (none, actOf m) := by kernel_rfl) : WD P n ops Q S (fuel + 1) listed E w := WD.semU i m hR hq hr hS h
/-- what yields the same value in every world that meets S: taken first -/
theorem WD.semP (hN : NoPanic Q) (i : Nat) (m : Sem Value) (d : Nat) (v : Value) (ht : takeB ops listed i = true) (hq : opAtE n ops i E = some (some d, valOf m)) (hr : ∀ w, S w → m.run P w = .ok v w) (hS : S w)
    (h : WD P n ops Q S fuel (listed.setIfInBounds i true) ((d, v) :: E) w) : WD P n ops Q S (fuel + 1) listed E w := by
  obtain ⟨o, ho, hw, hk, hdst, hd, he⟩ := opAtE_spec hq
  refine WD.take_of hN i ht ho (fun x hx => hd x (hdst ▸ hx)) (v := v) (fun a ha => .inl ⟨ha.want hw, fun w hSw => by rw [ha.exec o hk, he]; exact valOf_run (hr w hSw)⟩) hS ?_
  rw [hdst]; exact h

/-! ### slices of slices -/
def sliceTy (P : Program) (t e sz : Nat) : Bool := match P.underlying t, P.info? e with
  | some (.slice e'), some i => Nat.beq e' e && Nat.beq i.size sz
  | _, _ => false
theorem sliceTy_spec {t e sz : Nat} (h : sliceTy P t e sz = true) : P.underlying t = some (.slice e) ∧ ∃ i, P.info? e = some i ∧ i.size = sz := by
  unfold sliceTy at h
  split at h
  · rename_i e' i hu hi
    simp only [Bool.and_eq_true] at h
    have := Nat.eq_of_beq_eq_true h.1
    subst this
    exact ⟨hu, i, hi, Nat.eq_of_beq_eq_true h.2⟩
  · cases h
/-- a bound: left out (then it is the last number), or a whole number -/
def bnd (o : Option Value) (dflt l : Nat) : Prop := (o = none ∧ l = dflt) ∨ ∃ k j, o = some (.int k j) ∧ j = (l : Int)
theorem bnd.no {d : Nat} : bnd none d d := .inl ⟨rfl, rfl⟩
theorem bnd.yes {k : IntKind} {j : Int} {d l : Nat} (h : j = (l : Int)) : bnd (some (.int k j)) d l := .inr ⟨k, j, rfl, h⟩
theorem run_bnd {k : IntKind} {l y : Nat} {code : BoundsCode} (h : l ≤ y) : (Instr.sliceBound (.int k (l : Int)) y code).run P w = .ok l w := by
  rw [run_sliceBound _ _ _ _ _ (by omega) (by omega)]; simp
def slcAt (A : Option Addr) (l c sz : Nat) : Option Addr := if c = l then A else A.map (·.add (l * sz))
theorem run_slc {t e sz : Nat} (hty : sliceTy P t e sz = true) {A : Option Addr} {n c l h : Nat} {lo hi : Option Value} (hlo : bnd lo 0 l) (hhi : bnd hi n h) (hlh : l ≤ h) (hhc : h ≤ c) :
    (Instr.sliceAt t (.slice A n c) lo hi none).run P w = .ok (.slice (slcAt A l c sz) (h - l) (c - l)) w := by
  obtain ⟨hu, inf, hi', hs⟩ := sliceTy_spec hty
  have hsz : (sizeOf e).run P w = .ok sz w := by unfold sizeOf; rw [Sem.run_bind]; simp [typeInfo, program, Sem.run, hi', hs]
  have hb : (Instr.sliceBounds true n c lo hi none).run P w = .ok (l, h, c) w := by
    unfold Instr.sliceBounds
    rcases hlo with ⟨rfl, rfl⟩ | ⟨kl, jl, rfl, rfl⟩ <;> rcases hhi with ⟨rfl, rfl⟩ | ⟨kh, jh, rfl, rfl⟩ <;> simp [run_bnd hlh, run_bnd hhc]
  simp [Instr.sliceAt, Instr.slice, run_underlying hu, hb, hsz, slcAt]
theorem slcAt_pre (A : Option Addr) (c sz : Nat) : slcAt A 0 c sz = A := by
  unfold slcAt
  split
  · rfl
  · cases A with
    | none => rfl
    | some a => obtain ⟨b, o, s⟩ := a; simp [Addr.add]
theorem slcAt_blk {b off l c sz o2 : Nat} (h : l < c) (ho : off + l * sz = o2) : slcAt (some ⟨b, off, none⟩) l c sz = some ⟨b, o2, none⟩ := by
  unfold slcAt; rw [if_neg (by omega)]; simp only [Option.map_some, add_at, ho]
theorem WL.slc (t e sz : Nat) (A A' : Option Addr) (nn c l h n' c' : Nat) (lo hi : Option Value) (d : Nat) (hty : sliceTy P t e sz = true) (hq : opAtE n ops i E = some (some d, valOf (Instr.sliceAt t (.slice A nn c) lo hi none)))
    (hlo : bnd lo 0 l) (hhi : bnd hi nn h) (hlh : l ≤ h) (hhc : h ≤ c) (hA : slcAt A l c sz = A') (hn : h - l = n') (hc : c - l = c') (k : WL P n ops Q (i + 1) ((d, .slice A' n' c') :: E) w) : WL P n ops Q i E w :=
  WL.sem _ d _ hq (run_slc hty hlo hhi hlh hhc) (by rw [hA, hn, hc]; exact k)
theorem WD.slc (hN : NoPanic Q) (i : Nat) (t e sz : Nat) (A A' : Option Addr) (nn c l h n' c' : Nat) (lo hi : Option Value) (d : Nat) (ht : takeB ops listed i = true) (hty : sliceTy P t e sz = true) (hq : opAtE n ops i E = some (some d, valOf (Instr.sliceAt t (.slice A nn c) lo hi none)))
    (hlo : bnd lo 0 l) (hhi : bnd hi nn h) (hlh : l ≤ h) (hhc : h ≤ c) (hA : slcAt A l c sz = A') (hn : h - l = n') (hc : c - l = c') (hS : S w) (k : WD P n ops Q S fuel (listed.setIfInBounds i true) ((d, .slice A' n' c') :: E) w) : WD P n ops Q S (fuel + 1) listed E w :=
  WD.semP hN i _ d _ ht hq (fun _ _ => run_slc hty hlo hhi hlh hhc) hS (by rw [hA, hn, hc]; exact k)
theorem Rd.slc {α : Type} {sz : Nat} {enc : α → List Value} {A A' : Option Addr} {xs : List α} (hr : Rd w sz enc A xs) (l h c : Nat) (hc : h ≤ c) (hA : slcAt A l c sz = A') : Rd w sz enc A' ((xs.take h).drop l) := by
  by_cases e : c = l
  · have : (xs.take h).drop l = [] := by apply List.drop_of_length_le; simp; omega
    rw [this]; exact Rd.nil _ _ _ _
  · refine ⟨fun i x hx => ?_⟩
    rw [List.getElem?_drop, List.getElem?_take] at hx
    split at hx
    · obtain ⟨b, off, rfl, hcell⟩ := hr.at_ _ _ hx
      refine ⟨b, off + l * sz, ?_, fun j u hu => ?_⟩
      · rw [← hA]; exact slcAt_blk (by omega) rfl
      · rw [show off + l * sz + i * sz + j = off + (l + i) * sz + j from by rw [Nat.add_mul]; omega]
        exact hcell j u hu
    · cases hx
theorem Rd.cell {α : Type} {sz : Nat} {enc : α → List Value} {A : Option Addr} {xs : List α} (hr : Rd w sz enc A xs) {b off : Nat} (hA : A = some ⟨b, off, none⟩) {i : Nat} {x : α} (hx : xs[i]? = some x) (j : Nat) (u : Value) (hu : (enc x)[j]? = some u) : w.cell? ⟨b, off + i * sz + j, none⟩ = some u := by
  obtain ⟨b', off', h1, h2⟩ := hr.at_ i x hx
  rw [hA] at h1
  simp at h1
  obtain ⟨rfl, rfl⟩ := h1
  exact h2 j u hu

/-! ### rows -/
theorem own_take {base e sz nn c m : Nat} {A : Option Addr} {X : List Value} (h : w.ownsRow base e sz (.slice A nn c) nn X) (hm : m ≤ nn) : w.ownsRow base e sz (.slice A m c) m (X.take (m * sz)) := by
  obtain ⟨h1, h2⟩ := h
  refine ⟨by rw [List.length_take, h1]; exact Nat.min_eq_left (Nat.mul_le_mul_right _ hm), ?_⟩
  rcases h2 with ⟨hv, hn⟩ | ⟨g, cap, cur, hv, hg, hh, hc, hcm, hs, ht⟩
  · simp at hv; obtain ⟨rfl, rfl, rfl⟩ := hv
    exact .inl ⟨by simp; omega, by omega⟩
  · simp at hv; obtain ⟨rfl, rfl⟩ := hv
    refine .inr ⟨g, c, cur, rfl, hg, hh, by omega, hcm, hs, ?_⟩
    rw [← ht, List.take_take, Nat.min_eq_left (Nat.mul_le_mul_right _ hm)]
theorem own_len {base e sz nn : Nat} {v : Value} {X : List Value} (h : w.ownsRow base e sz v nn X) : X.length = nn * sz := h.1
theorem own_blkd {base e sz nn c : Nat} {A : Option Addr} {X : List Value} (h : w.ownsRow base e sz (.slice A nn c) nn X) (hn : 0 < nn) : ∃ g cur, A = some ⟨g, 0, none⟩ ∧ base ≤ g ∧ w.heap[g]? = some (.cells cur e (0, 0)) ∧ nn ≤ c ∧ c ≤ maxLen ∧ cur.size = c * sz ∧ cur.toList.take (nn * sz) = X := by
  obtain ⟨h1, h2⟩ := h
  rcases h2 with ⟨hv, hn'⟩ | ⟨g, cap, cur, hv, r⟩
  · omega
  · simp at hv; obtain ⟨rfl, rfl⟩ := hv; exact ⟨g, cur, rfl, r⟩
/-- a block as a row -/
theorem own_of_blk {base e sz nn c g : Nat} {cur : Array Value} {X : List Value} (hb : base ≤ g) (hh : w.heap[g]? = some (.cells cur e (0, 0))) (hn : nn ≤ c) (hc : c ≤ maxLen) (hs : cur.size = c * sz) (ht : cur.toList.take (nn * sz) = X) : w.ownsRow base e sz (.slice (some ⟨g, 0, none⟩) nn c) nn X := by
  refine ⟨?_, .inr ⟨g, c, cur, rfl, hb, hh, hn, hc, hs, ht⟩⟩
  rw [← ht, List.length_take, Array.length_toList, hs]
  exact Nat.min_eq_left (Nat.mul_le_mul_right _ hn)
theorem flat_take {α : Type} {enc : α → List Value} {sz : Nat} (hl : ∀ x, (enc x).length = sz) : ∀ (xs : List α) (k : Nat), (xs.flatMap enc).take (k * sz) = (xs.take k).flatMap enc
  | [], k => by simp
  | x :: r, 0 => by simp
  | x :: r, k + 1 => by
    simp only [List.flatMap_cons, List.take_succ_cons]
    rw [List.take_append, hl, List.take_of_length_le (by rw [hl, Nat.add_mul]; omega), show (k + 1) * sz - sz = k * sz from by rw [Nat.add_mul]; omega, flat_take hl r k]
theorem flat_drop {α : Type} {enc : α → List Value} {sz : Nat} (hl : ∀ x, (enc x).length = sz) : ∀ (xs : List α) (k : Nat), (xs.flatMap enc).drop (k * sz) = (xs.drop k).flatMap enc
  | [], k => by simp
  | x :: r, 0 => by simp
  | x :: r, k + 1 => by
    simp only [List.flatMap_cons, List.drop_succ_cons]
    rw [List.drop_append, hl, List.drop_of_length_le (by rw [hl, Nat.add_mul]; omega), show (k + 1) * sz - sz = k * sz from by rw [Nat.add_mul]; omega, flat_drop hl r k, List.nil_append]
theorem flat_len {α : Type} {enc : α → List Value} {sz : Nat} (hl : ∀ x, (enc x).length = sz) (xs : List α) : (xs.flatMap enc).length = xs.length * sz := by
  induction xs with
  | nil => simp
  | cons x r ih => rw [List.flatMap_cons, List.length_append, ih, hl, List.length_cons, Nat.add_mul]; omega
/-- a part of an element is changed -/
theorem flat_put {α : Type} {enc : α → List Value} {sz : Nat} (hl : ∀ x, (enc x).length = sz) : ∀ (xs : List α) (i : Nat) (x x' : α) (j : Nat) (vs : List Value), xs[i]? = some x → enc x' = (enc x).take j ++ vs ++ (enc x).drop (j + vs.length) → j + vs.length ≤ sz →
    (xs.flatMap enc).take (i * sz + j) ++ vs ++ (xs.flatMap enc).drop (i * sz + j + vs.length) = (xs.set i x').flatMap enc
  | [], i, x, x', j, vs, h, _, _ => by simp at h
  | y :: r, 0, x, x', j, vs, h, he, hj => by
    simp at h; subst h
    simp only [Nat.zero_mul, Nat.zero_add, List.flatMap_cons, List.set_cons_zero, he]
    rw [List.take_append_of_le_length (by rw [hl]; omega), List.drop_append_of_le_length (by rw [hl]; omega)]
    simp [List.append_assoc]
  | y :: r, i + 1, x, x', j, vs, h, he, hj => by
    simp at h
    simp only [List.flatMap_cons, List.set_cons_succ]
    have ih := flat_put hl r i x x' j vs h he hj
    rw [show (i + 1) * sz + j = (enc y).length + (i * sz + j) from by rw [hl, Nat.add_mul]; omega, List.take_length_add_append, Nat.add_assoc (enc y).length, List.drop_length_add_append, ← ih]
    simp [List.append_assoc]
theorem take_put (l : List Value) (off : Nat) (vs : List Value) (m : Nat) (h : off + vs.length ≤ m) (hm : m ≤ l.length) : (l.take off ++ vs ++ l.drop (off + vs.length)).take m = (l.take m).take off ++ vs ++ (l.take m).drop (off + vs.length) := by
  have h1 : (l.take off).length = off := by rw [List.length_take]; omega
  rw [List.append_assoc, List.take_append, h1, List.take_append, List.take_of_length_le (show vs.length ≤ m - off by omega), List.take_of_length_le (show (l.take off).length ≤ m by omega), List.take_take, Nat.min_eq_left (show off ≤ m by omega), List.drop_take, ← List.append_assoc]
  rw [show m - off - vs.length = m - (off + vs.length) from by omega]
theorem own_put {base e sz nn c g : Nat} {X : List Value} (h : w.ownsRow base e sz (.slice (some ⟨g, 0, none⟩) nn c) nn X) (off : Nat) (vs : List Value) (hf : off + vs.length ≤ nn * sz) {t : TypeId} {v : Value} (hv : v.cells.toList = vs) (ht : P.cellsOf t = vs.length) (hi : (P.info? t).isSome = true) (h1 : vs.all oneB = true) :
    ∃ w', (Instr.storeAt t (.pointer (some ⟨g, off, none⟩)) v).run P w = .ok () w' ∧ Fr w w' [g] ∧ w'.ownsRow base e sz (.slice (some ⟨g, 0, none⟩) nn c) nn (X.take off ++ vs ++ X.drop (off + vs.length)) := by
  obtain ⟨hX, h2⟩ := h
  rcases h2 with ⟨hv', _⟩ | ⟨g', cap, cur, hv', hg, hh, hc, hcm, hs, htk⟩
  · simp at hv'
  · simp at hv'; obtain ⟨rfl, rfl⟩ := hv'
    have hcs : nn * sz ≤ cur.size := by rw [hs]; exact Nat.mul_le_mul_right _ hc
    have hst : st P t cur off v (0, 0) = some (setMany cur off v.cells.toList) := by
      unfold st
      have e1 : Nat.beq v.cells.size (P.cellsOf t) = true := by rw [ht, ← hv]; simp [beq_iff]
      have e2 : Nat.ble (off + v.cells.size) cur.size = true := by rw [← Array.length_toList, hv]; exact Nat.ble_eq_true_of_le (by omega)
      have e3 : freeB (0, 0) off v.cells.size = true := by unfold freeB; simp
      rw [e1, e2, e3, hi, hv, h1]; rfl
    have hr := run_st (P := P) hh hst
    refine ⟨_, hr, putRow_fr _ _, ?_, .inr ⟨g, c, _, rfl, hg, putRow_same (lt_of_heap hh), hc, hcm, by rw [setMany_size, hs], ?_⟩⟩
    · simp only [List.length_append, List.length_take, List.length_drop, hX]; omega
    · have key : ∀ (l : List Value) (c : Array Value) (o : Nat), o + l.length ≤ c.size → (setMany c o l).toList = c.toList.take o ++ l ++ c.toList.drop (o + l.length) := by
        intro l
        induction l with
        | nil => intro c o _; simp [setMany]
        | cons x r ih =>
          intro c o ho
          simp only [setMany]
          rw [ih _ _ (by simp at ho ⊢; omega)]
          simp only [Array.toList_setIfInBounds, List.length_cons]
          have := list_seg_step c.toList o x r (by simp at ho ⊢; omega)
          simpa [Nat.add_assoc, Nat.add_comm 1] using this
      rw [hv, key _ _ _ (by omega), take_put _ _ _ _ hf (by rw [Array.length_toList]; exact hcs), htk]
theorem own_putE {α : Type} {enc : α → List Value} {base e sz nn c g : Nat} {ys : List α} (hl : ∀ x, (enc x).length = sz) (h : w.ownsRow base e sz (.slice (some ⟨g, 0, none⟩) nn c) nn (ys.flatMap enc)) (k jj : Nat) {x : α} (hx : ys[k]? = some x) (x' : α) (vs : List Value) (henc : enc x' = (enc x).take jj ++ vs ++ (enc x).drop (jj + vs.length)) (hj : jj + vs.length ≤ sz) {t : TypeId} {v : Value} (hv : v.cells.toList = vs) (ht : P.cellsOf t = vs.length) (hi : (P.info? t).isSome = true) (h1 : vs.all oneB = true) (off : Nat) (ho : off = k * sz + jj) :
    ∃ w', (Instr.storeAt t (.pointer (some ⟨g, off, none⟩)) v).run P w = .ok () w' ∧ Fr w w' [g] ∧ w'.ownsRow base e sz (.slice (some ⟨g, 0, none⟩) nn c) nn ((ys.set k x').flatMap enc) := by
  subst ho
  have hlen := flat_len hl ys
  have hk : k < ys.length := (List.getElem?_eq_some_iff.1 hx).1
  have hX := h.1
  have h2 : (k + 1) * sz ≤ ys.length * sz := Nat.mul_le_mul_right _ hk
  rw [Nat.add_mul] at h2
  obtain ⟨w', hr, hf, ho⟩ := own_put (P := P) h (k * sz + jj) vs (by rw [← hX, hlen]; omega) hv ht hi h1
  rw [flat_put hl ys k x x' jj vs hx henc hj] at ho
  exact ⟨w', hr, hf, ho⟩
/-! ### what append and copy read -/
def srcOk (w : World) (A : Option Addr) (m : Nat) (news : List Value) : Prop := (∃ ad, A = some ad ∧ ∀ j u, news[j]? = some u → w.cell? (ad.add j) = some u) ∨ (A = none ∧ m = 0 ∧ news = [])
theorem srcOk.blk {b : Nat} {c : Array Value} {T : TypeId} {fz : Nat × Nat} (m : Nat) (h : w.heap[b]? = some (.cells c T fz)) : srcOk w (some ⟨b, 0, none⟩) m c.toList := .inl ⟨_, rfl, news_blk h⟩
theorem Rd.src {α : Type} {sz : Nat} {enc : α → List Value} {A : Option Addr} {Y : List α} (hr : Rd w sz enc A Y) (hl : ∀ x, (enc x).length = sz) (hsz : 0 < sz) (m : Nat) (hm : m ≤ Y.length) : srcOk w A m ((Y.take m).flatMap enc) := by
  cases hY : Y with
  | nil => subst hY; simp at hm; subst hm; cases A with
    | none => exact .inr ⟨rfl, rfl, rfl⟩
    | some a => exact .inl ⟨a, rfl, by simp⟩
  | cons y r =>
    obtain ⟨b, off, rfl, _⟩ := hr.at_ 0 y (by simp [hY])
    rw [← hY]
    refine .inl ⟨_, rfl, fun j u hu => ?_⟩
    have hlt : j < (Y.take m).length * sz := by rw [← flat_len hl]; exact (List.getElem?_eq_some_iff.1 hu).1
    have hq : j / sz < (Y.take m).length := Nat.div_lt_of_lt_mul (by rw [Nat.mul_comm]; exact hlt)
    obtain ⟨x, hx⟩ := get_some hq
    have hmod : j % sz < (enc x).length := by rw [hl]; exact Nat.mod_lt _ hsz
    have h1 := flat_get hl (Y.take m) (j / sz) x hx (j % sz) _ (List.getElem?_eq_getElem hmod)
    rw [Nat.mul_comm, Nat.div_add_mod] at h1
    rw [h1] at hu
    simp at hu; subst hu
    rw [add_at]
    have hx' : Y[j / sz]? = some x := by
      rw [List.getElem?_take] at hx
      split at hx
      · exact hx
      · cases hx
    have := hr.cell rfl hx' (j % sz) _ (List.getElem?_eq_getElem hmod)
    rw [show off + j / sz * sz + j % sz = off + j from by rw [Nat.add_assoc, Nat.mul_comm, Nat.div_add_mod]] at this
    exact this
theorem Rd.src_all {α : Type} {sz : Nat} {enc : α → List Value} {A : Option Addr} {Y : List α} (hr : Rd w sz enc A Y) (hl : ∀ x, (enc x).length = sz) (hsz : 0 < sz) : srcOk w A Y.length (Y.flatMap enc) := by
  have := hr.src hl hsz Y.length (Nat.le_refl _); rwa [List.take_length] at this
theorem flat_one {α : Type} {enc : α → List Value} (h1 : ∀ x, (enc x).all Value.oneCell' = true) (Y : List α) : (Y.flatMap enc).all Value.oneCell' = true := by
  rw [List.all_eq_true]; intro v hv
  obtain ⟨x, _, hx⟩ := List.mem_flatMap.1 hv
  exact List.all_eq_true.1 (h1 x) v hx
theorem run_append_src (w : World) (base t ty e : Nat) {inf : TypeInfo} {z : Value} {sz bytes : Nat} (hu : P.underlying t = some (.slice e)) (hi : P.info? e = some inf) (hz : inf.zero = some z) (hs : inf.size = sz) (hb : inf.bytes = bytes) (hzs : z.cells.size = sz) (hpos : 0 < sz)
    {v : Value} {nn : Nat} {xs : List Value} (hown : w.ownsRow base e sz v nn xs) {A : Option Addr} {m c : Nat} {news : List Value} (hl : news.length = m * sz) (hsrc : srcOk w A m news) (h1 : news.all Value.oneCell' = true) (h63 : nn + m ≤ maxLen) (hbytes : (nn + m) * bytes ≤ 140737488355328) (hbase : base ≤ w.heap.size) :
    ∃ v' w', (Builtin.append_ #[t, t] ty #[v, .slice A m c]).run P w = .ok v' w' ∧ w'.ownsRow base e sz v' (nn + m) (xs ++ news) ∧ w.grownBy w' v.ownBlock ∧ (v' = .slice none 0 0 ↔ v = .slice none 0 0 ∧ m = 0) ∧ (v'.ownBlock = v.ownBlock ∨ v'.ownBlock = some w.heap.size) := by
  rcases hsrc with ⟨ad, rfl, hnews⟩ | ⟨rfl, rfl, rfl⟩
  · exact run_append_own_at (P := P) w base t ty e inf z sz bytes hu hi hz hs hb hzs hpos v nn xs hown ad m c news hl hnews (fun u hu => by simpa using (List.all_eq_true.1 h1) u hu) h63 hbytes hbase
  · refine ⟨v, w, ?_, by simpa using hown, ⟨rfl, rfl, rfl, Nat.le_refl _, fun _ _ _ => rfl⟩, by simp, .inl rfl⟩
    subst hs
    obtain ⟨A', c', rfl, hle⟩ := own_form hown
    cases A' with
    | none => simp [Builtin.append_, run_underlying hu, sizeOf, typeInfo, hi, Builtin.lenOf, Builtin.firstCells, hle]
    | some a' => simp [Builtin.append_, run_underlying hu, sizeOf, typeInfo, hi, Builtin.lenOf, Builtin.firstCells, hle, storeCells]
/-- copy: into block number k of M -/
theorem run_copy_src {dT sT ty e sz g o dLen dCap m sc : Nat} {A : Option Addr} {cur : Array Value} {T : TypeId} {cs : List Value} (hty : sliceTy P dT e sz = true) (hg : w.heap[g]? = some (.cells cur T (0, 0))) (hn : cs.length = Nat.min m dLen * sz) (hsrc : srcOk w A (Nat.min m dLen) cs) (hfit : o + cs.length ≤ cur.size) (h1 : cs.all Value.oneCell' = true) :
    (Builtin.copy_ #[dT, sT] ty #[.slice (some ⟨g, o, none⟩) dLen dCap, .slice A m sc]).run P w = .ok (goInt (Nat.min m dLen)) (putRow w g (.cells (cur.toList.take o ++ cs ++ cur.toList.drop (o + cs.length)).toArray T (0, 0))) := by
  obtain ⟨hu, inf, hi, hs⟩ := sliceTy_spec hty
  subst hs
  have hst := run_storeCells_at P g o T cs 0 cur w hg (by simpa using hfit) (fun u hu => (List.all_eq_true.1 h1) u hu)
  have hsr : ∀ c : Array Value, w.setRow g c = putRow w g (.cells c T (0, 0)) := fun c => by
    obtain ⟨hb, he⟩ := Array.getElem?_eq_some_iff.1 hg
    simp only [World.setRow, putRow]
    congr 1
    apply Array.ext_getElem?
    intro i
    rw [Array.getElem?_modify, Array.getElem?_setIfInBounds]
    split
    · rename_i e; subst e; simp [hb, he]
    · rfl
  rw [hsr] at hst
  rcases hsrc with ⟨ad, rfl, hnews⟩ | ⟨rfl, h0, rfl⟩
  · have hl := run_loadCells_list (P := P) w ad cs hnews
    simp only [Nat.add_zero] at hst
    simp [Builtin.copy_, run_underlying hu, Builtin.lenOf, Builtin.firstCells, sizeOf, typeInfo, hi, ← hn, hl, hst]
  · simp only [Nat.add_zero] at hst
    simp [Builtin.copy_, run_underlying hu, Builtin.lenOf, Builtin.firstCells, sizeOf, typeInfo, hi, hst]
end
end Go.Tw
