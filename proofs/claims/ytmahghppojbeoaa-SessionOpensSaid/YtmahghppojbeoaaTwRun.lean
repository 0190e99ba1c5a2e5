/- The walk's own words: what stores, appends, copies and new rows do, apart from the operation that does it. Over any program. -/
import Derived.Test.YtmahghppojbeoaaTwArr
namespace Go.Tw
set_option linter.unusedSimpArgs false
set_option linter.unusedVariables false
set_option linter.unusedSectionVars false
open Go.RowKit
section
variable (P : Program) {w w' w0 : World} {F0 : List Nat} {M : List (Nat × Obj)} {Fs : List (List Nat)}
theorem sto_run (hC : Cx w0 F0 w M Fs) (k : Nat) (t : TypeId) (b off : Nat) (v : Value) {c c' : Array Value} {T : TypeId} {fz : Nat × Nat} (hk : M[k]? = some (b, .cells c T fz)) (hv : st P t c off v fz = some c') :
    ∃ w', (Instr.storeAt t (.pointer (some ⟨b, off, none⟩)) v).run P w = .ok () w' ∧ Fr w w' [b] ∧ Cx w0 F0 w' (M.set k (b, .cells c' T fz)) Fs :=
  have hb := hC.get k hk
  ⟨_, run_st (P := P) hb hv, putRow_fr b _, hC.callM k hk (putRow_fr b _) (putRow_same (lt_of_heap hb))⟩
theorem stoE_run {α : Type} {enc : α → List Value} {base e sz nn c g : Nat} {A : Option Addr} {ys : List α} (hl : ∀ x, (enc x).length = sz) (hC : Cx w0 F0 w M Fs) (j : Nat) (hA : A = some ⟨g, 0, none⟩) (hj : Fs[j]? = some (blk (.slice A nn c))) (h : w.ownsRow base e sz (.slice A nn c) nn (ys.flatMap enc)) (k jj : Nat) {x : α} (hx : ys[k]? = some x) (x' : α) (vs : List Value) (henc : enc x' = (enc x).take jj ++ vs ++ (enc x).drop (jj + vs.length)) (t : TypeId) (v : Value) (off : Nat)
    (hty : (Nat.ble (jj + vs.length) sz && Nat.beq (P.cellsOf t) vs.length && (P.info? t).isSome) = true) (h1 : vs.all oneB = true) (hv : v.cells.toList = vs) (ho : off = k * sz + jj) :
    ∃ w', (Instr.storeAt t (.pointer (some ⟨g, off, none⟩)) v).run P w = .ok () w' ∧ Fr w w' (blk (.slice A nn c)) ∧ w'.ownsRow base e sz (.slice A nn c) nn ((ys.set k x').flatMap enc) ∧ Cx w0 F0 w' M (Fs.set j (blk (.slice A nn c))) := by
  subst hA
  simp only [Bool.and_eq_true] at hty
  obtain ⟨w', hr, hf, hown⟩ := own_putE (P := P) hl h k jj hx x' vs henc (Nat.le_of_ble_eq_true hty.1.1) hv (Nat.eq_of_beq_eq_true hty.1.2) hty.2 h1 off ho
  exact ⟨w', hr, hf, hown, hC.callF j hj hf (fun x hx => .inl hx) (own_lt hown)⟩
theorem app_run (hC : Cx w0 F0 w M Fs) (j : Nat) {v : Value} {xs : List Value} (hj : Fs[j]? = some (blk v)) (t ty e sz bytes nn m c : Nat) (A : Option Addr) (hty : rowTy P t e sz bytes = true)
    (hown : w.ownsRow 0 e sz v nn xs) (news : List Value) (hl : news.length = m * sz) (hnews : srcOk w A m news) (h1 : news.all Value.oneCell' = true) (h63 : nn + m ≤ maxLen) (hbytes : (nn + m) * bytes ≤ 140737488355328) :
    ∃ v' w', (Builtin.append_ #[t, t] ty #[v, .slice A m c]).run P w = .ok v' w' ∧ w'.ownsRow 0 e sz v' (nn + m) (xs ++ news) ∧ Fr w w' (blk v) ∧ Cx w0 F0 w' M (Fs.set j (blk v')) ∧ (v' = .slice none 0 0 ↔ v = .slice none 0 0 ∧ m = 0) ∧ (∀ x ∈ blk v', x ∈ blk v ∨ w.heap.size ≤ x) := by
  obtain ⟨hu, inf, z, hi, hz, hs, hb, hzs, hpos⟩ := rowTy_spec hty
  obtain ⟨v', w', hr, hown', hgrow, hnil, hat⟩ := run_append_src (P := P) w 0 t ty e hu hi hz hs hb hzs hpos hown hl hnews h1 h63 hbytes (Nat.zero_le _) (c := c)
  have hfr : Fr w w' (blk v) := fr_grown hgrow rfl (fun _ => run_drawn _ _ _ _ hr)
  have hsub : ∀ x ∈ blk v', x ∈ blk v ∨ w.heap.size ≤ x := fun x hx => by
    rw [mem_blk] at hx
    rcases hat with hat | hat
    · exact .inl (mem_blk.2 (hat ▸ hx))
    · rw [hat] at hx; simp at hx; exact .inr (by omega)
  exact ⟨v', w', hr, hown', hfr, hC.callF j hj hfr hsub (own_lt hown'), hnil, hsub⟩
theorem srcOk.part {g o m k : Nat} {L : List Value} {T : TypeId} {fz : Nat × Nat} (h : w.heap[g]? = some (.cells L.toArray T fz)) : srcOk w (some ⟨g, o, none⟩) m ((L.drop o).take k) := by
  refine .inl ⟨_, rfl, fun j u hu => ?_⟩
  rw [List.getElem?_take] at hu
  split at hu
  · rw [List.getElem?_drop] at hu
    rw [add_at, cell_blk h]
    simpa using hu
  · cases hu
theorem Rd.frN {α : Type} {sz : Nat} {enc : α → List Value} {A : Option Addr} {xs : List α} {F : List Nat} (h : Rd w sz enc A xs) (hf : Fr w w' F) (hn : ∀ b off, A = some ⟨b, off, none⟩ → b ∉ F) : Rd w' sz enc A xs :=
  ⟨fun i x hx => let ⟨b, off, hA, hc⟩ := h.at_ i x hx; ⟨b, off, hA, fun j u hu => hf.cell (hc j u hu) (hn b off hA)⟩⟩
theorem Rd.of_none {α : Type} {sz : Nat} {enc : α → List Value} {xs : List α} (h : Rd w sz enc none xs) : xs = [] := by
  cases xs with
  | nil => rfl
  | cons x r => obtain ⟨b, off, hA, _⟩ := h.at_ 0 x rfl; cases hA
end
section
variable {P : Program} {n : Nat} {ops : Array Oper} {Q : Exit → Act → World → Prop} {S : World → Prop} {i : Nat} {E E' : Env} {w w' w0 : World} {F0 : List Nat} {M : List (Nat × Obj)} {Fs : List (List Nat)} {fuel : Nat} {listed : Array Bool}
/-- a call of a function that has no body -/
theorem WL.ext (f : FuncId) (args : Array Value) (d : Nat) (v : Value) (hq : opAtE n ops i E = some (some d, callFunc f args)) (hr : (callFunc f args).run P w = .ok (.value v) w') (h : WL P n ops Q (i + 1) ((d, v) :: E) w') : WL P n ops Q i E w := by
  obtain ⟨o, ho, hw, hk, hdst, hd, he⟩ := opAtE_spec hq
  refine WL.value ho hw hk (fun x hx => hd x (hdst ▸ hx)) (by rw [he]; exact hr) ?_
  rw [hdst]; exact h
theorem run_rem {t : TypeId} {X Y : Operand} {k : IntKind} {x y : Int} (hy : y ≠ 0) : (do eqGuard .rem t X Y (.int k x) (.int k y); binOp .rem t (.int k x) (.int k y) : Sem Value).run P w = .ok (.int k (x.tmod y)) w := by
  simp [eqGuard, binOp, Op.intDiv, hy]
theorem wrap_u64_span (x : Int) : 0 ≤ IntKind.u64.wrap x ∧ IntKind.u64.wrap x ≤ 18446744073709551615 := by simp only [IntKind.wrap_u64]; omega
end
end Go.Tw
