/- The walk's own words: what stores, appends, copies and new rows do, apart from the operation that does it. Over any program. -/
import Derived.Test.YtfligklljkcbfaaGreatDoorTwArr
namespace Go.Tw
set_option linter.unusedSimpArgs false
set_option linter.unusedVariables false
set_option linter.unusedSectionVars false
open Go.RowKit
section
variable (P : Program) {w w' w0 : World} {F0 : List Nat} {M : List (Nat × Obj)} {Fs : List (List Nat)}
theorem sto_run (hC : Cx w0 F0 w M Fs) (k : Nat) (t : TypeId) (b off : Nat) (v : Value) {c c' : Array Value} {T : TypeId} {fz : Nat × Nat} (hk : M[k]? = some (b, .cells c T fz)) (hv : st P t c off v fz = some c') :
    ∃ w', (Instr.storeAt t (.pointer (some ⟨b, off, none⟩)) v).run P w = .ok () w' ∧ Fr w w' [b] ∧ Cx w0 F0 w' (M.set k (b, .cells c' T fz)) Fs :=
  have hb := hC.get k hk
  ⟨_, run_st (P := P) hb hv, putRow_fr b _, hC.callM k hk (putRow_fr b _) (putRow_same (lt_of_heap hb))⟩
theorem stoE_run {α : Type} {enc : α → List Value} {base e sz nn c g : Nat} {A : Option Addr} {ys : List α} (hl : ∀ x, (enc x).length = sz) (hC : Cx w0 F0 w M Fs) (j : Nat) (hA : A = some ⟨g, 0, none⟩) (hj : Fs[j]? = some (blk (.slice A nn c))) (h : w.ownsRow base e sz (.slice A nn c) nn (ys.flatMap enc)) (k jj : Nat) {x : α} (hx : ys[k]? = some x) (x' : α) (vs : List Value) (henc : enc x' = (enc x).take jj ++ vs ++ (enc x).drop (jj + vs.length)) (t : TypeId) (v : Value) (off : Nat)
    (hty : (Nat.ble (jj + vs.length) sz && Nat.beq (P.cellsOf t) vs.length && (P.info? t).isSome) = true) (h1 : vs.all oneB = true) (hv : v.cells.toList = vs) (ho : off = k * sz + jj) :
    ∃ w', (Instr.storeAt t (.pointer (some ⟨g, off, none⟩)) v).run P w = .ok () w' ∧ Fr w w' (blk (.slice A nn c)) ∧ w'.ownsRow base e sz (.slice A nn c) nn ((ys.set k x').flatMap enc) ∧ Cx w0 F0 w' M (Fs.set j (blk (.slice A nn c))) := by
  subst hA
  simp only [Bool.and_eq_true] at hty
  obtain ⟨w', hr, hf, hown⟩ := own_putE (P := P) hl h k jj hx x' vs henc (Nat.le_of_ble_eq_true hty.1.1) hv (Nat.eq_of_beq_eq_true hty.1.2) hty.2 h1 off ho
  exact ⟨w', hr, hf, hown, hC.callF j hj hf (fun x hx => .inl hx) (own_lt hown)⟩
theorem stoML_run {α : Type} {enc : α → List Value} {sz b : Nat} {ys : List α} {T : TypeId} (hl : ∀ x, (enc x).length = sz) (hC : Cx w0 F0 w M Fs) (q : Nat) (hM : M[q]? = some (b, .cells (ys.flatMap enc).toArray T (0, 0))) (k jj : Nat) {x : α} (hx : ys[k]? = some x) (x' : α) (vs : List Value) (henc : enc x' = (enc x).take jj ++ vs ++ (enc x).drop (jj + vs.length)) (t : TypeId) (v : Value) (off : Nat)
    (hty : (Nat.ble (jj + vs.length) sz && Nat.beq (P.cellsOf t) vs.length && (P.info? t).isSome) = true) (h1 : vs.all oneB = true) (hv : v.cells.toList = vs) (ho : off = k * sz + jj) :
    ∃ w', (Instr.storeAt t (.pointer (some ⟨b, off, none⟩)) v).run P w = .ok () w' ∧ Fr w w' [b] ∧ Cx w0 F0 w' (M.set q (b, .cells ((ys.set k x').flatMap enc).toArray T (0, 0))) Fs := by
  subst ho
  simp only [Bool.and_eq_true] at hty
  have hb := hC.get q hM
  have hlen := flat_len hl ys
  have hk : k < ys.length := (List.getElem?_eq_some_iff.1 hx).1
  have h2 : (k + 1) * sz ≤ ys.length * sz := Nat.mul_le_mul_right _ hk
  have hjs := Nat.le_of_ble_eq_true hty.1.1
  rw [Nat.add_mul] at h2
  have hfit : k * sz + jj + vs.length ≤ (ys.flatMap enc).toArray.size := by simp only [List.size_toArray]; rw [hlen]; omega
  have hst : st P t (ys.flatMap enc).toArray (k * sz + jj) v (0, 0) = some ((ys.set k x').flatMap enc).toArray := by
    have e1 : Nat.beq v.cells.size (P.cellsOf t) = true := by rw [Nat.eq_of_beq_eq_true hty.1.2, ← hv]; simp [beq_iff]
    have e2 : Nat.ble (k * sz + jj + v.cells.size) (ys.flatMap enc).toArray.size = true := by rw [← Array.length_toList, hv]; exact Nat.ble_eq_true_of_le hfit
    have e3 : freeB (0, 0) (k * sz + jj) v.cells.size = true := by unfold freeB; simp
    unfold st
    rw [e1, e2, e3, hty.2, hv, h1]
    simp only [Bool.and_self, cond_true]
    congr 1
    apply Array.ext'
    rw [setMany_list _ _ _ hfit]
    exact flat_put hl ys k x x' jj vs hx henc hjs
  exact ⟨_, run_st (P := P) hb hst, putRow_fr b _, hC.callM q hM (putRow_fr b _) (putRow_same (lt_of_heap hb))⟩
theorem app_run (hC : Cx w0 F0 w M Fs) (j : Nat) {v : Value} {xs : List Value} (hj : Fs[j]? = some (blk v)) (t ty e sz bytes nn m c : Nat) (A : Option Addr) (hty : rowTy P t e sz bytes = true)
    (hown : w.ownsRow 0 e sz v nn xs) (news : List Value) (hl : news.length = m * sz) (hnews : srcOk w A m news) (h1 : news.all Value.oneCell' = true) (h63 : nn + m ≤ maxLen) (hbytes : (nn + m) * bytes ≤ 140737488355328) :
    ∃ v' w', (Builtin.append_ #[t, t] ty #[v, .slice A m c]).run P w = .ok v' w' ∧ w'.ownsRow 0 e sz v' (nn + m) (xs ++ news) ∧ Fr w w' (blk v) ∧ Cx w0 F0 w' M (Fs.set j (blk v')) ∧ (v' = .slice none 0 0 ↔ v = .slice none 0 0 ∧ m = 0) ∧ (∀ x ∈ blk v', x ∈ blk v ∨ w.heap.size ≤ x) := by
  obtain ⟨hu, inf, z, hi, hz, hs, hb, hzs, hpos⟩ := rowTy_spec hty
  obtain ⟨v', w', hr, hown', hgrow, hnil, hat⟩ := run_append_src (P := P) w 0 t ty e hu hi hz hs hb hzs hpos hown hl hnews h1 h63 hbytes (Nat.zero_le _) (c := c)
  have hfr : Fr w w' (blk v) := fr_grown hgrow rfl (fun _ => run_drawn _ _ _ _ hr)
  have hsub : ∀ x ∈ blk v', x ∈ blk v ∨ w.heap.size ≤ x := fun x hx => by
    rw [mem_blk] at hx
    rcases hat with hat | hat
    · exact .inl (mem_blk.2 (hat ▸ hx))
    · rw [hat] at hx; simp at hx; exact .inr (by omega)
  exact ⟨v', w', hr, hown', hfr, hC.callF j hj hfr hsub (own_lt hown'), hnil, hsub⟩
theorem copy_run (hC : Cx w0 F0 w M Fs) (k : Nat) (dT sT ty e sz g o dLen dCap m sc cnt : Nat) (A : Option Addr) {L : List Value} {T : TypeId} (cs : List Value) (hty : sliceTy P dT e sz = true) (hk : M[k]? = some (g, .cells L.toArray T (0, 0)))
    (hcnt : Nat.min m dLen = cnt) (hn : cs.length = cnt * sz) (hsrc : srcOk w A cnt cs) (hfit : o + cs.length ≤ L.length) (h1 : cs.all Value.oneCell' = true) :
    ∃ w', (Builtin.copy_ #[dT, sT] ty #[.slice (some ⟨g, o, none⟩) dLen dCap, .slice A m sc]).run P w = .ok (.int .i64 (cnt : Int)) w' ∧ Fr w w' [g] ∧ Cx w0 F0 w' (M.set k (g, .cells (L.take o ++ cs ++ L.drop (o + cs.length)).toArray T (0, 0))) Fs := by
  subst hcnt
  have hb := hC.get k hk
  have hr := run_copy_src (P := P) (sT := sT) (ty := ty) (dCap := dCap) (sc := sc) hty hb hn hsrc (by simpa using hfit) h1
  have hK := hC.callM (w' := putRow w g (.cells (L.take o ++ cs ++ L.drop (o + cs.length)).toArray T (0, 0))) k hk (putRow_fr g _) (putRow_same (lt_of_heap hb))
  exact ⟨_, hr, putRow_fr g _, hK⟩
/-- append(v, make([]T, m)...) where the row has no room: a new block -/
theorem appZ_run (hC : Cx w0 F0 w M Fs) (t ti ty e sz bytes nn cap m : Nat) {k : IntKind} {kx : IntKind} {z : Value} {A : Option Addr} {xs : List Value} (hty : rowTy P t e sz bytes = true) (hti : P.underlying ti = some (.int k)) (hz : (P.info? e).bind (·.zero) = some z) (h0 : 0 < bytes) (hlen : xs.length = nn * sz) (hsrc : srcOk w A nn xs) (hroom : cap < nn + m) (hm : 0 < m) (hbytes : (nn + m) * bytes ≤ 140737488355328) (jv : Int) (hjv : jv = (m : Int)) :
    ∃ g c w', (Builtin.append_ #[t, ti] ty #[.slice A nn cap, .int kx jv]).run P w = .ok (.slice (some ⟨g, 0, none⟩) (nn + m) c) w' ∧ w.heap.size ≤ g ∧ Fr w w' [] ∧ nn + m ≤ c ∧ c ≤ maxLen ∧ Cx w0 F0 w' (M ++ [(g, .cells (xs ++ (Builtin.zeroCells z.cells m).toList ++ (Builtin.zeroCells z.cells (c - (nn + m))).toList).toArray e (0, 0))]) Fs := by
  subst hjv
  obtain ⟨hu, inf, z', hi, hz', hs, hby, hzs, hpos⟩ := rowTy_spec hty
  have hzz : z' = z := by rw [hi] at hz; simp [hz'] at hz; exact hz
  subst hzz hs hby
  have hle : nn + m ≤ 140737488355328 := Nat.le_trans (Nat.le_mul_of_pos_right _ h0) hbytes
  have h63 : nn + m ≤ maxLen := by simp only [maxLen]; omega
  have hw : IntKind.i64.wrap (m : Int) = m := by rw [IntKind.wrap_i64]; omega
  have hneg : ¬ ((m : Int) < 0) := by omega
  have hmb : m * inf.bytes ≤ 140737488355328 := Nat.le_trans (Nat.mul_le_mul_right _ (Nat.le_add_left m nn)) hbytes
  have hbig : ¬ (281474976710656 < (m : Int) * (inf.bytes : Int)) := by rw [← Int.natCast_mul]; omega
  have hmz : ¬ (m * inf.size = 0) := Nat.mul_ne_zero (by omega) (by omega)
  have hn : ¬ (nn + m ≤ cap) := by omega
  have h63' : ¬ (9223372036854775807 < ((nn : Int) + (m : Int))) := by omega
  have hfit := growslice_fits hroom hbytes
  have h48' : ¬ (281474976710656 < Builtin.nextslicecap (nn + m) cap * inf.bytes) := by omega
  have hfo : (Builtin.firstCells inf.size nn (.slice A nn cap)).run P w.drew = .ok xs.toArray w.drew := by
    rcases hsrc with ⟨ad, rfl, hnews⟩ | ⟨rfl, rfl, rfl⟩
    · have := run_loadCells_list (P := P) w.drew ad xs (fun j u hu => hnews j u hu)
      simp [Builtin.firstCells, ← hlen, this]
    · simp [Builtin.firstCells]
  have hrun : (Builtin.append_ #[t, ti] ty #[.slice A nn cap, .int kx m]).run P w =
      .ok (.slice (some ⟨w.heap.size, 0, none⟩) (nn + m) (grownCap w (nn + m) cap e)) (w.drew.alloc (.cells (xs ++ (Builtin.zeroCells z'.cells m).toList ++ (Builtin.zeroCells z'.cells (grownCap w (nn + m) cap e - (nn + m))).toList).toArray e)) := by
    simp [Builtin.append_, run_underlying hu, run_underlying hti, sizeOf, typeInfo, zeroValue, hi, hz', asInt, asIntOf, hw, hneg, hbig, hn, h63', h48', Question.forced, hfo, newRow, grownCap, hmz]
    congr 2
    apply Array.ext'
    simp [List.append_assoc]
  have hf : Fr w (w.drew.alloc (.cells (xs ++ (Builtin.zeroCells z'.cells m).toList ++ (Builtin.zeroCells z'.cells (grownCap w (nn + m) cap e - (nn + m))).toList).toArray e)) [] := (Fr.drew w).trans (Fr.alloc _ _) (by simp)
  exact ⟨w.heap.size, _, _, hrun, Nat.le_refl _, hf, grownCap_ge w (nn + m) cap e, grownCap_le_maxLen w (nn + m) cap e h63, hC.callB hf (Nat.le_refl _) (heap_alloc_new w.drew _)⟩
theorem srcOk.part {g o m k : Nat} {L : List Value} {T : TypeId} {fz : Nat × Nat} (h : w.heap[g]? = some (.cells L.toArray T fz)) : srcOk w (some ⟨g, o, none⟩) m ((L.drop o).take k) := by
  refine .inl ⟨_, rfl, fun j u hu => ?_⟩
  rw [List.getElem?_take] at hu
  split at hu
  · rw [List.getElem?_drop] at hu
    rw [add_at, cell_blk h]
    simpa using hu
  · cases hu
theorem Cx.startM {g : Nat} {o : Obj} (h : w.heap[g]? = some o) : Cx w [g] w [(g, o)] [] :=
  ⟨.refl _ _, by simpa using h, by simp, by simp, by simp, by simp, by simp, by simp⟩
theorem Rd.frN {α : Type} {sz : Nat} {enc : α → List Value} {A : Option Addr} {xs : List α} {F : List Nat} (h : Rd w sz enc A xs) (hf : Fr w w' F) (hn : ∀ b off, A = some ⟨b, off, none⟩ → b ∉ F) : Rd w' sz enc A xs :=
  ⟨fun i x hx => let ⟨b, off, hA, hc⟩ := h.at_ i x hx; ⟨b, off, hA, fun j u hu => hf.cell (hc j u hu) (hn b off hA)⟩⟩
theorem Rd.of_none {α : Type} {sz : Nat} {enc : α → List Value} {xs : List α} (h : Rd w sz enc none xs) : xs = [] := by
  cases xs with
  | nil => rfl
  | cons x r => obtain ⟨b, off, hA, _⟩ := h.at_ 0 x rfl; cases hA
end
section
variable {P : Program} {n : Nat} {ops : Array Oper} {Q : Exit → Act → World → Prop} {S : World → Prop} {i : Nat} {E E' : Env} {w w' w0 : World} {F0 : List Nat} {M : List (Nat × Obj)} {Fs : List (List Nat)} {fuel : Nat} {listed : Array Bool}
/-- a call of a function that has no body -/
theorem WL.ext (f : FuncId) (args : Array Value) (d : Nat) (v : Value) (hq : opAtE n ops i E = some (some d, callFunc f args)) (hr : (callFunc f args).run P w = .ok (.value v) w') (h : WL P n ops Q (i + 1) ((d, v) :: E) w') : WL P n ops Q i E w := by
  obtain ⟨o, ho, hw, hk, hdst, hd, he⟩ := opAtE_spec hq
  refine WL.value ho hw hk (fun x hx => hd x (hdst ▸ hx)) (by rw [he]; exact hr) ?_
  rw [hdst]; exact h
theorem run_overlaps {f : FuncId} {fn : Func} {tS tR e sz : Nat} (hf : P.funcs[f]? = some fn) (hname : (fn.name == "runtime.NumGoroutine") = false) (hb : fn.body.isNone = true) (hn : Extern.findNext fn = none) (he : Extern.find fn = some (Extern.SlicesOverlaps.overlaps #[tS, tS] #[tR]))
    (hty : sliceTy P tS e sz = true) {a b la ca lb cb oa ob : Nat} {La Lb : Array Value} {Ta Tb : TypeId} (ha : w.heap[a]? = some (.cells La Ta (0, 0))) (hb' : w.heap[b]? = some (.cells Lb Tb (0, 0))) (hne : a ≠ b) (hk : Lb.size ≠ 0) :
    (callFunc f #[.slice (some ⟨a, oa, none⟩) la ca, .slice (some ⟨b, ob, none⟩) lb cb]).run P w = .ok (.value (.bool false)) w := by
  obtain ⟨hu, inf, hi, hs⟩ := sliceTy_spec hty
  have hz : ∀ w, (Go.sizeOf e).run P w = .ok sz w := fun w => by unfold sizeOf; rw [Sem.run_bind]; simp [typeInfo, program, Sem.run, hi, hs]
  rw [run_callFunc_extern hf hname hb hn he,
    Lib.run_overlaps_apart w tS tR e hu sz hz ⟨a, oa, none⟩ ⟨b, ob, none⟩ la ca lb cb hne Ta Tb La.size Lb.size (by simp [World.shape?, ha]) (by simp [World.shape?, hb']) hk (by simp [World.frozen?, ha]) (by simp [World.frozen?, ha])]
  rfl
theorem run_shl {t : TypeId} {X Y : Operand} {k yk : IntKind} {x y : Int} {b : Nat} (hy : y = (b : Int)) (hb : b ≤ k.bits) : (do eqGuard .shl t X Y (.int k x) (.int yk y); binOp .shl t (.int k x) (.int yk y) : Sem Value).run P w = .ok (.int k (k.wrap (x * 2 ^ b))) w := by
  subst hy
  have h0 : ¬ ((b : Int) < 0) := by omega
  simp [eqGuard, binOp, Op.shift, h0, Nat.min_eq_left hb]
end
end Go.Tw
