/- towpathlaw13.StablePlays returns true for every input whose bulk is at most 1048576, and changes no argument: the given statement. Conditions: those of the given row alone. -/
import Derived.Test.YtelmklombehhkaaRows
import Derived.Test.YtelmklombehhkaaChecked
import Derived.Test.YtelmklombehhkaaSbQ13
import Derived.Test.YtelmklombehhkaaTwBulk
import Derived.Carry
import Derived.JoinedCond
import Derived.ReadAgain
import Derived.ChangeSame
import Derived.ChangeVars
import Derived.JoinedOf
import Derived.RowKit
import Derived.RowKitTokens
import Derived.OpenShut
import Derived.ChangeMaps5
namespace Go.Proofs.Ytelmklombehhkaa
set_option linter.unusedSimpArgs false
set_option linter.unusedVariables false
set_option linter.unusedSectionVars false
open Go Go.ChangeShapes Go.WideShapes Go.RowKit Go.Tw
set_option maxRecDepth 100000
theorem stablePlays_own : ownKnob Try.prog.godebug = none := by kernel_rfl
theorem stablePlays_laidOut : laidOutB Try.prog = true := by kernel_rfl
theorem stablePlays_params : Try.f6.params = #[3, 47] := by kernel_rfl
theorem stablePlays_und4 : Try.prog.underlying 4 = some .bool := by kernel_rfl
theorem stablePlays_u3 : Try.prog.underlying 3 = some (.int .i64) := by kernel_rfl
theorem stablePlays_b22 : Try.prog.underlying 22 = some (.slice 5) := by kernel_rfl
theorem stablePlays_b5 : Try.prog.underlying 5 = some (.int .u8) := by kernel_rfl
theorem stablePlays_c5 : Try.prog.cellsOf 5 = 1 := by kernel_rfl
theorem byte_wf {x : Int} (h : (Lit.int .u8 x).wf = true) : 0 ≤ x ∧ x < 256 := by
  have h1 := bounds_u8 h
  omega
theorem st_T : fieldTab Try.prog 54 = some [(3, 0), (9, 1), (40, 2), (22, 3), (3, 4)] := by kernel_rfl
theorem st_c54 : Try.prog.cellsOf 54 = 5 := by kernel_rfl
theorem st_c3 : Try.prog.cellsOf 3 = 1 := by kernel_rfl
theorem st_c9 : Try.prog.cellsOf 9 = 1 := by kernel_rfl
theorem st_c22 : Try.prog.cellsOf 22 = 1 := by kernel_rfl
theorem st_c40 : Try.prog.cellsOf 40 = 1 := by kernel_rfl
theorem st_s9 : Try.prog.underlying 9 = some .string := by kernel_rfl
theorem st_u3 : Try.prog.underlying 3 = some (.int .i64) := by kernel_rfl
theorem st_b40 : Try.prog.underlying 40 = some (.slice 9) := by kernel_rfl
theorem st_b47 : Try.prog.underlying 47 = some (.slice 54) := by kernel_rfl
theorem opn_stop {H : Type} {henc : TypeId × Value → H} {w : World} {base : Nat} {spare : Nat → Bool} {held : Bool} : Opn henc Try.prog w base spare held 54 cellO (opAt w) := by
  refine ⟨fun fuel cs x h => ?_⟩
  obtain ⟨hl, hf⟩ := trod_tab st_T h
  rw [st_c54] at hl
  match cs, hl with
  | [c0, c1, c2, c3, c4], _ =>
    obtain ⟨n0, y0, h0⟩ := hf (3, 0) (by simp)
    obtain ⟨n1, y1, h1⟩ := hf (9, 1) (by simp)
    obtain ⟨n2, y2, h2⟩ := hf (40, 2) (by simp)
    obtain ⟨n3, y3, h3⟩ := hf (22, 3) (by simp)
    obtain ⟨n4, y4, h4⟩ := hf (3, 4) (by simp)
    simp only [st_c3, st_c9, st_c22, st_c40, List.drop_zero, List.drop_succ_cons, List.take_succ_cons, List.take_zero] at h0 h1 h2 h3 h4
    obtain ⟨v0, e0, _, w0⟩ := DataW.trod_int st_u3 h0
    obtain ⟨v1, e1, _, w1⟩ := DataW.trod_string st_s9 h1
    obtain ⟨A2, x2, c2', e2, hr2, hw2, hx2, hm2⟩ := opn_slice st_b40 st_c9 (by decide) Go.Tw.encS_len (opn_string st_s9) h2
    obtain ⟨A3, x3, c3', e3, hr3, hw3, hx3, hm3⟩ := opn_slice stablePlays_b22 stablePlays_c5 (by decide) (Go.Tw.encI_len _) (opn_int stablePlays_b5) h3
    obtain ⟨v4, e4, _, w4⟩ := DataW.trod_int st_u3 h4
    simp only [List.cons.injEq, and_true] at e0 e1 e2 e3 e4
    subst e0 e1 e2 e3 e4
    simp only [maxLen] at hm2 hm3 w1
    have hw3' : byteL x3 := fun z hz => byte_wf (hw3 z hz)
    exact ⟨⟨v0, v1, ⟨A2, x2.length, c2', x2⟩, ⟨A3, x3.length, c3', x3⟩, v4⟩, rfl, ⟨⟨hr3, rfl, hw3'⟩, hr2, rfl, by dsimp only; omega, by dsimp only; omega, by dsimp only; omega, bounds_i64 w4, bounds_i64 w0⟩⟩
theorem stablePlays_bslice {H : Type} (l s : List (DataW H)) : Rows.uptoBulk (.slice l s) = Rows.uptoBulkAll l + Rows.uptoBulkAll s + 1 := by simp [Rows.uptoBulk]
theorem stablePlays_bcons {H : Type} (d : DataW H) (r : List (DataW H)) : Rows.uptoBulkAll (d :: r) = Rows.uptoBulk d + Rows.uptoBulkAll r := by simp [Rows.uptoBulkAll]
theorem stablePlays_bnil {H : Type} : Rows.uptoBulkAll ([] : List (DataW H)) = 0 := by simp [Rows.uptoBulkAll]
theorem stablePlays_bagg {H : Type} (l : List (DataW H)) : Rows.uptoBulk (.agg l) = Rows.uptoBulkAll l + 1 := by simp [Rows.uptoBulk]
theorem stablePlays_bint {H : Type} (k : IntKind) (n : Int) : Rows.uptoBulk (.lit (.int k n) : DataW H) = 1 := by simp [Rows.uptoBulk]
theorem stablePlays_ones {α : Type} : ∀ l : List α, (l.map fun _ => 1).sum = l.length
  | [] => rfl
  | _ :: r => by rw [List.map_cons, List.sum_cons, stablePlays_ones r, List.length_cons]; omega
theorem sp_fopB {H : Type} {henc : TypeId × Value → H} {w : World} {base : Nat} {spare : Nat → Bool} {held : Bool} : ∀ fuel cs (x : DataW H × List MemPlace), DataW.trod henc Try.prog w base spare held fuel 54 cs = some x → ∃ o, cs = cellO o ∧ (opAt w o ∧ base = base) ∧ o.row.n + o.more.n ≤ Rows.uptoBulk x.1 := by
  intro fuel cs x h
  obtain ⟨o, e, ho⟩ := (opn_stop (w := w)).out _ _ _ h
  refine ⟨o, e, ⟨ho, rfl⟩, ?_⟩
  obtain ⟨hl, ys, hyl, hx, hf⟩ := trod_tabB st_T h
  match ys, hyl with
  | [y0, y1, y2, y3, y4], _ =>
    obtain ⟨n2, z2, q2, h2⟩ := hf 2 (40, 2) rfl
    obtain ⟨n3, z3, q3, h3⟩ := hf 3 (22, 3) rfl
    cases q2
    cases q3
    subst e
    simp only [st_c40, st_c22, cellO, List.drop_zero, List.drop_succ_cons, List.take_succ_cons, List.take_zero] at h2 h3
    obtain ⟨A2, x2, c2', e2, hr2, _, hx2, hm2, hb2⟩ := opn_sliceB (wt := fun _ : ByteArray => 1) (B := Rows.uptoBulk) (BA := Rows.uptoBulkAll) stablePlays_bnil stablePlays_bcons stablePlays_bslice st_b40 st_c9 (by decide) Go.Tw.encS_len (ok := fun _ => True) (fun _ _ _ g => by
      obtain ⟨s, e, e2, _⟩ := DataW.trod_string st_s9 g
      exact ⟨s, e, trivial, by rw [e2]; simp [Rows.uptoBulk]⟩) h2
    obtain ⟨A3, x3, c3', e3, hr3, _, hx3, hm3, hb3⟩ := opn_sliceB (wt := fun _ : Int => 1) (B := Rows.uptoBulk) (BA := Rows.uptoBulkAll) stablePlays_bnil stablePlays_bcons stablePlays_bslice stablePlays_b22 stablePlays_c5 (by decide) (Go.Tw.encI_len .u8) (ok := fun _ => True) (fun _ _ _ g => by
      obtain ⟨s, e, e2, _⟩ := DataW.trod_int stablePlays_b5 g
      exact ⟨s, e, trivial, by rw [e2]; simp [Rows.uptoBulk]⟩) h3
    simp only [List.cons.injEq, Value.slice.injEq, and_true] at e2 e3
    obtain ⟨_, e2, _⟩ := e2
    obtain ⟨_, e3, _⟩ := e3
    rw [stablePlays_ones] at hb2 hb3
    rw [hx, stablePlays_bagg]
    simp only [List.map_cons, List.map_nil, stablePlays_bcons, stablePlays_bnil]
    omega
set_option maxRecDepth 100000 in
theorem stablePlays_lifted (os : Os) (started : os.Started) (H : Type) (enc : TypeId × Value → H) (F0 : Stop.Interp) :
    ReturnsInHanded {} Try.checked os 6 .any ((Rows.OpenSpec.upto Rows.stablePlaysSpec).pre6 enc Try.prog Try.f6 Rows.stablePlaysUptoRow.domain false) (((Rows.OpenSpec.upto Rows.stablePlaysSpec).at F0).post enc Try.prog Try.f6 false true false false) := by
  refine returnsInHanded_of_cond (C := Try.checked) (s := (Rows.OpenSpec.upto Rows.stablePlaysSpec)) (k := Rows.uptoSmall) rfl stablePlays_own started (by kernel_rfl) Try.func6
    (OpenSpec.witness (enc := enc) (C := Try.checked) (s := (Rows.OpenSpec.upto Rows.stablePlaysSpec)) (k := Rows.uptoSmall) rfl false ⟨#[], #[.int .i64 0, .slice none 0 0], []⟩ 8 (by kernel_rfl) (by kernel_rfl) (by kernel_rfl) (x := ([.lit (.int .i64 0), .nil], [], [])) (by kernel_rfl) (by kernel_rfl) (by kernel_rfl)) ?_
  intro W base args ds gs before hval0 hW _ hk _
  have hval : ∀ (j : Nat) t v, Try.f6.params[j]? = some t → args[j]? = some v → Value.okWide Try.prog W .any base t v := hval0
  have hW' := hW
  obtain ⟨p, q, hA0, hV0, rfl, hfz, hnd⟩ := hW
  have hA : DataW.TrodAll enc Try.prog W 0 (fun _ => true) true Try.f6.params.toList args.toList ds p := hA0
  have hV : DataW.TrodVars enc Try.prog W (fun _ => true) [] gs q := hV0
  rw [stablePlays_params] at hA hval
  obtain ⟨v0, vs0, d0, ds0, p0, q0, hargs, rfl, rfl, h0, r0⟩ := trodAll_cons hA
  obtain ⟨v1, vs1, d1, ds1, p1, q1, rfl, rfl, rfl, h1, r1⟩ := trodAll_cons r0
  obtain ⟨rfl, rfl, rfl⟩ := trodAll_nil r1
  obtain rfl : args = #[v0, v1] := Array.ext' (by simpa using hargs)
  obtain ⟨rfl, rfl⟩ := trodVars_none hV
  obtain ⟨size, rfl, rfl, rfl, w0⟩ := open_int stablePlays_u3 (hval 0 3 v0 rfl rfl) h0
  have h1k := h1
  clear hA0 hval0
  have hlt1 : ∀ x ∈ p1, x.block < W.heap.size := fun x hx => hW'.lt x (by simp [hx])
  obtain ⟨a1_, l1_, c1_, rfl⟩ := okWide_slice st_b47 (hval 1 47 v1 rfl rfl)
  obtain ⟨fuel1, hf1⟩ := h1
  obtain ⟨A1, ops, C1, hcs1, hr1, hok1, hlc1, hcm1, hbk1⟩ := opn_sliceB (wt := fun o : StOp => o.row.n + o.more.n) (B := Rows.uptoBulk) (BA := Rows.uptoBulkAll) stablePlays_bnil stablePlays_bcons stablePlays_bslice st_b47 st_c54 (by decide) cellO_len sp_fopB hf1
  simp only [Value.cells, List.cons.injEq, Value.slice.injEq, and_true] at hcs1
  obtain ⟨rfl, rfl, rfl⟩ := hcs1
  simp only [maxLen] at hcm1
  have hbk1_ : (ops.map fun o : StOp => o.row.n + o.more.n).sum ≤ Rows.uptoBulk d1 := hbk1
  have hbb1 : ∀ o ∈ ops, o.row.n ≤ 1048576 ∧ o.more.n ≤ 1048576 := by
    have q_ := hk
    unfold Rows.uptoSmall at q_
    rw [decide_eq_true_eq] at q_
    simp only [List.append_nil, stablePlays_bcons, stablePlays_bnil, stablePlays_bint] at q_
    intro o ho
    have z_ : o.row.n + o.more.n ≤ (ops.map fun o : StOp => o.row.n + o.more.n).sum := by
      obtain ⟨s, t, rfl⟩ := List.append_of_mem ho
      simp only [List.map_append, List.map_cons, List.sum_append, List.sum_cons]
      omega
    omega
  refine (StablePlays_ct a1_ c1_ ops size W hr1 (fun o h_ => (hok1 o h_).1) (by omega) hbb1).mono fun e W' ⟨he, hg⟩ => ?_
  subst he
  have e1 : ((Rows.OpenSpec.upto Rows.stablePlaysSpec).at F0).fn H ([.lit (.int .i64 size), d1] ++ []) = { results := [.lit (.bool true)], args := [.lit (.int .i64 size), d1] } := rfl
  refine ⟨_, rfl, _, _, _, [], ([] ++ (p1)), [], by have q_ := hW'; simp at q_ ⊢; exact q_, ?_, ?_, ?_, hg.below.frame _, fun h => by cases h⟩
  · rw [e1]; exact trodAll_mk1 (shut_bool stablePlays_und4 true)
  · rw [e1]; exact trodAll_mk2 (shut_int stablePlays_u3 w0) (Below.trod stablePlays_laidOut (by kernel_rfl) (of_decide_eq_true (by kernel_rfl)) h1k hg.below hlt1)
  · rw [e1]; rfl
theorem stablePlays_holds : Rows.StablePlaysUptoSaid :=
  OpenClaim.holds_of_cond 6 Try.f6 rfl rfl rfl rfl rfl rfl rfl ⟨rfl, rfl, rfl, rfl, rfl⟩ rfl rfl rfl rfl rfl (by kernel_rfl) Try.func6 (by kernel_rfl)
    (of_decide_eq_true (by kernel_rfl)) (by unfold Func.isWrapper; first | (rw [if_pos (by decide +kernel)]; kernel_rfl) | (rw [if_neg (of_decide_eq_false (by kernel_rfl))]; exact ⟨rfl, rfl⟩))
    (fun os started H enc _ F0 => stablePlays_lifted os started H enc F0)
#print axioms stablePlays_holds
end Go.Proofs.Ytelmklombehhkaa
