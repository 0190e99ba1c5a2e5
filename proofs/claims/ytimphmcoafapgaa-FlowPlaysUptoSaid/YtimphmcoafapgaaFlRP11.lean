/- towpathlaw11.FlowPlays returns true for every input whose bulk is at most 1048576, and changes no argument: the given statement. Conditions: those of the given row alone. -/
import Derived.Test.YtimphmcoafapgaaRows
import Derived.Test.YtimphmcoafapgaaChecked
import Derived.Test.YtimphmcoafapgaaFlT11
import Derived.Test.YtimphmcoafapgaaTwBulk
import Derived.Carry
import Derived.JoinedCond
import Derived.ReadAgain
import Derived.ChangeSame
import Derived.ChangeVars
import Derived.JoinedOf
import Derived.RowKit
import Derived.RowKitTokens
import Derived.OpenShut
import Derived.ChangeMaps5
namespace Go.Proofs.Ytimphmcoafapgaa
set_option linter.unusedSimpArgs false
set_option linter.unusedVariables false
set_option linter.unusedSectionVars false
open Go Go.ChangeShapes Go.WideShapes Go.RowKit Go.Tw
set_option maxRecDepth 100000
theorem flowPlays_own : ownKnob Try.prog.godebug = none := by kernel_rfl
theorem flowPlays_laidOut : laidOutB Try.prog = true := by kernel_rfl
theorem flowPlays_params : Try.f5.params = #[3, 3, 46] := by kernel_rfl
theorem flowPlays_und4 : Try.prog.underlying 4 = some .bool := by kernel_rfl
theorem flowPlays_u3 : Try.prog.underlying 3 = some (.int .i64) := by kernel_rfl
theorem flowPlays_u30 : Try.prog.underlying 30 = some (.int .u32) := by kernel_rfl
theorem flowPlays_b41 : Try.prog.underlying 41 = some (.slice 32) := by kernel_rfl
theorem flowPlays_b46 : Try.prog.underlying 46 = some (.slice 53) := by kernel_rfl
theorem flowPlays_c3 : Try.prog.cellsOf 3 = 1 := by kernel_rfl
theorem flowPlays_c30 : Try.prog.cellsOf 30 = 1 := by kernel_rfl
theorem flowPlays_c32 : Try.prog.cellsOf 32 = 5 := by kernel_rfl
theorem flowPlays_c41 : Try.prog.cellsOf 41 = 1 := by kernel_rfl
theorem flowPlays_c53 : Try.prog.cellsOf 53 = 11 := by kernel_rfl
theorem flowPlays_T53 : fieldTab Try.prog 53 = some [(3, 0), (32, 1), (41, 6), (30, 7), (3, 8), (3, 9), (3, 10)] := by kernel_rfl
theorem flowPlays_T32 : fieldTab Try.prog 32 = some [(3, 0), (30, 1), (3, 2), (30, 3), (3, 4)] := by kernel_rfl
theorem flowPlays_flow {H : Type} {henc : TypeId × Value → H} {w : World} {base : Nat} {spare : Nat → Bool} {held : Bool} : Opn henc Try.prog w base spare held 32 cellsF bdF := by
  refine ⟨fun fuel cs x h => ?_⟩
  obtain ⟨hl, hf⟩ := trod_tab flowPlays_T32 h
  rw [flowPlays_c32] at hl
  match cs, hl with
  | [a, b, c, d, e], _ =>
    obtain ⟨n0, y0, h0⟩ := hf (3, 0) (by simp)
    obtain ⟨n1, y1, h1⟩ := hf (30, 1) (by simp)
    obtain ⟨n2, y2, h2⟩ := hf (3, 2) (by simp)
    obtain ⟨n3, y3, h3⟩ := hf (30, 3) (by simp)
    obtain ⟨n4, y4, h4⟩ := hf (3, 4) (by simp)
    simp only [flowPlays_c3, flowPlays_c30, List.drop_zero, List.drop_succ_cons, List.take_succ_cons, List.take_zero] at h0 h1 h2 h3 h4
    obtain ⟨v0, e0, _, w0⟩ := DataW.trod_int flowPlays_u3 h0
    obtain ⟨v1, e1, _, w1⟩ := DataW.trod_int flowPlays_u30 h1
    obtain ⟨v2, e2, _, w2⟩ := DataW.trod_int flowPlays_u3 h2
    obtain ⟨v3, e3, _, w3⟩ := DataW.trod_int flowPlays_u30 h3
    obtain ⟨v4, e4, _, w4⟩ := DataW.trod_int flowPlays_u3 h4
    simp only [List.cons.injEq, and_true] at e0 e1 e2 e3 e4
    subst e0 e1 e2 e3 e4
    have hb1 := bounds_u32 w1
    have hb3 := bounds_u32 w3
    exact ⟨⟨v0, v1, v2, v3, v4⟩, rfl, ⟨by dsimp only; omega, by dsimp only; omega⟩⟩
theorem flowPlays_fop {H : Type} {henc : TypeId × Value → H} {w : World} {spare : Nat → Bool} {held : Bool} : Opn henc Try.prog w 0 spare held 53 cellO (fopAt w) := by
  refine ⟨fun fuel cs x h => ?_⟩
  obtain ⟨hl, hf⟩ := trod_tab flowPlays_T53 h
  rw [flowPlays_c53] at hl
  match cs, hl with
  | [a, b1, b2, b3, b4, b5, c, d, e, g, i], _ =>
    obtain ⟨n0, y0, h0⟩ := hf (3, 0) (by simp)
    obtain ⟨n1, y1, h1⟩ := hf (32, 1) (by simp)
    obtain ⟨n2, y2, h2⟩ := hf (41, 6) (by simp)
    obtain ⟨n3, y3, h3⟩ := hf (30, 7) (by simp)
    obtain ⟨n4, y4, h4⟩ := hf (3, 8) (by simp)
    obtain ⟨n5, y5, h5⟩ := hf (3, 9) (by simp)
    obtain ⟨n6, y6, h6⟩ := hf (3, 10) (by simp)
    simp only [flowPlays_c3, flowPlays_c30, flowPlays_c32, flowPlays_c41, List.drop_zero, List.drop_succ_cons, List.take_succ_cons, List.take_zero] at h0 h1 h2 h3 h4 h5 h6
    obtain ⟨v0, e0, _, w0⟩ := DataW.trod_int flowPlays_u3 h0
    obtain ⟨f, e1, hbf⟩ := flowPlays_flow.out _ _ _ h1
    obtain ⟨A2, x2, c2', e2, hr2, _, hx2, hm2⟩ := opn_slice flowPlays_b41 flowPlays_c32 (by decide) cellsF_len flowPlays_flow h2
    obtain ⟨v3, e3, _, w3⟩ := DataW.trod_int flowPlays_u30 h3
    obtain ⟨v4, e4, _, w4⟩ := DataW.trod_int flowPlays_u3 h4
    obtain ⟨v5, e5, _, w5⟩ := DataW.trod_int flowPlays_u3 h5
    obtain ⟨v6, e6, _, w6⟩ := DataW.trod_int flowPlays_u3 h6
    simp only [cellsF, List.cons.injEq, and_true] at e0 e1 e2 e3 e4 e5 e6
    obtain ⟨r1, r2, r3, r4, r5⟩ := e1
    subst e0 r1 r2 r3 r4 r5 e2 e3 e4 e5 e6
    exact ⟨⟨v0, f, A2, x2.length, c2', x2, v3, v4, v5, v6⟩, rfl, hr2, rfl, hx2, hbf⟩

theorem flowPlays_bslice {H : Type} (l s : List (DataW H)) : Rows.uptoBulk (.slice l s) = Rows.uptoBulkAll l + Rows.uptoBulkAll s + 1 := by simp [Rows.uptoBulk]
theorem flowPlays_bcons {H : Type} (d : DataW H) (r : List (DataW H)) : Rows.uptoBulkAll (d :: r) = Rows.uptoBulk d + Rows.uptoBulkAll r := by simp [Rows.uptoBulkAll]
theorem flowPlays_bnil {H : Type} : Rows.uptoBulkAll ([] : List (DataW H)) = 0 := by simp [Rows.uptoBulkAll]
theorem flowPlays_bagg {H : Type} (l : List (DataW H)) : Rows.uptoBulk (.agg l) = Rows.uptoBulkAll l + 1 := by simp [Rows.uptoBulk]
theorem flowPlays_bint {H : Type} (k : IntKind) (n : Int) : Rows.uptoBulk (.lit (.int k n) : DataW H) = 1 := by simp [Rows.uptoBulk]
theorem flowPlays_ones {α : Type} : ∀ l : List α, (l.map fun _ => 1).sum = l.length
  | [] => rfl
  | _ :: r => by rw [List.map_cons, List.sum_cons, flowPlays_ones r, List.length_cons]; omega
theorem flowPlays_flowB {H : Type} {henc : TypeId × Value → H} {w : World} {base : Nat} {spare : Nat → Bool} {held : Bool} : ∀ fuel cs (x : DataW H × List MemPlace), DataW.trod henc Try.prog w base spare held fuel 32 cs = some x → ∃ f, cs = cellsF f ∧ True ∧ 1 ≤ Rows.uptoBulk x.1 := by
  intro fuel cs x h
  obtain ⟨f, e, _⟩ := flowPlays_flow.out _ _ _ h
  obtain ⟨_, ys, _, hx, _⟩ := trod_tabB flowPlays_T32 h
  refine ⟨f, e, trivial, ?_⟩
  rw [hx, flowPlays_bagg]; omega
theorem flowPlays_fopB {H : Type} {henc : TypeId × Value → H} {w : World} {spare : Nat → Bool} {held : Bool} : ∀ fuel cs (x : DataW H × List MemPlace), DataW.trod henc Try.prog w 0 spare held fuel 53 cs = some x → ∃ o, cs = cellO o ∧ fopAt w o ∧ 1 + o.fs.length ≤ Rows.uptoBulk x.1 := by
  intro fuel cs x h
  obtain ⟨o, e, ho⟩ := flowPlays_fop.out _ _ _ h
  refine ⟨o, e, ho, ?_⟩
  obtain ⟨hl, ys, hyl, hx, hf⟩ := trod_tabB flowPlays_T53 h
  match ys, hyl with
  | [y0, y1, y2, y3, y4, y5, y6], _ =>
    obtain ⟨n2, z2, q2, h2⟩ := hf 2 (41, 6) rfl
    cases q2
    subst e
    simp only [flowPlays_c41, cellO, List.drop_zero, List.drop_succ_cons, List.take_succ_cons, List.take_zero] at h2
    obtain ⟨A2, x2, c2', e2, hr2, _, hx2, hm2, hb2⟩ := opn_sliceB (wt := fun _ : Flow => 1) (B := Rows.uptoBulk) (BA := Rows.uptoBulkAll) flowPlays_bnil flowPlays_bcons flowPlays_bslice flowPlays_b41 flowPlays_c32 (by decide) cellsF_len flowPlays_flowB h2
    simp only [List.cons.injEq, Value.slice.injEq, and_true] at e2
    obtain ⟨_, e3, _⟩ := e2
    rw [flowPlays_ones] at hb2
    have hlen := ho.len
    rw [hx, flowPlays_bagg]
    simp only [List.map_cons, List.map_nil, flowPlays_bcons, flowPlays_bnil]
    omega
set_option maxRecDepth 100000 in
theorem flowPlays_lifted (os : Os) (started : os.Started) (H : Type) (enc : TypeId × Value → H) (F0 : Stop.Interp) :
    ReturnsInHanded {} Try.checked os 5 .any ((Rows.OpenSpec.upto Rows.flowPlaysSpec).pre6 enc Try.prog Try.f5 Rows.flowPlaysUptoRow.domain false) (((Rows.OpenSpec.upto Rows.flowPlaysSpec).at F0).post enc Try.prog Try.f5 false true false false) := by
  refine returnsInHanded_of_cond (C := Try.checked) (s := (Rows.OpenSpec.upto Rows.flowPlaysSpec)) (k := Rows.uptoSmall) rfl flowPlays_own started (by kernel_rfl) Try.func5
    (OpenSpec.witness (enc := enc) (C := Try.checked) (s := (Rows.OpenSpec.upto Rows.flowPlaysSpec)) (k := Rows.uptoSmall) rfl false ⟨#[], #[.int .i64 0, .int .i64 0, .slice none 0 0], []⟩ 8 (by kernel_rfl) (by kernel_rfl) (by kernel_rfl) (x := ([.lit (.int .i64 0), .lit (.int .i64 0), .nil], [], [])) (by kernel_rfl) (by kernel_rfl) (by kernel_rfl)) ?_
  intro W base args ds gs before hval0 hW _ hk _
  have hval : ∀ (j : Nat) t v, Try.f5.params[j]? = some t → args[j]? = some v → Value.okWide Try.prog W .any base t v := hval0
  have hW' := hW
  obtain ⟨p, q, hA0, hV0, rfl, hfz, hnd⟩ := hW
  have hA : DataW.TrodAll enc Try.prog W 0 (fun _ => true) true Try.f5.params.toList args.toList ds p := hA0
  have hV : DataW.TrodVars enc Try.prog W (fun _ => true) [] gs q := hV0
  rw [flowPlays_params] at hA hval
  obtain ⟨v0, vs0, d0, ds0, p0, q0, hargs, rfl, rfl, h0, r0⟩ := trodAll_cons hA
  obtain ⟨v1, vs1, d1, ds1, p1, q1, rfl, rfl, rfl, h1, r1⟩ := trodAll_cons r0
  obtain ⟨v2, vs2, d2, ds2, p2, q2, rfl, rfl, rfl, h2, r2⟩ := trodAll_cons r1
  obtain ⟨rfl, rfl, rfl⟩ := trodAll_nil r2
  obtain rfl : args = #[v0, v1, v2] := Array.ext' (by simpa using hargs)
  obtain ⟨rfl, rfl⟩ := trodVars_none hV
  obtain ⟨tr, rfl, rfl, rfl, w0⟩ := open_int flowPlays_u3 (hval 0 3 v0 rfl rfl) h0
  obtain ⟨un, rfl, rfl, rfl, w1⟩ := open_int flowPlays_u3 (hval 1 3 v1 rfl rfl) h1
  have h2k := h2
  clear hA0 hval0
  have hlt2 : ∀ x ∈ p2, x.block < W.heap.size := fun x hx => hW'.lt x (by simp [hx])
  obtain ⟨a2_, l2_, c2_, rfl⟩ := okWide_slice flowPlays_b46 (hval 2 46 v2 rfl rfl)
  obtain ⟨fuel2, hf2⟩ := h2
  obtain ⟨A2, ops, C2, hcs2, hr2, hok2, hlc2, hcm2, hbk2⟩ := opn_sliceB (wt := fun o : FOp => 1 + o.fs.length) (B := Rows.uptoBulk) (BA := Rows.uptoBulkAll) flowPlays_bnil flowPlays_bcons flowPlays_bslice flowPlays_b46 flowPlays_c53 (by decide) cellO_len flowPlays_fopB hf2
  simp only [Value.cells, List.cons.injEq, Value.slice.injEq, and_true] at hcs2
  obtain ⟨rfl, rfl, rfl⟩ := hcs2
  have hbb2 : totF ops ≤ 1048576 := by
    have q_ := hk
    unfold Rows.uptoSmall at q_
    rw [decide_eq_true_eq] at q_
    simp only [List.append_nil, flowPlays_bcons, flowPlays_bnil, flowPlays_bint] at q_
    have z_ : (ops.map fun o : FOp => 1 + o.fs.length).sum ≤ Rows.uptoBulk d2 := hbk2
    unfold totF
    omega
  have hcl2 : ops.length ≤ 9223372036854775807 := by have z_ := totF_len ops; omega
  refine (FlowPlays_ct tr un a2_ c2_ ops W hr2 hok2 hcl2 hbb2).mono fun e W' ⟨he, hg⟩ => ?_
  subst he
  have e1 : ((Rows.OpenSpec.upto Rows.flowPlaysSpec).at F0).fn H ([.lit (.int .i64 tr), .lit (.int .i64 un), d2] ++ []) = { results := [.lit (.bool true)], args := [.lit (.int .i64 tr), .lit (.int .i64 un), d2] } := rfl
  refine ⟨_, rfl, _, _, _, [], ([] ++ ([] ++ (p2))), [], by have q_ := hW'; simp at q_ ⊢; exact q_, ?_, ?_, ?_, hg.below.frame _, fun h => by cases h⟩
  · rw [e1]; exact trodAll_mk1 (shut_bool flowPlays_und4 true)
  · rw [e1]; exact trodAll_mk3 (shut_int flowPlays_u3 w0) (shut_int flowPlays_u3 w1) (Below.trod flowPlays_laidOut (by kernel_rfl) (of_decide_eq_true (by kernel_rfl)) h2k hg.below hlt2)
  · rw [e1]; rfl
theorem flowPlays_holds : Rows.FlowPlaysUptoSaid :=
  OpenClaim.holds_of_cond 5 Try.f5 rfl rfl rfl rfl rfl rfl rfl ⟨rfl, rfl, rfl, rfl, rfl⟩ rfl rfl rfl rfl rfl (by kernel_rfl) Try.func5 (by kernel_rfl)
    (of_decide_eq_true (by kernel_rfl)) (by unfold Func.isWrapper; first | (rw [if_pos (by decide +kernel)]; kernel_rfl) | (rw [if_neg (of_decide_eq_false (by kernel_rfl))]; exact ⟨rfl, rfl⟩))
    (fun os started H enc _ F0 => flowPlays_lifted os started H enc F0)
#print axioms flowPlays_holds
end Go.Proofs.Ytimphmcoafapgaa
