/- towpathlaw11.FlowBounds returns true for every input, and changes no argument: the given statement. Conditions: those of the given row alone. -/
import Derived.Test.YtimphmcoafapgaaRows
import Derived.Test.YtimphmcoafapgaaChecked
import Derived.Test.YtimphmcoafapgaaFlM11
import Derived.Test.YtimphmcoafapgaaTwOpen
import Derived.Carry
import Derived.ChangeSame
import Derived.ChangeVars
import Derived.JoinedOf
import Derived.RowKit
import Derived.RowKitTokens
import Derived.OpenShut
import Derived.ChangeMaps5
namespace Go.Proofs.Ytimphmcoafapgaa
set_option linter.unusedSimpArgs false
set_option linter.unusedVariables false
set_option linter.unusedSectionVars false
open Go Go.ChangeShapes Go.WideShapes Go.RowKit Go.Tw
set_option maxRecDepth 100000
theorem flowBounds_own : ownKnob Try.prog.godebug = none := by kernel_rfl
theorem flowBounds_laidOut : laidOutB Try.prog = true := by kernel_rfl
theorem flowBounds_params : Try.f6.params = #[66] := by kernel_rfl
theorem flowBounds_und4 : Try.prog.underlying 4 = some .bool := by kernel_rfl
theorem flowBounds_u3 : Try.prog.underlying 3 = some (.int .i64) := by kernel_rfl
theorem flowBounds_u30 : Try.prog.underlying 30 = some (.int .u32) := by kernel_rfl
theorem flowBounds_b41 : Try.prog.underlying 41 = some (.slice 32) := by kernel_rfl
theorem flowBounds_b46 : Try.prog.underlying 46 = some (.slice 53) := by kernel_rfl
theorem flowBounds_c3 : Try.prog.cellsOf 3 = 1 := by kernel_rfl
theorem flowBounds_c30 : Try.prog.cellsOf 30 = 1 := by kernel_rfl
theorem flowBounds_c32 : Try.prog.cellsOf 32 = 5 := by kernel_rfl
theorem flowBounds_c41 : Try.prog.cellsOf 41 = 1 := by kernel_rfl
theorem flowBounds_c46 : Try.prog.cellsOf 46 = 1 := by kernel_rfl
theorem flowBounds_c53 : Try.prog.cellsOf 53 = 11 := by kernel_rfl
theorem flowBounds_T53 : fieldTab Try.prog 53 = some [(3, 0), (32, 1), (41, 6), (30, 7), (3, 8), (3, 9), (3, 10)] := by kernel_rfl
theorem flowBounds_T32 : fieldTab Try.prog 32 = some [(3, 0), (30, 1), (3, 2), (30, 3), (3, 4)] := by kernel_rfl
theorem flowBounds_flow {H : Type} {henc : TypeId × Value → H} {w : World} {base : Nat} {spare : Nat → Bool} {held : Bool} : Opn henc Try.prog w base spare held 32 cellsF (fun _ => True) := by
  refine ⟨fun fuel cs x h => ?_⟩
  obtain ⟨hl, hf⟩ := trod_tab flowBounds_T32 h
  rw [flowBounds_c32] at hl
  match cs, hl with
  | [a, b, c, d, e], _ =>
    obtain ⟨n0, y0, h0⟩ := hf (3, 0) (by simp)
    obtain ⟨n1, y1, h1⟩ := hf (30, 1) (by simp)
    obtain ⟨n2, y2, h2⟩ := hf (3, 2) (by simp)
    obtain ⟨n3, y3, h3⟩ := hf (30, 3) (by simp)
    obtain ⟨n4, y4, h4⟩ := hf (3, 4) (by simp)
    simp only [flowBounds_c3, flowBounds_c30, List.drop_zero, List.drop_succ_cons, List.take_succ_cons, List.take_zero] at h0 h1 h2 h3 h4
    obtain ⟨v0, e0, _, w0⟩ := DataW.trod_int flowBounds_u3 h0
    obtain ⟨v1, e1, _, w1⟩ := DataW.trod_int flowBounds_u30 h1
    obtain ⟨v2, e2, _, w2⟩ := DataW.trod_int flowBounds_u3 h2
    obtain ⟨v3, e3, _, w3⟩ := DataW.trod_int flowBounds_u30 h3
    obtain ⟨v4, e4, _, w4⟩ := DataW.trod_int flowBounds_u3 h4
    simp only [List.cons.injEq, and_true] at e0 e1 e2 e3 e4
    subst e0 e1 e2 e3 e4
    exact ⟨⟨v0, v1, v2, v3, v4⟩, rfl, trivial⟩
theorem flowBounds_fop {H : Type} {henc : TypeId × Value → H} {w : World} {spare : Nat → Bool} {held : Bool} : Opn henc Try.prog w 0 spare held 53 cellO (fopAt w) := by
  refine ⟨fun fuel cs x h => ?_⟩
  obtain ⟨hl, hf⟩ := trod_tab flowBounds_T53 h
  rw [flowBounds_c53] at hl
  match cs, hl with
  | [a, b1, b2, b3, b4, b5, c, d, e, g, i], _ =>
    obtain ⟨n0, y0, h0⟩ := hf (3, 0) (by simp)
    obtain ⟨n1, y1, h1⟩ := hf (32, 1) (by simp)
    obtain ⟨n2, y2, h2⟩ := hf (41, 6) (by simp)
    obtain ⟨n3, y3, h3⟩ := hf (30, 7) (by simp)
    obtain ⟨n4, y4, h4⟩ := hf (3, 8) (by simp)
    obtain ⟨n5, y5, h5⟩ := hf (3, 9) (by simp)
    obtain ⟨n6, y6, h6⟩ := hf (3, 10) (by simp)
    simp only [flowBounds_c3, flowBounds_c30, flowBounds_c32, flowBounds_c41, List.drop_zero, List.drop_succ_cons, List.take_succ_cons, List.take_zero] at h0 h1 h2 h3 h4 h5 h6
    obtain ⟨v0, e0, _, w0⟩ := DataW.trod_int flowBounds_u3 h0
    obtain ⟨f, e1, _⟩ := flowBounds_flow.out _ _ _ h1
    obtain ⟨A2, x2, c2', e2, hr2, _, hx2, hm2⟩ := opn_slice flowBounds_b41 flowBounds_c32 (by decide) cellsF_len flowBounds_flow h2
    obtain ⟨v3, e3, _, w3⟩ := DataW.trod_int flowBounds_u30 h3
    obtain ⟨v4, e4, _, w4⟩ := DataW.trod_int flowBounds_u3 h4
    obtain ⟨v5, e5, _, w5⟩ := DataW.trod_int flowBounds_u3 h5
    obtain ⟨v6, e6, _, w6⟩ := DataW.trod_int flowBounds_u3 h6
    simp only [cellsF, List.cons.injEq, and_true] at e0 e1 e2 e3 e4 e5 e6
    obtain ⟨r1, r2, r3, r4, r5⟩ := e1
    subst e0 r1 r2 r3 r4 r5 e2 e3 e4 e5 e6
    exact ⟨⟨v0, f, A2, x2.length, c2', x2, v3, v4, v5, v6⟩, rfl, hr2, rfl, hx2⟩
theorem flowBounds_T : fieldTab Try.prog 66 = some [(3, 0), (3, 1), (46, 2)] := by kernel_rfl
theorem flowBounds_c66 : Try.prog.cellsOf 66 = 3 := by kernel_rfl
theorem flowBounds_struct : ∃ fs, Try.prog.underlying 66 = some (.struct fs) := by
  have h := flowBounds_T
  unfold fieldTab at h
  split at h
  · rename_i fs hu; exact ⟨fs, hu⟩
  · cases h
set_option maxRecDepth 100000 in
theorem flowBounds_lifted (os : Os) (started : os.Started) (H : Type) (enc : TypeId × Value → H) :
    ReturnsInHanded {} Try.checked os 6 .any (Rows.flowBoundsSpec.pre6 enc Try.prog Try.f6 Rows.flowBoundsRow.domain false) (Rows.flowBoundsSpec.post enc Try.prog Try.f6 false true false false) := by
  refine returnsInHanded_of_change (C := Try.checked) flowBounds_own started (by kernel_rfl) Try.func6
    (ChangeSpec.witness6 (enc := enc) (C := Try.checked) false ⟨#[], #[.agg #[.int .i64 0, .int .i64 0, .slice none 0 0]], []⟩ 8 (by kernel_rfl) (by kernel_rfl) (by kernel_rfl) (by kernel_rfl)) ?_
  intro W base args ds gs before hval0 hW _ _
  have hval : ∀ (j : Nat) t v, Try.f6.params[j]? = some t → args[j]? = some v → Value.okWide Try.prog W .any base t v := hval0
  have hW' := hW
  obtain ⟨p, q, hA0, hV0, rfl, hfz, hnd⟩ := hW
  have hA : DataW.TrodAll enc Try.prog W 0 (fun _ => true) true Try.f6.params.toList args.toList ds p := hA0
  have hV : DataW.TrodVars enc Try.prog W (fun _ => true) [] gs q := hV0
  rw [flowBounds_params] at hA hval
  obtain ⟨v0, d0, rfl, rfl, h0⟩ := trodAll_one hA
  obtain ⟨rfl, rfl⟩ := trodVars_none hV
  obtain ⟨fs, hfs⟩ := flowBounds_struct
  obtain ⟨cs, rfl, _⟩ := okWide_struct hfs (hval 0 66 v0 rfl rfl)
  have h0k := h0
  obtain ⟨fuel, hf⟩ := h0
  clear hA0 hval0
  simp only [List.append_nil] at hW'
  have hlt : ∀ x ∈ p, x.block < W.heap.size := fun x hx => by simpa using hW'.lt x (by simp [hx])
  obtain ⟨tr, un, A, c, ops, hcs, hr, hokk, hcl⟩ : ∃ (tr un : Int) (A : Option Addr) (c : Nat) (ops : List FOp), cs.toList = [.int .i64 tr, .int .i64 un, .slice A ops.length c] ∧ Rd W 11 cellO A ops ∧ (∀ o ∈ ops, fopAt W o) ∧ ops.length ≤ 9223372036854775807 := by
    obtain ⟨hl_, hf_⟩ := trod_tab flowBounds_T hf
    rw [flowBounds_c66] at hl_
    match h5 : cs.toList, (show cs.toList.length = 3 from by simpa [Value.cells] using hl_) with
    | [c0, c1, c2], _ =>
      obtain ⟨n0, y0, h0⟩ := hf_ (3, 0) (by simp)
      obtain ⟨n1, y1, h1⟩ := hf_ (3, 1) (by simp)
      obtain ⟨n2, y2, h2⟩ := hf_ (46, 2) (by simp)
      simp only [Value.cells, h5, flowBounds_c3, flowBounds_c46, List.drop_zero, List.drop_succ_cons, List.take_succ_cons, List.take_zero] at h0 h1 h2
      obtain ⟨k, e0, _⟩ := DataW.trod_int flowBounds_u3 h0
      obtain ⟨a, e1, _⟩ := DataW.trod_int flowBounds_u3 h1
      obtain ⟨A2, x2, c2', e2, hr2, hok2, hx2, hm2⟩ := opn_slice flowBounds_b46 flowBounds_c53 (by decide) cellO_len flowBounds_fop h2
      simp only [List.cons.injEq, and_true] at e0 e1 e2
      subst e0 e1 e2
      simp only [maxLen] at hm2
      exact ⟨k, a, A2, c2', x2, rfl, hr2, hok2, by omega⟩
  have hcs' : cs = #[.int .i64 tr, .int .i64 un, .slice A ops.length c] := Array.ext' (by simpa using hcs)
  subst hcs'
  refine (FlowBounds_ct tr un A c ops W hr hokk hcl).mono fun e W' ⟨he, hg⟩ => ?_
  subst he
  have e1 : Rows.flowBoundsSpec.fn H ([d0] ++ []) = { results := [.lit (.bool true)], args := [d0] } := rfl
  refine ⟨_, rfl, _, _, _, [], p, [], by simpa using hW', ?_, ?_, ?_, hg.below.frame _, fun h => by cases h⟩
  · rw [e1]; exact trodAll_mk1 (shut_bool flowBounds_und4 true)
  · rw [e1]; exact trodAll_mk1 (Below.trod flowBounds_laidOut (by kernel_rfl) (of_decide_eq_true (by kernel_rfl)) h0k hg.below hlt)
  · rw [e1]; rfl
theorem flowBounds_holds : Rows.FlowBoundsSaid :=
  OpenClaim.holds_of_wide 6 Try.f6 rfl rfl rfl rfl rfl rfl rfl ⟨rfl, rfl, rfl, rfl, rfl⟩ rfl rfl rfl rfl rfl (by kernel_rfl) Try.func6 (by kernel_rfl)
    (of_decide_eq_true (by kernel_rfl)) (by unfold Func.isWrapper; first | (rw [if_pos (by decide +kernel)]; kernel_rfl) | (rw [if_neg (of_decide_eq_false (by kernel_rfl))]; exact ⟨rfl, rfl⟩))
    (fun os started H enc _ => flowBounds_lifted os started H enc)
#print axioms flowBounds_holds
end Go.Proofs.Ytimphmcoafapgaa
