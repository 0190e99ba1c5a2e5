/- towpathlaw09.RingHolds returns true for every input, and changes no argument: the given statement. Conditions: those of the given row alone. -/
import Derived.Test.YtibkndhgeeoidaaRows
import Derived.Test.YtibkndhgeeoidaaChecked
import Derived.Test.YtibkndhgeeoidaaRgI
import Derived.Test.YtibkndhgeeoidaaTwOpen
import Derived.Carry
import Derived.ChangeSame
import Derived.ChangeVars
import Derived.JoinedOf
import Derived.RowKit
import Derived.RowKitTokens
import Derived.OpenShut
import Derived.ChangeMaps5
namespace Go.Proofs.Ytibkndhgeeoidaa
set_option linter.unusedSimpArgs false
set_option linter.unusedVariables false
set_option linter.unusedSectionVars false
open Go Go.ChangeShapes Go.WideShapes Go.RowKit Go.Tw
set_option maxRecDepth 100000
theorem ringHolds_own : ownKnob Try.prog.godebug = none := by kernel_rfl
theorem ringHolds_laidOut : laidOutB Try.prog = true := by kernel_rfl
theorem ringHolds_params : Try.f3.params = #[28] := by kernel_rfl
theorem ringHolds_und4 : Try.prog.underlying 4 = some .bool := by kernel_rfl
theorem ringHolds_TE : fieldTab Try.prog 49 = some [(23, 0), (3, 1), (3, 2)] := by kernel_rfl
theorem ringHolds_cE : Try.prog.cellsOf 49 = 3 := by kernel_rfl
theorem ringHolds_c3 : Try.prog.cellsOf 3 = 1 := by kernel_rfl
theorem ringHolds_cA : Try.prog.cellsOf 23 = 1 := by kernel_rfl
theorem ringHolds_bA : Try.prog.underlying 23 = some (.int .u32) := by kernel_rfl
theorem ringHolds_b3 : Try.prog.underlying 3 = some (.int .i64) := by kernel_rfl
theorem ringHolds_bEs : Try.prog.underlying 26 = some (.slice 49) := by kernel_rfl
theorem ringHolds_opE {H : Type} {henc : TypeId × Value → H} {w : World} {base : Nat} {spare : Nat → Bool} {held : Bool} : Opn henc Try.prog w base spare held 49 cellsE wfE := by
  refine ⟨fun fuel cs x h => ?_⟩
  obtain ⟨hl, hf⟩ := trod_tab ringHolds_TE h
  rw [ringHolds_cE] at hl
  match cs, hl with
  | [c0, c1, c2], _ =>
    obtain ⟨n0, y0, g0⟩ := hf (23, 0) (by simp)
    obtain ⟨n1, y1, g1⟩ := hf (3, 1) (by simp)
    obtain ⟨n2, y2, g2⟩ := hf (3, 2) (by simp)
    simp only [ringHolds_c3, ringHolds_cA, List.drop_zero, List.drop_succ_cons, List.take_succ_cons, List.take_zero] at g0 g1 g2
    obtain ⟨v0, e0, _, w0⟩ := DataW.trod_int ringHolds_bA g0
    obtain ⟨v1, e1, _, w1⟩ := DataW.trod_int ringHolds_b3 g1
    obtain ⟨v2, e2, _, w2⟩ := DataW.trod_int ringHolds_b3 g2
    simp only [List.cons.injEq, and_true] at e0 e1 e2
    subst e0 e1 e2
    exact ⟨⟨v0, v1, v2⟩, rfl, ⟨by have := bounds_u32 w0; constructor <;> (dsimp only; omega), bounds_i64 w1, bounds_i64 w2⟩⟩
theorem ringHolds_TF : fieldTab Try.prog 25 = some [(3, 0), (23, 1), (3, 2), (23, 3), (3, 4)] := by kernel_rfl
theorem ringHolds_cF : Try.prog.cellsOf 25 = 5 := by kernel_rfl
theorem ringHolds_flow {H : Type} {henc : TypeId × Value → H} {w : World} {base : Nat} {spare : Nat → Bool} {held : Bool} {fuel : Nat} {cs : List Value} {x : DataW H × List MemPlace} (h : DataW.trod henc Try.prog w base spare held fuel 25 cs = some x) : ∃ f : FlowV, cs = [.int .i64 f.proto, .int .u32 f.src, .int .i64 f.sp, .int .u32 f.dst, .int .i64 f.dp] := by
  obtain ⟨hl, hf⟩ := trod_tab ringHolds_TF h
  rw [ringHolds_cF] at hl
  match cs, hl with
  | [c0, c1, c2, c3, c4], _ =>
    obtain ⟨n0, y0, g0⟩ := hf (3, 0) (by simp)
    obtain ⟨n1, y1, g1⟩ := hf (23, 1) (by simp)
    obtain ⟨n2, y2, g2⟩ := hf (3, 2) (by simp)
    obtain ⟨n3, y3, g3⟩ := hf (23, 3) (by simp)
    obtain ⟨n4, y4, g4⟩ := hf (3, 4) (by simp)
    simp only [ringHolds_c3, ringHolds_cA, List.drop_zero, List.drop_succ_cons, List.take_succ_cons, List.take_zero] at g0 g1 g2 g3 g4
    obtain ⟨v0, e0, _⟩ := DataW.trod_int ringHolds_b3 g0
    obtain ⟨v1, e1, _⟩ := DataW.trod_int ringHolds_bA g1
    obtain ⟨v2, e2, _⟩ := DataW.trod_int ringHolds_b3 g2
    obtain ⟨v3, e3, _⟩ := DataW.trod_int ringHolds_bA g3
    obtain ⟨v4, e4, _⟩ := DataW.trod_int ringHolds_b3 g4
    simp only [List.cons.injEq, and_true] at e0 e1 e2 e3 e4
    subst e0 e1 e2 e3 e4
    exact ⟨⟨v0, v1, v2, v3, v4⟩, rfl⟩
theorem ringHolds_T : fieldTab Try.prog 28 = some [(25, 0), (26, 5), (3, 6), (3, 7)] := by kernel_rfl
theorem ringHolds_cS : Try.prog.cellsOf 28 = 8 := by kernel_rfl
theorem ringHolds_cEs : Try.prog.cellsOf 26 = 1 := by kernel_rfl
theorem ringHolds_struct : ∃ fs, Try.prog.underlying 28 = some (.struct fs) := by
  have h := ringHolds_T
  unfold fieldTab at h
  split at h
  · rename_i fs hu; exact ⟨fs, hu⟩
  · cases h
set_option maxRecDepth 100000 in
theorem ringHolds_lifted (os : Os) (started : os.Started) (H : Type) (enc : TypeId × Value → H) :
    ReturnsInHanded {} Try.checked os 3 .any (Rows.ringHoldsSpec.pre6 enc Try.prog Try.f3 Rows.ringHoldsRow.domain false) (Rows.ringHoldsSpec.post enc Try.prog Try.f3 false true false false) := by
  refine returnsInHanded_of_change (C := Try.checked) ringHolds_own started (by kernel_rfl) Try.func3
    (ChangeSpec.witness6 (enc := enc) (C := Try.checked) false ⟨#[], #[.agg #[.int .i64 0, .int .u32 0, .int .i64 0, .int .u32 0, .int .i64 0, .slice none 0 0, .int .i64 0, .int .i64 0]], []⟩ 8 (by kernel_rfl) (by kernel_rfl) (by kernel_rfl) (by kernel_rfl)) ?_
  intro W base args ds gs before hval0 hW _ _
  have hval : ∀ (j : Nat) t v, Try.f3.params[j]? = some t → args[j]? = some v → Value.okWide Try.prog W .any base t v := hval0
  have hW' := hW
  obtain ⟨p, q, hA0, hV0, rfl, hfz, hnd⟩ := hW
  have hA : DataW.TrodAll enc Try.prog W 0 (fun _ => true) true Try.f3.params.toList args.toList ds p := hA0
  have hV : DataW.TrodVars enc Try.prog W (fun _ => true) [] gs q := hV0
  rw [ringHolds_params] at hA hval
  obtain ⟨v0, d0, rfl, rfl, h0⟩ := trodAll_one hA
  obtain ⟨rfl, rfl⟩ := trodVars_none hV
  obtain ⟨fs, hfs⟩ := ringHolds_struct
  obtain ⟨cs, rfl, _⟩ := okWide_struct hfs (hval 0 28 v0 rfl rfl)
  have h0k := h0
  obtain ⟨fuel, hf⟩ := h0
  clear hA0 hval0
  simp only [List.append_nil] at hW'
  have hlt : ∀ x ∈ p, x.block < W.heap.size := fun x hx => by simpa using hW'.lt x (by simp [hx])
  obtain ⟨hl_, hf_⟩ := trod_tab ringHolds_T hf
  rw [ringHolds_cS] at hl_
  obtain ⟨f, A, L, C, out, grow, hcs, hr, hwf, hlc⟩ : ∃ (f : FlowV) (A : Option Addr) (L : List EndV) (C : Nat) (out grow : Int), cs = #[.int .i64 f.proto, .int .u32 f.src, .int .i64 f.sp, .int .u32 f.dst, .int .i64 f.dp, .slice A L.length C, .int .i64 out, .int .i64 grow] ∧ Rd W 3 cellsE A L ∧ (∀ e ∈ L, wfE e) ∧ L.length ≤ C := by
    match h5 : cs.toList, (show cs.toList.length = 8 from by simpa [Value.cells] using hl_) with
    | [c0, c1, c2, c3, c4, c5, c6, c7], _ =>
      obtain ⟨n0, y0, g0⟩ := hf_ (25, 0) (by simp)
      obtain ⟨n1, y1, g1⟩ := hf_ (26, 5) (by simp)
      obtain ⟨n2, y2, g2⟩ := hf_ (3, 6) (by simp)
      obtain ⟨n3, y3, g3⟩ := hf_ (3, 7) (by simp)
      simp only [Value.cells, h5, ringHolds_c3, ringHolds_cF, ringHolds_cEs, List.drop_zero, List.drop_succ_cons, List.take_succ_cons, List.take_zero] at g0 g1 g2 g3
      obtain ⟨f, e0⟩ := ringHolds_flow g0
      obtain ⟨A, L, C, e1, hr, hwf, hlc, _⟩ := opn_slice ringHolds_bEs ringHolds_cE (by decide) cellsE_len ringHolds_opE g1
      obtain ⟨out, e2, _⟩ := DataW.trod_int ringHolds_b3 g2
      obtain ⟨grow, e3, _⟩ := DataW.trod_int ringHolds_b3 g3
      simp only [List.cons.injEq, and_true] at e0 e1 e2 e3
      obtain ⟨rfl, rfl, rfl, rfl, rfl⟩ := e0
      subst e1 e2 e3
      exact ⟨f, A, L, C, out, grow, Array.ext' h5, hr, hwf, hlc⟩
  subst hcs

  refine (RingHolds_ct f A C L out grow W hr hwf hlc).mono fun e W' ⟨he, hg⟩ => ?_
  subst he
  have e1 : Rows.ringHoldsSpec.fn H ([d0] ++ []) = { results := [.lit (.bool true)], args := [d0] } := rfl
  refine ⟨_, rfl, _, _, _, [], p, [], by simpa using hW', ?_, ?_, ?_, hg.below.frame _, fun h => by cases h⟩
  · rw [e1]; exact trodAll_mk1 (shut_bool ringHolds_und4 true)
  · rw [e1]; exact trodAll_mk1 (Below.trod ringHolds_laidOut (by kernel_rfl) (of_decide_eq_true (by kernel_rfl)) h0k hg.below hlt)
  · rw [e1]; rfl
theorem ringHolds_holds : Rows.RingHoldsSaid :=
  OpenClaim.holds_of_wide 3 Try.f3 rfl rfl rfl rfl rfl rfl rfl ⟨rfl, rfl, rfl, rfl, rfl⟩ rfl rfl rfl rfl rfl (by kernel_rfl) Try.func3 (by kernel_rfl)
    (of_decide_eq_true (by kernel_rfl)) (by unfold Func.isWrapper; first | (rw [if_pos (by decide +kernel)]; kernel_rfl) | (rw [if_neg (of_decide_eq_false (by kernel_rfl))]; exact ⟨rfl, rfl⟩))
    (fun os started H enc _ => ringHolds_lifted os started H enc)
#print axioms ringHolds_holds
end Go.Proofs.Ytibkndhgeeoidaa
