/- towpathlaw09.RingChooses returns true for every input, and changes no argument: the given statement. Conditions: those of the given row alone. -/
import Derived.Test.YtibkndhgeeoidaaRows
import Derived.Test.YtibkndhgeeoidaaChecked
import Derived.Test.YtibkndhgeeoidaaRgO
import Derived.Test.YtibkndhgeeoidaaTwOpen
import Derived.Carry
import Derived.ChangeSame
import Derived.ChangeVars
import Derived.JoinedOf
import Derived.RowKit
import Derived.RowKitTokens
import Derived.OpenShut
import Derived.ChangeMaps5
namespace Go.Proofs.Ytibkndhgeeoidaa
set_option linter.unusedSimpArgs false
set_option linter.unusedVariables false
set_option linter.unusedSectionVars false
open Go Go.ChangeShapes Go.WideShapes Go.RowKit Go.Tw
set_option maxRecDepth 100000
theorem ringChooses_own : ownKnob Try.prog.godebug = none := by kernel_rfl
theorem ringChooses_laidOut : laidOutB Try.prog = true := by kernel_rfl
theorem ringChooses_params : Try.f6.params = #[25, 26] := by kernel_rfl
theorem ringChooses_und4 : Try.prog.underlying 4 = some .bool := by kernel_rfl

theorem ringChooses_TE : fieldTab Try.prog 49 = some [(23, 0), (3, 1), (3, 2)] := by kernel_rfl
theorem ringChooses_cE : Try.prog.cellsOf 49 = 3 := by kernel_rfl
theorem ringChooses_c3 : Try.prog.cellsOf 3 = 1 := by kernel_rfl
theorem ringChooses_cA : Try.prog.cellsOf 23 = 1 := by kernel_rfl
theorem ringChooses_bA : Try.prog.underlying 23 = some (.int .u32) := by kernel_rfl
theorem ringChooses_b3 : Try.prog.underlying 3 = some (.int .i64) := by kernel_rfl
theorem ringChooses_bEs : Try.prog.underlying 26 = some (.slice 49) := by kernel_rfl
theorem ringChooses_opE {H : Type} {henc : TypeId × Value → H} {w : World} {base : Nat} {spare : Nat → Bool} {held : Bool} : Opn henc Try.prog w base spare held 49 cellsE wfE := by
  refine ⟨fun fuel cs x h => ?_⟩
  obtain ⟨hl, hf⟩ := trod_tab ringChooses_TE h
  rw [ringChooses_cE] at hl
  match cs, hl with
  | [c0, c1, c2], _ =>
    obtain ⟨n0, y0, g0⟩ := hf (23, 0) (by simp)
    obtain ⟨n1, y1, g1⟩ := hf (3, 1) (by simp)
    obtain ⟨n2, y2, g2⟩ := hf (3, 2) (by simp)
    simp only [ringChooses_c3, ringChooses_cA, List.drop_zero, List.drop_succ_cons, List.take_succ_cons, List.take_zero] at g0 g1 g2
    obtain ⟨v0, e0, _, w0⟩ := DataW.trod_int ringChooses_bA g0
    obtain ⟨v1, e1, _, w1⟩ := DataW.trod_int ringChooses_b3 g1
    obtain ⟨v2, e2, _, w2⟩ := DataW.trod_int ringChooses_b3 g2
    simp only [List.cons.injEq, and_true] at e0 e1 e2
    subst e0 e1 e2
    exact ⟨⟨v0, v1, v2⟩, rfl, ⟨by have := bounds_u32 w0; constructor <;> (dsimp only; omega), bounds_i64 w1, bounds_i64 w2⟩⟩
theorem ringChooses_TF : fieldTab Try.prog 25 = some [(3, 0), (23, 1), (3, 2), (23, 3), (3, 4)] := by kernel_rfl
theorem ringChooses_cF : Try.prog.cellsOf 25 = 5 := by kernel_rfl
theorem ringChooses_flow {H : Type} {henc : TypeId × Value → H} {w : World} {base : Nat} {spare : Nat → Bool} {held : Bool} {fuel : Nat} {cs : List Value} {x : DataW H × List MemPlace} (h : DataW.trod henc Try.prog w base spare held fuel 25 cs = some x) : ∃ f : FlowV, cs = [.int .i64 f.proto, .int .u32 f.src, .int .i64 f.sp, .int .u32 f.dst, .int .i64 f.dp] ∧ wfF f := by
  obtain ⟨hl, hf⟩ := trod_tab ringChooses_TF h
  rw [ringChooses_cF] at hl
  match cs, hl with
  | [c0, c1, c2, c3, c4], _ =>
    obtain ⟨n0, y0, g0⟩ := hf (3, 0) (by simp)
    obtain ⟨n1, y1, g1⟩ := hf (23, 1) (by simp)
    obtain ⟨n2, y2, g2⟩ := hf (3, 2) (by simp)
    obtain ⟨n3, y3, g3⟩ := hf (23, 3) (by simp)
    obtain ⟨n4, y4, g4⟩ := hf (3, 4) (by simp)
    simp only [ringChooses_c3, ringChooses_cA, List.drop_zero, List.drop_succ_cons, List.take_succ_cons, List.take_zero] at g0 g1 g2 g3 g4
    obtain ⟨v0, e0, _, w0⟩ := DataW.trod_int ringChooses_b3 g0
    obtain ⟨v1, e1, _, w1⟩ := DataW.trod_int ringChooses_bA g1
    obtain ⟨v2, e2, _, w2⟩ := DataW.trod_int ringChooses_b3 g2
    obtain ⟨v3, e3, _, w3⟩ := DataW.trod_int ringChooses_bA g3
    obtain ⟨v4, e4, _, w4⟩ := DataW.trod_int ringChooses_b3 g4
    simp only [List.cons.injEq, and_true] at e0 e1 e2 e3 e4
    subst e0 e1 e2 e3 e4
    exact ⟨⟨v0, v1, v2, v3, v4⟩, rfl, ⟨bounds_i64 w0, by have := bounds_u32 w1; constructor <;> (dsimp only; omega), bounds_i64 w2, by have := bounds_u32 w3; constructor <;> (dsimp only; omega), bounds_i64 w4⟩⟩
theorem ringChooses_struct : ∃ fs, Try.prog.underlying 25 = some (.struct fs) := by
  have h := ringChooses_TF
  unfold fieldTab at h
  split at h
  · rename_i fs hu; exact ⟨fs, hu⟩
  · cases h
set_option maxRecDepth 100000 in
theorem ringChooses_lifted (os : Os) (started : os.Started) (H : Type) (enc : TypeId × Value → H) :
    ReturnsInHanded {} Try.checked os 6 .any (Rows.ringChoosesSpec.pre6 enc Try.prog Try.f6 Rows.ringChoosesRow.domain false) (Rows.ringChoosesSpec.post enc Try.prog Try.f6 false true false false) := by
  refine returnsInHanded_of_change (C := Try.checked) ringChooses_own started (by kernel_rfl) Try.func6
    (ChangeSpec.witness6 (enc := enc) (C := Try.checked) false ⟨#[], #[.agg #[.int .i64 0, .int .u32 0, .int .i64 0, .int .u32 0, .int .i64 0], .slice none 0 0], []⟩ 8 (by kernel_rfl) (by kernel_rfl) (by kernel_rfl) (by kernel_rfl)) ?_
  intro W base args ds gs before hval0 hW _ _
  have hval : ∀ (j : Nat) t v, Try.f6.params[j]? = some t → args[j]? = some v → Value.okWide Try.prog W .any base t v := hval0
  have hW' := hW
  obtain ⟨p, q, hA0, hV0, rfl, hfz, hnd⟩ := hW
  have hA : DataW.TrodAll enc Try.prog W 0 (fun _ => true) true Try.f6.params.toList args.toList ds p := hA0
  have hV : DataW.TrodVars enc Try.prog W (fun _ => true) [] gs q := hV0
  rw [ringChooses_params] at hA hval
  obtain ⟨v0, vs0, d0, ds0, p0, q0, hargs, rfl, rfl, h0, r0⟩ := trodAll_cons hA
  obtain ⟨v1, vs1, d1, ds1, p1, q1, rfl, rfl, rfl, h1, r1⟩ := trodAll_cons r0
  obtain ⟨rfl, rfl, rfl⟩ := trodAll_nil r1
  obtain rfl : args = #[v0, v1] := Array.ext' (by simpa using hargs)
  obtain ⟨rfl, rfl⟩ := trodVars_none hV
  have h0k := h0
  have h1k := h1
  clear hA0 hval0
  have hlt0 : ∀ x ∈ p0, x.block < W.heap.size := fun x hx => hW'.lt x (by simp [hx])
  have hlt1 : ∀ x ∈ p1, x.block < W.heap.size := fun x hx => hW'.lt x (by simp [hx])
  obtain ⟨fs0, hfs0⟩ := ringChooses_struct
  obtain ⟨cs0, rfl, _⟩ := okWide_struct hfs0 (hval 0 25 v0 rfl rfl)
  obtain ⟨fuel0, hf0⟩ := h0
  obtain ⟨f, hcs0, hwF⟩ := ringChooses_flow hf0
  obtain rfl : cs0 = #[.int .i64 f.proto, .int .u32 f.src, .int .i64 f.sp, .int .u32 f.dst, .int .i64 f.dp] := Array.ext' (by simpa [Value.cells] using hcs0)
  obtain ⟨a1_, l1_, c1_, rfl⟩ := okWide_slice ringChooses_bEs (hval 1 26 v1 rfl rfl)
  obtain ⟨fuel1, hf1⟩ := h1
  obtain ⟨A1, L, C1, hcs1, hr1, hwf1, hlc1, hcm1⟩ := opn_slice ringChooses_bEs ringChooses_cE (by decide) cellsE_len ringChooses_opE hf1
  simp only [Value.cells, List.cons.injEq, Value.slice.injEq, and_true] at hcs1
  obtain ⟨rfl, rfl, rfl⟩ := hcs1
  refine (RingChooses_ct f a1_ c1_ L W hwF hr1 hwf1).mono fun e W' ⟨he, hg⟩ => ?_
  subst he
  have e1 : Rows.ringChoosesSpec.fn H ([d0, d1] ++ []) = { results := [.lit (.bool true)], args := [d0, d1] } := rfl
  refine ⟨_, rfl, _, _, _, [], (p0 ++ (p1)), [], by simpa using hW', ?_, ?_, ?_, hg.below.frame _, fun h => by cases h⟩
  · rw [e1]; exact trodAll_mk1 (shut_bool ringChooses_und4 true)
  · rw [e1]; exact trodAll_mk2 (Below.trod ringChooses_laidOut (by kernel_rfl) (of_decide_eq_true (by kernel_rfl)) h0k hg.below hlt0) (Below.trod ringChooses_laidOut (by kernel_rfl) (of_decide_eq_true (by kernel_rfl)) h1k hg.below hlt1)
  · rw [e1]; rfl
theorem ringChooses_holds : Rows.RingChoosesSaid :=
  OpenClaim.holds_of_wide 6 Try.f6 rfl rfl rfl rfl rfl rfl rfl ⟨rfl, rfl, rfl, rfl, rfl⟩ rfl rfl rfl rfl rfl (by kernel_rfl) Try.func6 (by kernel_rfl)
    (of_decide_eq_true (by kernel_rfl)) (by unfold Func.isWrapper; first | (rw [if_pos (by decide +kernel)]; kernel_rfl) | (rw [if_neg (of_decide_eq_false (by kernel_rfl))]; exact ⟨rfl, rfl⟩))
    (fun os started H enc _ => ringChooses_lifted os started H enc)
#print axioms ringChooses_holds
end Go.Proofs.Ytibkndhgeeoidaa
