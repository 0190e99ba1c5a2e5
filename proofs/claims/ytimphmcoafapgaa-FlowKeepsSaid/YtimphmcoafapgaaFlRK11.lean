/- towpathlaw11.FlowKeeps returns true for every input, and changes no argument: the given statement. Conditions: those of the given row alone. -/
import Derived.Test.YtimphmcoafapgaaRows
import Derived.Test.YtimphmcoafapgaaChecked
import Derived.Test.YtimphmcoafapgaaFlN11
import Derived.Test.YtimphmcoafapgaaTwOpen
import Derived.Carry
import Derived.ChangeSame
import Derived.ChangeVars
import Derived.JoinedOf
import Derived.RowKit
import Derived.RowKitTokens
import Derived.OpenShut
import Derived.ChangeMaps5
namespace Go.Proofs.Ytimphmcoafapgaa
set_option linter.unusedSimpArgs false
set_option linter.unusedVariables false
set_option linter.unusedSectionVars false
open Go Go.ChangeShapes Go.WideShapes Go.RowKit Go.Tw
set_option maxRecDepth 100000
theorem flowKeeps_own : ownKnob Try.prog.godebug = none := by kernel_rfl
theorem flowKeeps_laidOut : laidOutB Try.prog = true := by kernel_rfl
theorem flowKeeps_params : Try.f7.params = #[41, 3] := by kernel_rfl
theorem flowKeeps_und4 : Try.prog.underlying 4 = some .bool := by kernel_rfl
theorem flowKeeps_u3 : Try.prog.underlying 3 = some (.int .i64) := by kernel_rfl
theorem flowKeeps_u30 : Try.prog.underlying 30 = some (.int .u32) := by kernel_rfl
theorem flowKeeps_b41 : Try.prog.underlying 41 = some (.slice 32) := by kernel_rfl
theorem flowKeeps_c3 : Try.prog.cellsOf 3 = 1 := by kernel_rfl
theorem flowKeeps_c30 : Try.prog.cellsOf 30 = 1 := by kernel_rfl
theorem flowKeeps_c32 : Try.prog.cellsOf 32 = 5 := by kernel_rfl
theorem flowKeeps_T32 : fieldTab Try.prog 32 = some [(3, 0), (30, 1), (3, 2), (30, 3), (3, 4)] := by kernel_rfl
theorem flowKeeps_flow {H : Type} {henc : TypeId × Value → H} {w : World} {base : Nat} {spare : Nat → Bool} {held : Bool} : Opn henc Try.prog w base spare held 32 cellsF (fun _ => True) := by
  refine ⟨fun fuel cs x h => ?_⟩
  obtain ⟨hl, hf⟩ := trod_tab flowKeeps_T32 h
  rw [flowKeeps_c32] at hl
  match cs, hl with
  | [a, b, c, d, e], _ =>
    obtain ⟨n0, y0, h0⟩ := hf (3, 0) (by simp)
    obtain ⟨n1, y1, h1⟩ := hf (30, 1) (by simp)
    obtain ⟨n2, y2, h2⟩ := hf (3, 2) (by simp)
    obtain ⟨n3, y3, h3⟩ := hf (30, 3) (by simp)
    obtain ⟨n4, y4, h4⟩ := hf (3, 4) (by simp)
    simp only [flowKeeps_c3, flowKeeps_c30, List.drop_zero, List.drop_succ_cons, List.take_succ_cons, List.take_zero] at h0 h1 h2 h3 h4
    obtain ⟨v0, e0, _, w0⟩ := DataW.trod_int flowKeeps_u3 h0
    obtain ⟨v1, e1, _, w1⟩ := DataW.trod_int flowKeeps_u30 h1
    obtain ⟨v2, e2, _, w2⟩ := DataW.trod_int flowKeeps_u3 h2
    obtain ⟨v3, e3, _, w3⟩ := DataW.trod_int flowKeeps_u30 h3
    obtain ⟨v4, e4, _, w4⟩ := DataW.trod_int flowKeeps_u3 h4
    simp only [List.cons.injEq, and_true] at e0 e1 e2 e3 e4
    subst e0 e1 e2 e3 e4
    exact ⟨⟨v0, v1, v2, v3, v4⟩, rfl, trivial⟩
set_option maxRecDepth 100000 in
theorem flowKeeps_lifted (os : Os) (started : os.Started) (H : Type) (enc : TypeId × Value → H) :
    ReturnsInHanded {} Try.checked os 7 .any (Rows.flowKeepsSpec.pre6 enc Try.prog Try.f7 Rows.flowKeepsRow.domain false) (Rows.flowKeepsSpec.post enc Try.prog Try.f7 false true false false) := by
  refine returnsInHanded_of_change (C := Try.checked) flowKeeps_own started (by kernel_rfl) Try.func7
    (ChangeSpec.witness6 (enc := enc) (C := Try.checked) false ⟨#[], #[.slice none 0 0, .int .i64 0], []⟩ 8 (by kernel_rfl) (by kernel_rfl) (by kernel_rfl) (by kernel_rfl)) ?_
  intro W base args ds gs before hval0 hW _ _
  have hval : ∀ (j : Nat) t v, Try.f7.params[j]? = some t → args[j]? = some v → Value.okWide Try.prog W .any base t v := hval0
  have hW' := hW
  obtain ⟨p, q, hA0, hV0, rfl, hfz, hnd⟩ := hW
  have hA : DataW.TrodAll enc Try.prog W 0 (fun _ => true) true Try.f7.params.toList args.toList ds p := hA0
  have hV : DataW.TrodVars enc Try.prog W (fun _ => true) [] gs q := hV0
  rw [flowKeeps_params] at hA hval
  obtain ⟨v0, vs0, d0, ds0, p0, q0, hargs, rfl, rfl, h0, r0⟩ := trodAll_cons hA
  obtain ⟨v1, vs1, d1, ds1, p1, q1, rfl, rfl, rfl, h1, r1⟩ := trodAll_cons r0
  obtain ⟨rfl, rfl, rfl⟩ := trodAll_nil r1
  obtain rfl : args = #[v0, v1] := Array.ext' (by simpa using hargs)
  obtain ⟨rfl, rfl⟩ := trodVars_none hV
  have h0k := h0
  obtain ⟨now, rfl, rfl, rfl, w1⟩ := open_int flowKeeps_u3 (hval 1 3 v1 rfl rfl) h1
  clear hA0 hval0
  have hlt0 : ∀ x ∈ p0, x.block < W.heap.size := fun x hx => hW'.lt x (by simp [hx])
  obtain ⟨a0_, l0_, c0_, rfl⟩ := okWide_slice flowKeeps_b41 (hval 0 41 v0 rfl rfl)
  obtain ⟨fuel0, hf0⟩ := h0
  obtain ⟨A0, fs, C0, hcs0, hr0, hwf0, hlc0, hcm0⟩ := opn_slice flowKeeps_b41 flowKeeps_c32 (by decide) cellsF_len flowKeeps_flow hf0
  simp only [Value.cells, List.cons.injEq, Value.slice.injEq, and_true] at hcs0
  obtain ⟨rfl, rfl, rfl⟩ := hcs0
  refine (FlowKeeps_ct a0_ c0_ fs now W hr0 hlc0).mono fun e W' ⟨he, hg⟩ => ?_
  subst he
  have e1 : Rows.flowKeepsSpec.fn H ([d0, .lit (.int .i64 now)] ++ []) = { results := [.lit (.bool true)], args := [d0, .lit (.int .i64 now)] } := rfl
  refine ⟨_, rfl, _, _, _, [], (p0 ++ ([])), [], by simpa using hW', ?_, ?_, ?_, hg.below.frame _, fun h => by cases h⟩
  · rw [e1]; exact trodAll_mk1 (shut_bool flowKeeps_und4 true)
  · rw [e1]; exact trodAll_mk2 (Below.trod flowKeeps_laidOut (by kernel_rfl) (of_decide_eq_true (by kernel_rfl)) h0k hg.below hlt0) (shut_int flowKeeps_u3 w1)
  · rw [e1]; rfl
theorem flowKeeps_holds : Rows.FlowKeepsSaid :=
  OpenClaim.holds_of_wide 7 Try.f7 rfl rfl rfl rfl rfl rfl rfl ⟨rfl, rfl, rfl, rfl, rfl⟩ rfl rfl rfl rfl rfl (by kernel_rfl) Try.func7 (by kernel_rfl)
    (of_decide_eq_true (by kernel_rfl)) (by unfold Func.isWrapper; first | (rw [if_pos (by decide +kernel)]; kernel_rfl) | (rw [if_neg (of_decide_eq_false (by kernel_rfl))]; exact ⟨rfl, rfl⟩))
    (fun os started H enc _ => flowKeeps_lifted os started H enc)
#print axioms flowKeeps_holds
end Go.Proofs.Ytimphmcoafapgaa
