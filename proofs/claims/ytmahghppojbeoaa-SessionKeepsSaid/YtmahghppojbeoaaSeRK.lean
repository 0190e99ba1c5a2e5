/- towpathlaw18.SessionKeeps returns true for every input, and changes no argument: the given statement. Conditions: those of the given row alone. -/
import Derived.Test.YtmahghppojbeoaaRows
import Derived.Test.YtmahghppojbeoaaChecked
import Derived.Test.YtmahghppojbeoaaSeH
import Derived.Test.YtmahghppojbeoaaTwOpen
import Derived.Carry
import Derived.ChangeSame
import Derived.ChangeVars
import Derived.JoinedOf
import Derived.RowKit
import Derived.RowKitTokens
import Derived.OpenShut
import Derived.ChangeMaps5
namespace Go.Proofs.Ytmahghppojbeoaa
set_option linter.unusedSimpArgs false
set_option linter.unusedVariables false
set_option linter.unusedSectionVars false
open Go Go.ChangeShapes Go.WideShapes Go.RowKit Go.Tw
set_option maxRecDepth 100000
theorem sessionKeeps_own : ownKnob Try.prog.godebug = none := by kernel_rfl
theorem sessionKeeps_laidOut : laidOutB Try.prog = true := by kernel_rfl
theorem sessionKeeps_params : Try.f5.params = #[68] := by kernel_rfl
theorem sessionKeeps_und4 : Try.prog.underlying 4 = some .bool := by kernel_rfl
theorem sessionKeeps_T : fieldTab Try.prog 68 = some [(3, 0), (3, 1), (3, 2), (3, 3), (44, 4)] := by kernel_rfl
theorem sessionKeeps_c68 : Try.prog.cellsOf 68 = 5 := by kernel_rfl
theorem sessionKeeps_c3 : Try.prog.cellsOf 3 = 1 := by kernel_rfl
theorem sessionKeeps_c44 : Try.prog.cellsOf 44 = 1 := by kernel_rfl
theorem sessionKeeps_b3 : Try.prog.underlying 3 = some (.int .i64) := by kernel_rfl
theorem sessionKeeps_b44 : Try.prog.underlying 44 = some (.int .u32) := by kernel_rfl
theorem sessionKeeps_struct : ∃ fs, Try.prog.underlying 68 = some (.struct fs) := by
  have h := sessionKeeps_T
  unfold fieldTab at h
  split at h
  · rename_i fs hu; exact ⟨fs, hu⟩
  · cases h
set_option maxRecDepth 100000 in
theorem sessionKeeps_lifted (os : Os) (started : os.Started) (H : Type) (enc : TypeId × Value → H) :
    ReturnsInHanded {} Try.checked os 5 .any (Rows.sessionKeepsSpec.pre6 enc Try.prog Try.f5 Rows.sessionKeepsRow.domain false) (Rows.sessionKeepsSpec.post enc Try.prog Try.f5 false true false false) := by
  refine returnsInHanded_of_change (C := Try.checked) sessionKeeps_own started (by kernel_rfl) Try.func5
    (ChangeSpec.witness6 (enc := enc) (C := Try.checked) false ⟨#[], #[.agg #[.int .i64 0, .int .i64 0, .int .i64 0, .int .i64 0, .int .u32 0]], []⟩ 8 (by kernel_rfl) (by kernel_rfl) (by kernel_rfl) (by kernel_rfl)) ?_
  intro W base args ds gs before hval0 hW _ _
  have hval : ∀ (j : Nat) t v, Try.f5.params[j]? = some t → args[j]? = some v → Value.okWide Try.prog W .any base t v := hval0
  have hW' := hW
  obtain ⟨p, q, hA0, hV0, rfl, hfz, hnd⟩ := hW
  have hA : DataW.TrodAll enc Try.prog W 0 (fun _ => true) true Try.f5.params.toList args.toList ds p := hA0
  have hV : DataW.TrodVars enc Try.prog W (fun _ => true) [] gs q := hV0
  rw [sessionKeeps_params] at hA hval
  obtain ⟨v0, d0, rfl, rfl, h0⟩ := trodAll_one hA
  obtain ⟨rfl, rfl⟩ := trodVars_none hV
  obtain ⟨fs, hfs⟩ := sessionKeeps_struct
  obtain ⟨cs, rfl, _⟩ := okWide_struct hfs (hval 0 68 v0 rfl rfl)
  have h0k := h0
  obtain ⟨fuel, hf⟩ := h0
  clear hA0 hval0
  simp only [List.append_nil] at hW'
  have hlt : ∀ x ∈ p, x.block < W.heap.size := fun x hx => by simpa using hW'.lt x (by simp [hx])
  obtain ⟨hl_, hf_⟩ := trod_tab sessionKeeps_T hf
  rw [sessionKeeps_c68] at hl_
  obtain ⟨mux, boot, now, wait, vip, hv0, hcs⟩ : ∃ (mux boot now wait vip : Int), (0 ≤ vip ∧ vip ≤ 4294967295) ∧ cs = #[.int .i64 mux, .int .i64 boot, .int .i64 now, .int .i64 wait, .int .u32 vip] := by
    match h5 : cs.toList, (show cs.toList.length = 5 from by simpa [Value.cells] using hl_) with
    | [c0, c1, c2, c3, c4], _ =>
      obtain ⟨n0, y0, g0⟩ := hf_ (3, 0) (by simp)
      obtain ⟨n1, y1, g1⟩ := hf_ (3, 1) (by simp)
      obtain ⟨n2, y2, g2⟩ := hf_ (3, 2) (by simp)
      obtain ⟨n3, y3, g3⟩ := hf_ (3, 3) (by simp)
      obtain ⟨n4, y4, g4⟩ := hf_ (44, 4) (by simp)
      simp only [Value.cells, h5, sessionKeeps_c3, sessionKeeps_c44, List.drop_zero, List.drop_succ_cons, List.take_succ_cons, List.take_zero] at g0 g1 g2 g3 g4
      obtain ⟨mux, e0, _⟩ := DataW.trod_int sessionKeeps_b3 g0
      obtain ⟨boot, e1, _⟩ := DataW.trod_int sessionKeeps_b3 g1
      obtain ⟨now, e2, _⟩ := DataW.trod_int sessionKeeps_b3 g2
      obtain ⟨wait, e3, _⟩ := DataW.trod_int sessionKeeps_b3 g3
      obtain ⟨vip, e4, _, hv⟩ := DataW.trod_int sessionKeeps_b44 g4
      simp only [List.cons.injEq, and_true] at e0 e1 e2 e3 e4
      subst e0 e1 e2 e3 e4
      exact ⟨mux, boot, now, wait, vip, by simpa [Lit.wf, IntKind.min, IntKind.max, IntKind.signed, IntKind.bits] using hv, Array.ext' h5⟩
  subst hcs

  refine (SessionKeeps_ct mux boot now wait vip W hv0).mono fun e W' ⟨he, hg⟩ => ?_
  subst he
  have e1 : Rows.sessionKeepsSpec.fn H ([d0] ++ []) = { results := [.lit (.bool true)], args := [d0] } := rfl
  refine ⟨_, rfl, _, _, _, [], p, [], by simpa using hW', ?_, ?_, ?_, hg.below.frame _, fun h => by cases h⟩
  · rw [e1]; exact trodAll_mk1 (shut_bool sessionKeeps_und4 true)
  · rw [e1]; exact trodAll_mk1 (Below.trod sessionKeeps_laidOut (by kernel_rfl) (of_decide_eq_true (by kernel_rfl)) h0k hg.below hlt)
  · rw [e1]; rfl
theorem sessionKeeps_holds : Rows.SessionKeepsSaid :=
  OpenClaim.holds_of_wide 5 Try.f5 rfl rfl rfl rfl rfl rfl rfl ⟨rfl, rfl, rfl, rfl, rfl⟩ rfl rfl rfl rfl rfl (by kernel_rfl) Try.func5 (by kernel_rfl)
    (of_decide_eq_true (by kernel_rfl)) (by unfold Func.isWrapper; first | (rw [if_pos (by decide +kernel)]; kernel_rfl) | (rw [if_neg (of_decide_eq_false (by kernel_rfl))]; exact ⟨rfl, rfl⟩))
    (fun os started H enc _ => sessionKeeps_lifted os started H enc)
#print axioms sessionKeeps_holds
end Go.Proofs.Ytmahghppojbeoaa
