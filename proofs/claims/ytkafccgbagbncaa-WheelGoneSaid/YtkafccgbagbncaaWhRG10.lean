/- towpathlaw10.WheelGone returns true for every input, and changes no argument: the given statement. Conditions: those of the given row alone. -/
import Derived.Test.YtkafccgbagbncaaRows
import Derived.Test.YtkafccgbagbncaaChecked
import Derived.Test.YtkafccgbagbncaaWhF10
import Derived.Test.YtkafccgbagbncaaTwOpen
import Derived.Carry
import Derived.ChangeSame
import Derived.ChangeVars
import Derived.JoinedOf
import Derived.RowKit
import Derived.RowKitTokens
import Derived.OpenShut
import Derived.ChangeMaps5
namespace Go.Proofs.Ytkafccgbagbncaa
set_option linter.unusedSimpArgs false
set_option linter.unusedVariables false
set_option linter.unusedSectionVars false
open Go Go.ChangeShapes Go.WideShapes Go.RowKit Go.Tw
set_option maxRecDepth 100000
theorem wheelGone_own : ownKnob Try.prog.godebug = none := by kernel_rfl
theorem wheelGone_laidOut : laidOutB Try.prog = true := by kernel_rfl
theorem wheelGone_params : Try.f7.params = #[55] := by kernel_rfl
theorem wheelGone_und4 : Try.prog.underlying 4 = some .bool := by kernel_rfl
theorem wheelGone_T : fieldTab Try.prog 55 = some [(3, 0), (3, 1), (3, 2), (4, 3)] := by kernel_rfl
theorem wheelGone_c55 : Try.prog.cellsOf 55 = 4 := by kernel_rfl
theorem wheelGone_c3 : Try.prog.cellsOf 3 = 1 := by kernel_rfl
theorem wheelGone_c4 : Try.prog.cellsOf 4 = 1 := by kernel_rfl
theorem wheelGone_b3 : Try.prog.underlying 3 = some (.int .i64) := by kernel_rfl
theorem wheelGone_b4 : Try.prog.underlying 4 = some .bool := by kernel_rfl

theorem wheelGone_struct : ∃ fs, Try.prog.underlying 55 = some (.struct fs) := by
  have h := wheelGone_T
  unfold fieldTab at h
  split at h
  · rename_i fs hu; exact ⟨fs, hu⟩
  · cases h
set_option maxRecDepth 100000 in
theorem wheelGone_lifted (os : Os) (started : os.Started) (H : Type) (enc : TypeId × Value → H) :
    ReturnsInHanded {} Try.checked os 7 .any (Rows.wheelGoneSpec.pre6 enc Try.prog Try.f7 Rows.wheelGoneRow.domain false) (Rows.wheelGoneSpec.post enc Try.prog Try.f7 false true false false) := by
  refine returnsInHanded_of_change (C := Try.checked) wheelGone_own started (by kernel_rfl) Try.func7
    (ChangeSpec.witness6 (enc := enc) (C := Try.checked) false ⟨#[], #[.agg #[.int .i64 0, .int .i64 0, .int .i64 0, .bool false]], []⟩ 8 (by kernel_rfl) (by kernel_rfl) (by kernel_rfl) (by kernel_rfl)) ?_
  intro W base args ds gs before hval0 hW _ _
  have hval : ∀ (j : Nat) t v, Try.f7.params[j]? = some t → args[j]? = some v → Value.okWide Try.prog W .any base t v := hval0
  have hW' := hW
  obtain ⟨p, q, hA0, hV0, rfl, hfz, hnd⟩ := hW
  have hA : DataW.TrodAll enc Try.prog W 0 (fun _ => true) true Try.f7.params.toList args.toList ds p := hA0
  have hV : DataW.TrodVars enc Try.prog W (fun _ => true) [] gs q := hV0
  rw [wheelGone_params] at hA hval
  obtain ⟨v0, d0, rfl, rfl, h0⟩ := trodAll_one hA
  obtain ⟨rfl, rfl⟩ := trodVars_none hV
  obtain ⟨fs, hfs⟩ := wheelGone_struct
  obtain ⟨cs, rfl, _⟩ := okWide_struct hfs (hval 0 55 v0 rfl rfl)
  have h0k := h0
  obtain ⟨fuel, hf⟩ := h0
  clear hA0 hval0
  simp only [List.append_nil] at hW'
  have hlt : ∀ x ∈ p, x.block < W.heap.size := fun x hx => by simpa using hW'.lt x (by simp [hx])
  obtain ⟨hl_, hf_⟩ := trod_tab wheelGone_T hf
  rw [wheelGone_c55] at hl_
  obtain ⟨k, a, l, b, hcs⟩ : ∃ (k a l : Int) (b : Bool), cs = #[.int .i64 k, .int .i64 a, .int .i64 l, .bool b] := by
    match h5 : cs.toList, (show cs.toList.length = 4 from by simpa [Value.cells] using hl_) with
    | [c0, c1, c2, c3], _ =>
      obtain ⟨n0, y0, h0⟩ := hf_ (3, 0) (by simp)
      obtain ⟨n1, y1, h1⟩ := hf_ (3, 1) (by simp)
      obtain ⟨n2, y2, h2⟩ := hf_ (3, 2) (by simp)
      obtain ⟨n3, y3, h3⟩ := hf_ (4, 3) (by simp)
      simp only [Value.cells, h5, wheelGone_c3, wheelGone_c4, List.drop_zero, List.drop_succ_cons, List.take_succ_cons, List.take_zero] at h0 h1 h2 h3
      obtain ⟨k, e0, _⟩ := DataW.trod_int wheelGone_b3 h0
      obtain ⟨a, e1, _⟩ := DataW.trod_int wheelGone_b3 h1
      obtain ⟨l, e2, _⟩ := DataW.trod_int wheelGone_b3 h2
      obtain ⟨b, e3, _⟩ := DataW.trod_bool wheelGone_b4 h3
      simp only [List.cons.injEq, and_true] at e0 e1 e2 e3
      subst e0 e1 e2 e3
      exact ⟨k, a, l, b, Array.ext' h5⟩
  subst hcs

  refine (WheelGone_ct k a l b W).mono fun e W' ⟨he, hg⟩ => ?_
  subst he
  have e1 : Rows.wheelGoneSpec.fn H ([d0] ++ []) = { results := [.lit (.bool true)], args := [d0] } := rfl
  refine ⟨_, rfl, _, _, _, [], p, [], by simpa using hW', ?_, ?_, ?_, hg.below.frame _, fun h => by cases h⟩
  · rw [e1]; exact trodAll_mk1 (shut_bool wheelGone_und4 true)
  · rw [e1]; exact trodAll_mk1 (Below.trod wheelGone_laidOut (by kernel_rfl) (of_decide_eq_true (by kernel_rfl)) h0k hg.below hlt)
  · rw [e1]; rfl
theorem wheelGone_holds : Rows.WheelGoneSaid :=
  OpenClaim.holds_of_wide 7 Try.f7 rfl rfl rfl rfl rfl rfl rfl ⟨rfl, rfl, rfl, rfl, rfl⟩ rfl rfl rfl rfl rfl (by kernel_rfl) Try.func7 (by kernel_rfl)
    (of_decide_eq_true (by kernel_rfl)) (by unfold Func.isWrapper; first | (rw [if_pos (by decide +kernel)]; kernel_rfl) | (rw [if_neg (of_decide_eq_false (by kernel_rfl))]; exact ⟨rfl, rfl⟩))
    (fun os started H enc _ => wheelGone_lifted os started H enc)
#print axioms wheelGone_holds
end Go.Proofs.Ytkafccgbagbncaa
