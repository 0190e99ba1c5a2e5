/- towpathlaw15.RoundNone returns true for every input, and changes no argument: the given statement. Conditions: those of the given row alone. -/
import Derived.Test.YtlpmmepbfafpfaaRows
import Derived.Test.YtlpmmepbfafpfaaChecked
import Derived.Test.YtlpmmepbfafpfaaRdG15
import Derived.Test.YtlpmmepbfafpfaaTwOpen
import Derived.Carry
import Derived.ChangeSame
import Derived.ChangeVars
import Derived.JoinedOf
import Derived.RowKit
import Derived.RowKitTokens
import Derived.OpenShut
import Derived.ChangeMaps5
namespace Go.Proofs.Ytlpmmepbfafpfaa
set_option linter.unusedSimpArgs false
set_option linter.unusedVariables false
set_option linter.unusedSectionVars false
open Go Go.ChangeShapes Go.WideShapes Go.RowKit Go.Tw
set_option maxRecDepth 100000
theorem roundNone_own : ownKnob Try.prog.godebug = none := by kernel_rfl
theorem roundNone_laidOut : laidOutB Try.prog = true := by kernel_rfl
theorem roundNone_params : Try.f5.params = #[3, 31] := by kernel_rfl
theorem roundNone_und4 : Try.prog.underlying 4 = some .bool := by kernel_rfl
theorem roundNone_u3 : Try.prog.underlying 3 = some (.int .i64) := by kernel_rfl
theorem roundNone_T : fieldTab Try.prog 31 = some [(3, 0), (3, 1)] := by kernel_rfl
theorem roundNone_c31 : Try.prog.cellsOf 31 = 2 := by kernel_rfl
theorem roundNone_c3 : Try.prog.cellsOf 3 = 1 := by kernel_rfl
theorem roundNone_b3 : Try.prog.underlying 3 = some (.int .i64) := by kernel_rfl
theorem roundNone_struct : ∃ fs, Try.prog.underlying 31 = some (.struct fs) := by
  have h := roundNone_T
  unfold fieldTab at h
  split at h
  · rename_i fs hu; exact ⟨fs, hu⟩
  · cases h
set_option maxRecDepth 100000 in
theorem roundNone_lifted (os : Os) (started : os.Started) (H : Type) (enc : TypeId × Value → H) :
    ReturnsInHanded {} Try.checked os 5 .any (Rows.roundNoneSpec.pre6 enc Try.prog Try.f5 Rows.roundNoneRow.domain false) (Rows.roundNoneSpec.post enc Try.prog Try.f5 false true false false) := by
  refine returnsInHanded_of_change (C := Try.checked) roundNone_own started (by kernel_rfl) Try.func5
    (ChangeSpec.witness6 (enc := enc) (C := Try.checked) false ⟨#[], #[.int .i64 0, .agg #[.int .i64 0, .int .i64 0]], []⟩ 8 (by kernel_rfl) (by kernel_rfl) (by kernel_rfl) (by kernel_rfl)) ?_
  intro W base args ds gs before hval0 hW _ _
  have hval : ∀ (j : Nat) t v, Try.f5.params[j]? = some t → args[j]? = some v → Value.okWide Try.prog W .any base t v := hval0
  have hW' := hW
  obtain ⟨p, q, hA0, hV0, rfl, hfz, hnd⟩ := hW
  have hA : DataW.TrodAll enc Try.prog W 0 (fun _ => true) true Try.f5.params.toList args.toList ds p := hA0
  have hV : DataW.TrodVars enc Try.prog W (fun _ => true) [] gs q := hV0
  rw [roundNone_params] at hA hval
  obtain ⟨v0, vs0, d0, ds0, p0, q0, hargs, rfl, rfl, h0, r0⟩ := trodAll_cons hA
  obtain ⟨v1, vs1, d1, ds1, p1, q1, rfl, rfl, rfl, h1, r1⟩ := trodAll_cons r0
  obtain ⟨rfl, rfl, rfl⟩ := trodAll_nil r1
  obtain rfl : args = #[v0, v1] := Array.ext' (by simpa using hargs)
  obtain ⟨rfl, rfl⟩ := trodVars_none hV
  obtain ⟨node, rfl, rfl, rfl, w0⟩ := open_int roundNone_u3 (hval 0 3 v0 rfl rfl) h0
  have h1k := h1
  clear hA0 hval0
  have hlt1 : ∀ x ∈ p1, x.block < W.heap.size := fun x hx => hW'.lt x (by simp [hx])
  obtain ⟨fs1, hfs1⟩ := roundNone_struct
  obtain ⟨cs1, rfl, _⟩ := okWide_struct hfs1 (hval 1 31 v1 rfl rfl)
  obtain ⟨fuel1, hf1⟩ := h1
  obtain ⟨hl_, hf_⟩ := trod_tab roundNone_T hf1
  rw [roundNone_c31] at hl_
  obtain ⟨an, ad, hcs1⟩ : ∃ an ad : Int, cs1 = #[.int .i64 an, .int .i64 ad] := by
    match h5 : cs1.toList, (show cs1.toList.length = 2 from by simpa [Value.cells] using hl_) with
    | [c0, c1], _ =>
      obtain ⟨n0, y0, g0⟩ := hf_ (3, 0) (by simp)
      obtain ⟨n1, y1, g1⟩ := hf_ (3, 1) (by simp)
      simp only [Value.cells, h5, roundNone_c3, List.drop_zero, List.drop_succ_cons, List.take_succ_cons, List.take_zero] at g0 g1
      obtain ⟨a, e0, _⟩ := DataW.trod_int roundNone_b3 g0
      obtain ⟨b, e1, _⟩ := DataW.trod_int roundNone_b3 g1
      simp only [List.cons.injEq, and_true] at e0 e1
      subst e0 e1
      exact ⟨a, b, Array.ext' h5⟩
  subst hcs1
  refine (RoundNone_ct node an ad W).mono fun e W' ⟨he, hg⟩ => ?_
  subst he
  have e1 : Rows.roundNoneSpec.fn H ([.lit (.int .i64 node), d1] ++ []) = { results := [.lit (.bool true)], args := [.lit (.int .i64 node), d1] } := rfl
  refine ⟨_, rfl, _, _, _, [], ([] ++ (p1)), [], by simpa using hW', ?_, ?_, ?_, hg.below.frame _, fun h => by cases h⟩
  · rw [e1]; exact trodAll_mk1 (shut_bool roundNone_und4 true)
  · rw [e1]; exact trodAll_mk2 (shut_int roundNone_u3 w0) (Below.trod roundNone_laidOut (by kernel_rfl) (of_decide_eq_true (by kernel_rfl)) h1k hg.below hlt1)
  · rw [e1]; rfl
theorem roundNone_holds : Rows.RoundNoneSaid :=
  OpenClaim.holds_of_wide 5 Try.f5 rfl rfl rfl rfl rfl rfl rfl ⟨rfl, rfl, rfl, rfl, rfl⟩ rfl rfl rfl rfl rfl (by kernel_rfl) Try.func5 (by kernel_rfl)
    (of_decide_eq_true (by kernel_rfl)) (by unfold Func.isWrapper; first | (rw [if_pos (by decide +kernel)]; kernel_rfl) | (rw [if_neg (of_decide_eq_false (by kernel_rfl))]; exact ⟨rfl, rfl⟩))
    (fun os started H enc _ => roundNone_lifted os started H enc)
#print axioms roundNone_holds
end Go.Proofs.Ytlpmmepbfafpfaa
