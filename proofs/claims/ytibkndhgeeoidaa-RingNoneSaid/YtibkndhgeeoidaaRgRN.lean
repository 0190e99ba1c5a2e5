/- towpathlaw09.RingNone returns true for every input, and changes no argument: the given statement. Conditions: those of the given row alone. -/
import Derived.Test.YtibkndhgeeoidaaRows
import Derived.Test.YtibkndhgeeoidaaChecked
import Derived.Test.YtibkndhgeeoidaaRgG
import Derived.Carry
import Derived.ChangeSame
import Derived.ChangeVars
import Derived.JoinedOf
import Derived.RowKit
import Derived.RowKitTokens
import Derived.OpenShut
import Derived.ChangeMaps5
namespace Go.Proofs.Ytibkndhgeeoidaa
set_option linter.unusedSimpArgs false
set_option linter.unusedVariables false
set_option linter.unusedSectionVars false
open Go Go.ChangeShapes Go.WideShapes Go.RowKit Go.Tw
set_option maxRecDepth 100000
theorem ringNone_own : ownKnob Try.prog.godebug = none := by kernel_rfl
theorem ringNone_laidOut : laidOutB Try.prog = true := by kernel_rfl
theorem ringNone_params : Try.f9.params = #[32, 3] := by kernel_rfl
theorem ringNone_und4 : Try.prog.underlying 4 = some .bool := by kernel_rfl
theorem ringNone_u3 : Try.prog.underlying 3 = some (.int .i64) := by kernel_rfl
theorem ringNone_u32 : Try.prog.underlying 32 = some (.int .u64) := by kernel_rfl
set_option maxRecDepth 100000 in
theorem ringNone_lifted (os : Os) (started : os.Started) (H : Type) (enc : TypeId × Value → H) :
    ReturnsInHanded {} Try.checked os 9 .any (Rows.ringNoneSpec.pre6 enc Try.prog Try.f9 Rows.ringNoneRow.domain false) (Rows.ringNoneSpec.post enc Try.prog Try.f9 false true false false) := by
  refine returnsInHanded_of_change (C := Try.checked) ringNone_own started (by kernel_rfl) Try.func9
    (ChangeSpec.witness6 (enc := enc) (C := Try.checked) false ⟨#[], #[.int .u64 0, .int .i64 0], []⟩ 8 (by kernel_rfl) (by kernel_rfl) (by kernel_rfl) (by kernel_rfl)) ?_
  intro W base args ds gs before hval0 hW _ _
  have hval : ∀ (j : Nat) t v, Try.f9.params[j]? = some t → args[j]? = some v → Value.okWide Try.prog W .any base t v := hval0
  have hW' := hW
  obtain ⟨p, q, hA0, hV0, rfl, hfz, hnd⟩ := hW
  have hA : DataW.TrodAll enc Try.prog W 0 (fun _ => true) true Try.f9.params.toList args.toList ds p := hA0
  have hV : DataW.TrodVars enc Try.prog W (fun _ => true) [] gs q := hV0
  rw [ringNone_params] at hA hval
  obtain ⟨v0, vs0, d0, ds0, p0, q0, hargs, rfl, rfl, h0, r0⟩ := trodAll_cons hA
  obtain ⟨v1, vs1, d1, ds1, p1, q1, rfl, rfl, rfl, h1, r1⟩ := trodAll_cons r0
  obtain ⟨rfl, rfl, rfl⟩ := trodAll_nil r1
  obtain rfl : args = #[v0, v1] := Array.ext' (by simpa using hargs)
  obtain ⟨rfl, rfl⟩ := trodVars_none hV
  obtain ⟨a0, rfl, rfl, rfl, w0⟩ := open_int ringNone_u32 (hval 0 32 v0 rfl rfl) h0
  obtain ⟨a1, rfl, rfl, rfl, w1⟩ := open_int ringNone_u3 (hval 1 3 v1 rfl rfl) h1
  clear hA0 hval0
  simp only [List.append_nil] at hW'

  refine (RingNone_ct a0 a1 W).mono fun e W' ⟨he, hg⟩ => ?_
  subst he
  have e1 : Rows.ringNoneSpec.fn H ([.lit (.int .u64 a0), .lit (.int .i64 a1)] ++ []) = { results := [.lit (.bool true)], args := [.lit (.int .u64 a0), .lit (.int .i64 a1)] } := rfl
  refine ⟨_, rfl, _, _, _, [], [], [], hW', ?_, ?_, ?_, hg.below.frame _, fun h => by cases h⟩
  · rw [e1]; exact trodAll_mk1 (shut_bool ringNone_und4 true)
  · rw [e1]; exact trodAll_mk2 (shut_int ringNone_u32 w0) (shut_int ringNone_u3 w1)
  · rw [e1]; rfl
theorem ringNone_holds : Rows.RingNoneSaid :=
  OpenClaim.holds_of_wide 9 Try.f9 rfl rfl rfl rfl rfl rfl rfl ⟨rfl, rfl, rfl, rfl, rfl⟩ rfl rfl rfl rfl rfl (by kernel_rfl) Try.func9 (by kernel_rfl)
    (of_decide_eq_true (by kernel_rfl)) (by unfold Func.isWrapper; first | (rw [if_pos (by decide +kernel)]; kernel_rfl) | (rw [if_neg (of_decide_eq_false (by kernel_rfl))]; exact ⟨rfl, rfl⟩))
    (fun os started H enc _ => ringNone_lifted os started H enc)
#print axioms ringNone_holds
end Go.Proofs.Ytibkndhgeeoidaa
