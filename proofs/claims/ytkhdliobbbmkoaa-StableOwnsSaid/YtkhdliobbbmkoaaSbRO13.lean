/- towpathlaw13.StableOwns returns true for every input, and changes no argument: the given statement. Conditions: those of the given row alone. -/
import Derived.Test.YtkhdliobbbmkoaaRows
import Derived.Test.YtkhdliobbbmkoaaChecked
import Derived.Test.YtkhdliobbbmkoaaSbS13
import Derived.Test.YtkhdliobbbmkoaaTwOpen
import Derived.Carry
import Derived.ChangeSame
import Derived.ChangeVars
import Derived.JoinedOf
import Derived.RowKit
import Derived.RowKitTokens
import Derived.OpenShut
import Derived.ChangeMaps5
namespace Go.Proofs.Ytkhdliobbbmkoaa
set_option linter.unusedSimpArgs false
set_option linter.unusedVariables false
set_option linter.unusedSectionVars false
open Go Go.ChangeShapes Go.WideShapes Go.RowKit Go.Tw
set_option maxRecDepth 100000
theorem stableOwns_own : ownKnob Try.prog.godebug = none := by kernel_rfl
theorem stableOwns_laidOut : laidOutB Try.prog = true := by kernel_rfl
theorem stableOwns_params : Try.f3.params = #[9, 22] := by kernel_rfl
theorem stableOwns_und4 : Try.prog.underlying 4 = some .bool := by kernel_rfl

theorem stableOwns_s9 : Try.prog.underlying 9 = some .string := by kernel_rfl
theorem stableOwns_b22 : Try.prog.underlying 22 = some (.slice 5) := by kernel_rfl
theorem stableOwns_b5 : Try.prog.underlying 5 = some (.int .u8) := by kernel_rfl
theorem stableOwns_c5 : Try.prog.cellsOf 5 = 1 := by kernel_rfl
theorem byte_wf {x : Int} (h : (Lit.int .u8 x).wf = true) : 0 ≤ x ∧ x < 256 := by
  have h1 := bounds_u8 h
  omega
set_option maxRecDepth 100000 in
theorem stableOwns_lifted (os : Os) (started : os.Started) (H : Type) (enc : TypeId × Value → H) :
    ReturnsInHanded {} Try.checked os 3 .any (Rows.stableOwnsSpec.pre6 enc Try.prog Try.f3 Rows.stableOwnsRow.domain false) (Rows.stableOwnsSpec.post enc Try.prog Try.f3 false true false false) := by
  refine returnsInHanded_of_change (C := Try.checked) stableOwns_own started (by kernel_rfl) Try.func3
    (ChangeSpec.witness6 (enc := enc) (C := Try.checked) false ⟨#[], #[.string ⟨#[]⟩, .slice none 0 0], []⟩ 8 (by kernel_rfl) (by kernel_rfl) (by kernel_rfl) (by kernel_rfl)) ?_
  intro W base args ds gs before hval0 hW _ _
  have hval : ∀ (j : Nat) t v, Try.f3.params[j]? = some t → args[j]? = some v → Value.okWide Try.prog W .any base t v := hval0
  have hW' := hW
  obtain ⟨p, q, hA0, hV0, rfl, hfz, hnd⟩ := hW
  have hA : DataW.TrodAll enc Try.prog W 0 (fun _ => true) true Try.f3.params.toList args.toList ds p := hA0
  have hV : DataW.TrodVars enc Try.prog W (fun _ => true) [] gs q := hV0
  rw [stableOwns_params] at hA hval
  obtain ⟨v0, vs0, d0, ds0, p0, q0, hargs, rfl, rfl, h0, r0⟩ := trodAll_cons hA
  obtain ⟨v1, vs1, d1, ds1, p1, q1, rfl, rfl, rfl, h1, r1⟩ := trodAll_cons r0
  obtain ⟨rfl, rfl, rfl⟩ := trodAll_nil r1
  obtain rfl : args = #[v0, v1] := Array.ext' (by simpa using hargs)
  obtain ⟨rfl, rfl⟩ := trodVars_none hV
  obtain ⟨key, rfl, rfl, rfl, w0⟩ := ChangeMaps.open_string stableOwns_s9 (hval 0 9 v0 rfl rfl) h0
  have h1k := h1
  clear hA0 hval0
  have hlt1 : ∀ x ∈ p1, x.block < W.heap.size := fun x hx => hW'.lt x (by simp [hx])
  obtain ⟨a1_, l1_, c1_, rfl⟩ := okWide_slice stableOwns_b22 (hval 1 22 v1 rfl rfl)
  obtain ⟨fuel1, hf1⟩ := h1
  obtain ⟨A, row, c, hcs1, hr1, hwf1, hlc1, hcm1⟩ := opn_slice stableOwns_b22 stableOwns_c5 (by decide) (encI_len _) (opn_int stableOwns_b5) hf1
  have hb1 : byteL row := fun x hx => byte_wf (hwf1 x hx)
  simp only [Value.cells, List.cons.injEq, Value.slice.injEq, and_true] at hcs1
  obtain ⟨rfl, rfl, rfl⟩ := hcs1
  refine (StableOwns_ct key a1_ c1_ row W hr1 hb1 (by first | exact Nat.le_trans hlc1 (by simpa [maxLen] using hcm1) | (simp only [maxLen] at hcm1; omega))).mono fun e W' ⟨he, hg⟩ => ?_
  subst he
  have e1 : Rows.stableOwnsSpec.fn H ([.lit (.string key.data.toList), d1] ++ []) = { results := [.lit (.bool true)], args := [.lit (.string key.data.toList), d1] } := rfl
  refine ⟨_, rfl, _, _, _, [], ([] ++ (p1)), [], by simpa using hW', ?_, ?_, ?_, hg.below.frame _, fun h => by cases h⟩
  · rw [e1]; exact trodAll_mk1 (shut_bool stableOwns_und4 true)
  · rw [e1]; exact trodAll_mk2 (ChangeMaps.shut_string stableOwns_s9 w0) (Below.trod stableOwns_laidOut (by kernel_rfl) (of_decide_eq_true (by kernel_rfl)) h1k hg.below hlt1)
  · rw [e1]; rfl
theorem stableOwns_holds : Rows.StableOwnsSaid :=
  OpenClaim.holds_of_wide 3 Try.f3 rfl rfl rfl rfl rfl rfl rfl ⟨rfl, rfl, rfl, rfl, rfl⟩ rfl rfl rfl rfl rfl (by kernel_rfl) Try.func3 (by kernel_rfl)
    (of_decide_eq_true (by kernel_rfl)) (by unfold Func.isWrapper; first | (rw [if_pos (by decide +kernel)]; kernel_rfl) | (rw [if_neg (of_decide_eq_false (by kernel_rfl))]; exact ⟨rfl, rfl⟩))
    (fun os started H enc _ => stableOwns_lifted os started H enc)
#print axioms stableOwns_holds
end Go.Proofs.Ytkhdliobbbmkoaa
