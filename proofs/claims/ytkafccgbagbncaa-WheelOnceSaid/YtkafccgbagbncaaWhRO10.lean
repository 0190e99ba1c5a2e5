/- towpathlaw10.WheelOnce returns true for every input, and changes no argument: the given statement. Conditions: those of the given row alone. -/
import Derived.Test.YtkafccgbagbncaaRows
import Derived.Test.YtkafccgbagbncaaChecked
import Derived.Test.YtkafccgbagbncaaWhH10
import Derived.Test.YtkafccgbagbncaaTwOpen
import Derived.Carry
import Derived.ChangeSame
import Derived.ChangeVars
import Derived.JoinedOf
import Derived.RowKit
import Derived.RowKitTokens
import Derived.OpenShut
import Derived.ChangeMaps5
namespace Go.Proofs.Ytkafccgbagbncaa
set_option linter.unusedSimpArgs false
set_option linter.unusedVariables false
set_option linter.unusedSectionVars false
open Go Go.ChangeShapes Go.WideShapes Go.RowKit Go.Tw
set_option maxRecDepth 100000
theorem wheelOnce_own : ownKnob Try.prog.godebug = none := by kernel_rfl
theorem wheelOnce_laidOut : laidOutB Try.prog = true := by kernel_rfl
theorem wheelOnce_params : Try.f3.params = #[3, 22, 22] := by kernel_rfl
theorem wheelOnce_und4 : Try.prog.underlying 4 = some .bool := by kernel_rfl
theorem wheelOnce_u3 : Try.prog.underlying 3 = some (.int .i64) := by kernel_rfl
theorem wheelOnce_b22 : Try.prog.underlying 22 = some (.slice 3) := by kernel_rfl
theorem wheelOnce_b3 : Try.prog.underlying 3 = some (.int .i64) := by kernel_rfl
theorem wheelOnce_c3 : Try.prog.cellsOf 3 = 1 := by kernel_rfl
set_option maxRecDepth 100000 in
theorem wheelOnce_lifted (os : Os) (started : os.Started) (H : Type) (enc : TypeId × Value → H) :
    ReturnsInHanded {} Try.checked os 3 .any (Rows.wheelOnceSpec.pre6 enc Try.prog Try.f3 Rows.wheelOnceRow.domain false) (Rows.wheelOnceSpec.post enc Try.prog Try.f3 false true false false) := by
  refine returnsInHanded_of_change (C := Try.checked) wheelOnce_own started (by kernel_rfl) Try.func3
    (ChangeSpec.witness6 (enc := enc) (C := Try.checked) false ⟨#[], #[.int .i64 0, .slice none 0 0, .slice none 0 0], []⟩ 8 (by kernel_rfl) (by kernel_rfl) (by kernel_rfl) (by kernel_rfl)) ?_
  intro W base args ds gs before hval0 hW _ _
  have hval : ∀ (j : Nat) t v, Try.f3.params[j]? = some t → args[j]? = some v → Value.okWide Try.prog W .any base t v := hval0
  have hW' := hW
  obtain ⟨p, q, hA0, hV0, rfl, hfz, hnd⟩ := hW
  have hA : DataW.TrodAll enc Try.prog W 0 (fun _ => true) true Try.f3.params.toList args.toList ds p := hA0
  have hV : DataW.TrodVars enc Try.prog W (fun _ => true) [] gs q := hV0
  rw [wheelOnce_params] at hA hval
  obtain ⟨v0, vs0, d0, ds0, p0, q0, hargs, rfl, rfl, h0, r0⟩ := trodAll_cons hA
  obtain ⟨v1, vs1, d1, ds1, p1, q1, rfl, rfl, rfl, h1, r1⟩ := trodAll_cons r0
  obtain ⟨v2, vs2, d2, ds2, p2, q2, rfl, rfl, rfl, h2, r2⟩ := trodAll_cons r1
  obtain ⟨rfl, rfl, rfl⟩ := trodAll_nil r2
  obtain rfl : args = #[v0, v1, v2] := Array.ext' (by simpa using hargs)
  obtain ⟨rfl, rfl⟩ := trodVars_none hV
  obtain ⟨slots, rfl, rfl, rfl, w0⟩ := open_int wheelOnce_u3 (hval 0 3 v0 rfl rfl) h0
  have h1k := h1
  have h2k := h2
  clear hA0 hval0
  have hlt1 : ∀ x ∈ p1, x.block < W.heap.size := fun x hx => hW'.lt x (by simp [hx])
  have hlt2 : ∀ x ∈ p2, x.block < W.heap.size := fun x hx => hW'.lt x (by simp [hx])
  obtain ⟨a1_, l1_, c1_, rfl⟩ := okWide_slice wheelOnce_b22 (hval 1 22 v1 rfl rfl)
  obtain ⟨fuel1, hf1⟩ := h1
  obtain ⟨A1, times, C1, hcs1, hr1, hwf1, hlc1, hcm1⟩ := opn_slice wheelOnce_b22 wheelOnce_c3 (by decide) (Go.Tw.encI_len _) (opn_int wheelOnce_b3) hf1
  simp only [Value.cells, List.cons.injEq, Value.slice.injEq, and_true] at hcs1
  obtain ⟨rfl, rfl, rfl⟩ := hcs1
  obtain ⟨a2_, l2_, c2_, rfl⟩ := okWide_slice wheelOnce_b22 (hval 2 22 v2 rfl rfl)
  obtain ⟨fuel2, hf2⟩ := h2
  obtain ⟨A2, nows, C2, hcs2, hr2, hwf2, hlc2, hcm2⟩ := opn_slice wheelOnce_b22 wheelOnce_c3 (by decide) (Go.Tw.encI_len _) (opn_int wheelOnce_b3) hf2
  simp only [Value.cells, List.cons.injEq, Value.slice.injEq, and_true] at hcs2
  obtain ⟨rfl, rfl, rfl⟩ := hcs2
  refine (WheelOnce_ct slots a1_ c1_ times a2_ c2_ nows W hr1 hr2 (fun x hx => (bounds_i64 (hwf2 x hx)).2)).mono fun e W' ⟨he, hg⟩ => ?_
  subst he
  have e1 : Rows.wheelOnceSpec.fn H ([.lit (.int .i64 slots), d1, d2] ++ []) = { results := [.lit (.bool true)], args := [.lit (.int .i64 slots), d1, d2] } := rfl
  refine ⟨_, rfl, _, _, _, [], ([] ++ (p1 ++ (p2))), [], by simpa using hW', ?_, ?_, ?_, hg.below.frame _, fun h => by cases h⟩
  · rw [e1]; exact trodAll_mk1 (shut_bool wheelOnce_und4 true)
  · rw [e1]; exact trodAll_mk3 (shut_int wheelOnce_u3 w0) (Below.trod wheelOnce_laidOut (by kernel_rfl) (of_decide_eq_true (by kernel_rfl)) h1k hg.below hlt1) (Below.trod wheelOnce_laidOut (by kernel_rfl) (of_decide_eq_true (by kernel_rfl)) h2k hg.below hlt2)
  · rw [e1]; rfl
theorem wheelOnce_holds : Rows.WheelOnceSaid :=
  OpenClaim.holds_of_wide 3 Try.f3 rfl rfl rfl rfl rfl rfl rfl ⟨rfl, rfl, rfl, rfl, rfl⟩ rfl rfl rfl rfl rfl (by kernel_rfl) Try.func3 (by kernel_rfl)
    (of_decide_eq_true (by kernel_rfl)) (by unfold Func.isWrapper; first | (rw [if_pos (by decide +kernel)]; kernel_rfl) | (rw [if_neg (of_decide_eq_false (by kernel_rfl))]; exact ⟨rfl, rfl⟩))
    (fun os started H enc _ => wheelOnce_lifted os started H enc)
#print axioms wheelOnce_holds
end Go.Proofs.Ytkafccgbagbncaa
