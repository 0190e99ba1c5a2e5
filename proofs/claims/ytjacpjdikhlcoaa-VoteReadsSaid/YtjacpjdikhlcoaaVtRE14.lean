/- towpathlaw14.VoteReads returns true for every input, and changes no argument: the given statement. Conditions: those of the given row alone. -/
import Derived.Test.YtjacpjdikhlcoaaRows
import Derived.Test.YtjacpjdikhlcoaaChecked
import Derived.Test.YtjacpjdikhlcoaaVtV14
import Derived.Test.YtjacpjdikhlcoaaTwOpen
import Derived.Carry
import Derived.ChangeSame
import Derived.ChangeVars
import Derived.JoinedOf
import Derived.RowKit
import Derived.RowKitTokens
import Derived.OpenShut
import Derived.ChangeMaps5
namespace Go.Proofs.Ytjacpjdikhlcoaa
set_option linter.unusedSimpArgs false
set_option linter.unusedVariables false
set_option linter.unusedSectionVars false
open Go Go.ChangeShapes Go.WideShapes Go.RowKit Go.Tw
set_option maxRecDepth 100000
theorem voteReads_own : ownKnob Try.prog.godebug = none := by kernel_rfl
theorem voteReads_laidOut : laidOutB Try.prog = true := by kernel_rfl
theorem voteReads_params : Try.f3.params = #[22] := by kernel_rfl
theorem voteReads_und4 : Try.prog.underlying 4 = some .bool := by kernel_rfl

theorem voteReads_b22 : Try.prog.underlying 22 = some (.slice 5) := by kernel_rfl
theorem voteReads_b5 : Try.prog.underlying 5 = some (.int .u8) := by kernel_rfl
theorem voteReads_c5 : Try.prog.cellsOf 5 = 1 := by kernel_rfl
theorem byte_wf {x : Int} (h : (Lit.int .u8 x).wf = true) : 0 ≤ x ∧ x < 256 := by
  have h1 := bounds_u8 h
  omega
set_option maxRecDepth 100000 in
theorem voteReads_lifted (os : Os) (started : os.Started) (H : Type) (enc : TypeId × Value → H) :
    ReturnsInHanded {} Try.checked os 3 .any (Rows.voteReadsSpec.pre6 enc Try.prog Try.f3 Rows.voteReadsRow.domain false) (Rows.voteReadsSpec.post enc Try.prog Try.f3 false true false false) := by
  refine returnsInHanded_of_change (C := Try.checked) voteReads_own started (by kernel_rfl) Try.func3
    (ChangeSpec.witness6 (enc := enc) (C := Try.checked) false ⟨#[], #[.slice none 0 0], []⟩ 8 (by kernel_rfl) (by kernel_rfl) (by kernel_rfl) (by kernel_rfl)) ?_
  intro W base args ds gs before hval0 hW _ _
  have hval : ∀ (j : Nat) t v, Try.f3.params[j]? = some t → args[j]? = some v → Value.okWide Try.prog W .any base t v := hval0
  have hW' := hW
  obtain ⟨p, q, hA0, hV0, rfl, hfz, hnd⟩ := hW
  have hA : DataW.TrodAll enc Try.prog W 0 (fun _ => true) true Try.f3.params.toList args.toList ds p := hA0
  have hV : DataW.TrodVars enc Try.prog W (fun _ => true) [] gs q := hV0
  rw [voteReads_params] at hA hval
  obtain ⟨v0, vs0, d0, ds0, p0, q0, hargs, rfl, rfl, h0, r0⟩ := trodAll_cons hA
  obtain ⟨rfl, rfl, rfl⟩ := trodAll_nil r0
  obtain rfl : args = #[v0] := Array.ext' (by simpa using hargs)
  obtain ⟨rfl, rfl⟩ := trodVars_none hV
  have h0k := h0
  clear hA0 hval0
  have hlt0 : ∀ x ∈ p0, x.block < W.heap.size := fun x hx => hW'.lt x (by simp [hx])
  obtain ⟨a0_, l0_, c0_, rfl⟩ := okWide_slice voteReads_b22 (hval 0 22 v0 rfl rfl)
  obtain ⟨fuel0, hf0⟩ := h0
  obtain ⟨A, bs, c, hcs0, hr0, hwf0, hlc0, hcm0⟩ := opn_slice voteReads_b22 voteReads_c5 (by decide) (encI_len _) (opn_int voteReads_b5) hf0
  have hb0 : byteL bs := fun x hx => byte_wf (hwf0 x hx)
  simp only [Value.cells, List.cons.injEq, Value.slice.injEq, and_true] at hcs0
  obtain ⟨rfl, rfl, rfl⟩ := hcs0
  simp only [maxLen] at hcm0
  refine (VoteReads_ct a0_ c0_ bs W hr0 hb0 (by omega)).mono fun e W' ⟨he, hg⟩ => ?_
  subst he
  have e1 : Rows.voteReadsSpec.fn H ([d0] ++ []) = { results := [.lit (.bool true)], args := [d0] } := rfl
  refine ⟨_, rfl, _, _, _, [], (p0), [], by simpa using hW', ?_, ?_, ?_, hg.below.frame _, fun h => by cases h⟩
  · rw [e1]; exact trodAll_mk1 (shut_bool voteReads_und4 true)
  · rw [e1]; exact trodAll_mk1 (Below.trod voteReads_laidOut (by kernel_rfl) (of_decide_eq_true (by kernel_rfl)) h0k hg.below hlt0)
  · rw [e1]; rfl
theorem voteReads_holds : Rows.VoteReadsSaid :=
  OpenClaim.holds_of_wide 3 Try.f3 rfl rfl rfl rfl rfl rfl rfl ⟨rfl, rfl, rfl, rfl, rfl⟩ rfl rfl rfl rfl rfl (by kernel_rfl) Try.func3 (by kernel_rfl)
    (of_decide_eq_true (by kernel_rfl)) (by unfold Func.isWrapper; first | (rw [if_pos (by decide +kernel)]; kernel_rfl) | (rw [if_neg (of_decide_eq_false (by kernel_rfl))]; exact ⟨rfl, rfl⟩))
    (fun os started H enc _ => voteReads_lifted os started H enc)
#print axioms voteReads_holds
end Go.Proofs.Ytjacpjdikhlcoaa
