/- towpathlaw14.VoteRises returns true for every input, and changes no argument: the given statement. Conditions: those of the given row alone. -/
import Derived.Test.YtjacpjdikhlcoaaRows
import Derived.Test.YtjacpjdikhlcoaaChecked
import Derived.Test.YtjacpjdikhlcoaaVtQ14
import Derived.Test.YtjacpjdikhlcoaaTwOpen
import Derived.Carry
import Derived.ChangeSame
import Derived.ChangeVars
import Derived.JoinedOf
import Derived.RowKit
import Derived.RowKitTokens
import Derived.OpenShut
import Derived.ChangeMaps5
namespace Go.Proofs.Ytjacpjdikhlcoaa
set_option linter.unusedSimpArgs false
set_option linter.unusedVariables false
set_option linter.unusedSectionVars false
open Go Go.ChangeShapes Go.WideShapes Go.RowKit Go.Tw
set_option maxRecDepth 100000
theorem voteRises_own : ownKnob Try.prog.godebug = none := by kernel_rfl
theorem voteRises_laidOut : laidOutB Try.prog = true := by kernel_rfl
theorem voteRises_params : Try.f5.params = #[43, 44] := by kernel_rfl
theorem voteRises_und4 : Try.prog.underlying 4 = some .bool := by kernel_rfl

theorem voteRises_T : fieldTab Try.prog 50 = some [(3, 0), (3, 1)] := by kernel_rfl
theorem voteRises_cB : Try.prog.cellsOf 50 = 2 := by kernel_rfl
theorem voteRises_c3 : Try.prog.cellsOf 3 = 1 := by kernel_rfl
theorem voteRises_b3 : Try.prog.underlying 3 = some (.int .i64) := by kernel_rfl
theorem voteRises_opb {H : Type} {henc : TypeId × Value → H} {w : World} {base : Nat} {spare : Nat → Bool} {held : Bool} : Opn henc Try.prog w base spare held 50 encBal (fun b => isI64 b.1 ∧ isI64 b.2) := by
  refine ⟨fun fuel cs x h => ?_⟩
  obtain ⟨hl, hf⟩ := trod_tab voteRises_T h
  rw [voteRises_cB] at hl
  match cs, hl with
  | [c0, c1], _ =>
    obtain ⟨n0, y0, g0⟩ := hf (3, 0) (by simp)
    obtain ⟨n1, y1, g1⟩ := hf (3, 1) (by simp)
    simp only [voteRises_c3, List.drop_zero, List.drop_succ_cons, List.take_succ_cons, List.take_zero] at g0 g1
    obtain ⟨a, e0, _, w0⟩ := DataW.trod_int voteRises_b3 g0
    obtain ⟨b, e1, _, w1⟩ := DataW.trod_int voteRises_b3 g1
    simp only [List.cons.injEq, and_true] at e0 e1
    subst e0 e1
    exact ⟨(a, b), rfl, bounds_i64 w0, bounds_i64 w1⟩
theorem voteRises_b43 : Try.prog.underlying 43 = some (.slice 50) := by kernel_rfl
theorem voteRises_b44 : Try.prog.underlying 44 = some (.slice 4) := by kernel_rfl
theorem voteRises_c4 : Try.prog.cellsOf 4 = 1 := by kernel_rfl
theorem voteRises_b4 : Try.prog.underlying 4 = some .bool := by kernel_rfl
set_option maxRecDepth 100000 in
theorem voteRises_lifted (os : Os) (started : os.Started) (H : Type) (enc : TypeId × Value → H) :
    ReturnsInHanded {} Try.checked os 5 .any (Rows.voteRisesSpec.pre6 enc Try.prog Try.f5 Rows.voteRisesRow.domain false) (Rows.voteRisesSpec.post enc Try.prog Try.f5 false true false false) := by
  refine returnsInHanded_of_change (C := Try.checked) voteRises_own started (by kernel_rfl) Try.func5
    (ChangeSpec.witness6 (enc := enc) (C := Try.checked) false ⟨#[], #[.slice none 0 0, .slice none 0 0], []⟩ 8 (by kernel_rfl) (by kernel_rfl) (by kernel_rfl) (by kernel_rfl)) ?_
  intro W base args ds gs before hval0 hW _ _
  have hval : ∀ (j : Nat) t v, Try.f5.params[j]? = some t → args[j]? = some v → Value.okWide Try.prog W .any base t v := hval0
  have hW' := hW
  obtain ⟨p, q, hA0, hV0, rfl, hfz, hnd⟩ := hW
  have hA : DataW.TrodAll enc Try.prog W 0 (fun _ => true) true Try.f5.params.toList args.toList ds p := hA0
  have hV : DataW.TrodVars enc Try.prog W (fun _ => true) [] gs q := hV0
  rw [voteRises_params] at hA hval
  obtain ⟨v0, vs0, d0, ds0, p0, q0, hargs, rfl, rfl, h0, r0⟩ := trodAll_cons hA
  obtain ⟨v1, vs1, d1, ds1, p1, q1, rfl, rfl, rfl, h1, r1⟩ := trodAll_cons r0
  obtain ⟨rfl, rfl, rfl⟩ := trodAll_nil r1
  obtain rfl : args = #[v0, v1] := Array.ext' (by simpa using hargs)
  obtain ⟨rfl, rfl⟩ := trodVars_none hV
  have h0k := h0
  have h1k := h1
  clear hA0 hval0
  have hlt0 : ∀ x ∈ p0, x.block < W.heap.size := fun x hx => hW'.lt x (by simp [hx])
  have hlt1 : ∀ x ∈ p1, x.block < W.heap.size := fun x hx => hW'.lt x (by simp [hx])
  obtain ⟨a0_, l0_, c0_, rfl⟩ := okWide_slice voteRises_b43 (hval 0 43 v0 rfl rfl)
  obtain ⟨fuel0, hf0⟩ := h0
  obtain ⟨A0, bs, C0, hcs0, hr0, hok0, hlc0, hcm0⟩ := opn_slice voteRises_b43 voteRises_cB (by decide) encBal_len voteRises_opb hf0
  simp only [Value.cells, List.cons.injEq, Value.slice.injEq, and_true] at hcs0
  obtain ⟨rfl, rfl, rfl⟩ := hcs0
  simp only [maxLen] at hcm0
  obtain ⟨a1_, l1_, c1_, rfl⟩ := okWide_slice voteRises_b44 (hval 1 44 v1 rfl rfl)
  obtain ⟨fuel1, hf1⟩ := h1
  obtain ⟨A1, ks, C1, hcs1, hr1, hok1, hlc1, hcm1⟩ := opn_slice voteRises_b44 voteRises_c4 (by decide) encB_len (opn_bool voteRises_b4) hf1
  simp only [Value.cells, List.cons.injEq, Value.slice.injEq, and_true] at hcs1
  obtain ⟨rfl, rfl, rfl⟩ := hcs1
  simp only [maxLen] at hcm1
  refine (VoteRises_ct a0_ c0_ bs a1_ c1_ ks W hr0 hr1 hok0 (by omega)).mono fun e W' ⟨he, hg⟩ => ?_
  subst he
  have e1 : Rows.voteRisesSpec.fn H ([d0, d1] ++ []) = { results := [.lit (.bool true)], args := [d0, d1] } := rfl
  refine ⟨_, rfl, _, _, _, [], (p0 ++ (p1)), [], by simpa using hW', ?_, ?_, ?_, hg.below.frame _, fun h => by cases h⟩
  · rw [e1]; exact trodAll_mk1 (shut_bool voteRises_und4 true)
  · rw [e1]; exact trodAll_mk2 (Below.trod voteRises_laidOut (by kernel_rfl) (of_decide_eq_true (by kernel_rfl)) h0k hg.below hlt0) (Below.trod voteRises_laidOut (by kernel_rfl) (of_decide_eq_true (by kernel_rfl)) h1k hg.below hlt1)
  · rw [e1]; rfl
theorem voteRises_holds : Rows.VoteRisesSaid :=
  OpenClaim.holds_of_wide 5 Try.f5 rfl rfl rfl rfl rfl rfl rfl ⟨rfl, rfl, rfl, rfl, rfl⟩ rfl rfl rfl rfl rfl (by kernel_rfl) Try.func5 (by kernel_rfl)
    (of_decide_eq_true (by kernel_rfl)) (by unfold Func.isWrapper; first | (rw [if_pos (by decide +kernel)]; kernel_rfl) | (rw [if_neg (of_decide_eq_false (by kernel_rfl))]; exact ⟨rfl, rfl⟩))
    (fun os started H enc _ => voteRises_lifted os started H enc)
#print axioms voteRises_holds
end Go.Proofs.Ytjacpjdikhlcoaa
