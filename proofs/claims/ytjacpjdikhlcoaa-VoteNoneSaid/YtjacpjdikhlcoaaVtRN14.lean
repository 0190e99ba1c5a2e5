/- towpathlaw14.VoteNone returns true for every input, and changes no argument: the given statement. Conditions: those of the given row alone. -/
import Derived.Test.YtjacpjdikhlcoaaRows
import Derived.Test.YtjacpjdikhlcoaaChecked
import Derived.Test.YtjacpjdikhlcoaaVtO14
import Derived.Test.YtjacpjdikhlcoaaTwOpen
import Derived.Carry
import Derived.ChangeSame
import Derived.ChangeVars
import Derived.JoinedOf
import Derived.RowKit
import Derived.RowKitTokens
import Derived.OpenShut
import Derived.ChangeMaps5
namespace Go.Proofs.Ytjacpjdikhlcoaa
set_option linter.unusedSimpArgs false
set_option linter.unusedVariables false
set_option linter.unusedSectionVars false
open Go Go.ChangeShapes Go.WideShapes Go.RowKit Go.Tw
set_option maxRecDepth 100000
theorem voteNone_own : ownKnob Try.prog.godebug = none := by kernel_rfl
theorem voteNone_laidOut : laidOutB Try.prog = true := by kernel_rfl
theorem voteNone_params : Try.f8.params = #[50, 25] := by kernel_rfl
theorem voteNone_und4 : Try.prog.underlying 4 = some .bool := by kernel_rfl

theorem voteNone_T : fieldTab Try.prog 50 = some [(3, 0), (3, 1)] := by kernel_rfl
theorem voteNone_cB : Try.prog.cellsOf 50 = 2 := by kernel_rfl
theorem voteNone_c3 : Try.prog.cellsOf 3 = 1 := by kernel_rfl
theorem voteNone_b3 : Try.prog.underlying 3 = some (.int .i64) := by kernel_rfl
theorem voteNone_struct : ∃ fs, Try.prog.underlying 50 = some (.struct fs) := by
  have h := voteNone_T
  unfold fieldTab at h
  split at h
  · rename_i fs hu; exact ⟨fs, hu⟩
  · cases h
theorem voteNone_bL : Try.prog.underlying 25 = some (.slice 61) := by kernel_rfl
set_option maxRecDepth 100000 in
theorem voteNone_lifted (os : Os) (started : os.Started) (H : Type) (enc : TypeId × Value → H) :
    ReturnsInHanded {} Try.checked os 8 .any (Rows.voteNoneSpec.pre6 enc Try.prog Try.f8 Rows.voteNoneRow.domain false) (Rows.voteNoneSpec.post enc Try.prog Try.f8 false true false false) := by
  refine returnsInHanded_of_change (C := Try.checked) voteNone_own started (by kernel_rfl) Try.func8
    (ChangeSpec.witness6 (enc := enc) (C := Try.checked) false ⟨#[], #[.agg #[.int .i64 0, .int .i64 0], .slice none 0 0], []⟩ 8 (by kernel_rfl) (by kernel_rfl) (by kernel_rfl) (by kernel_rfl)) ?_
  intro W base args ds gs before hval0 hW _ _
  have hval : ∀ (j : Nat) t v, Try.f8.params[j]? = some t → args[j]? = some v → Value.okWide Try.prog W .any base t v := hval0
  have hW' := hW
  obtain ⟨p, q, hA0, hV0, rfl, hfz, hnd⟩ := hW
  have hA : DataW.TrodAll enc Try.prog W 0 (fun _ => true) true Try.f8.params.toList args.toList ds p := hA0
  have hV : DataW.TrodVars enc Try.prog W (fun _ => true) [] gs q := hV0
  rw [voteNone_params] at hA hval
  obtain ⟨v0, vs0, d0, ds0, p0, q0, hargs, rfl, rfl, h0, r0⟩ := trodAll_cons hA
  obtain ⟨v1, vs1, d1, ds1, p1, q1, rfl, rfl, rfl, h1, r1⟩ := trodAll_cons r0
  obtain ⟨rfl, rfl, rfl⟩ := trodAll_nil r1
  obtain rfl : args = #[v0, v1] := Array.ext' (by simpa using hargs)
  obtain ⟨rfl, rfl⟩ := trodVars_none hV
  have h0k := h0
  have h1k := h1
  clear hA0 hval0
  have hlt0 : ∀ x ∈ p0, x.block < W.heap.size := fun x hx => hW'.lt x (by simp [hx])
  have hlt1 : ∀ x ∈ p1, x.block < W.heap.size := fun x hx => hW'.lt x (by simp [hx])
  obtain ⟨fs0, hfs0⟩ := voteNone_struct
  obtain ⟨cs0, rfl, _⟩ := okWide_struct hfs0 (hval 0 50 v0 rfl rfl)
  obtain ⟨fuel0, hf0⟩ := h0
  obtain ⟨hl0_, hf0_⟩ := trod_tab voteNone_T hf0
  rw [voteNone_cB] at hl0_
  obtain ⟨n_, d_, hcs0, hib0⟩ : ∃ an ad : Int, cs0 = #[.int .i64 an, .int .i64 ad] ∧ isI64 an ∧ isI64 ad := by
    match h5 : cs0.toList, (show cs0.toList.length = 2 from by simpa [Value.cells] using hl0_) with
    | [c0, c1], _ =>
      obtain ⟨n0, y0, g0⟩ := hf0_ (3, 0) (by simp)
      obtain ⟨n1, y1, g1⟩ := hf0_ (3, 1) (by simp)
      simp only [Value.cells, h5, voteNone_c3, List.drop_zero, List.drop_succ_cons, List.take_succ_cons, List.take_zero] at g0 g1
      obtain ⟨a, e0, _, w0⟩ := DataW.trod_int voteNone_b3 g0
      obtain ⟨b, e1, _, w1⟩ := DataW.trod_int voteNone_b3 g1
      simp only [List.cons.injEq, and_true] at e0 e1
      subst e0 e1
      exact ⟨a, b, Array.ext' h5, bounds_i64 w0, bounds_i64 w1⟩
  subst hcs0
  obtain ⟨a1_, l1_, c1_, rfl⟩ := okWide_slice voteNone_bL (hval 1 25 v1 rfl rfl)
  refine (VoteNone_ct n_ d_ a1_ l1_ c1_ W).mono fun e W' ⟨he, hg⟩ => ?_
  subst he
  have e1 : Rows.voteNoneSpec.fn H ([d0, d1] ++ []) = { results := [.lit (.bool true)], args := [d0, d1] } := rfl
  refine ⟨_, rfl, _, _, _, [], (p0 ++ (p1)), [], by simpa using hW', ?_, ?_, ?_, hg.below.frame _, fun h => by cases h⟩
  · rw [e1]; exact trodAll_mk1 (shut_bool voteNone_und4 true)
  · rw [e1]; exact trodAll_mk2 (Below.trod voteNone_laidOut (by kernel_rfl) (of_decide_eq_true (by kernel_rfl)) h0k hg.below hlt0) (Below.trod voteNone_laidOut (by kernel_rfl) (of_decide_eq_true (by kernel_rfl)) h1k hg.below hlt1)
  · rw [e1]; rfl
theorem voteNone_holds : Rows.VoteNoneSaid :=
  OpenClaim.holds_of_wide 8 Try.f8 rfl rfl rfl rfl rfl rfl rfl ⟨rfl, rfl, rfl, rfl, rfl⟩ rfl rfl rfl rfl rfl (by kernel_rfl) Try.func8 (by kernel_rfl)
    (of_decide_eq_true (by kernel_rfl)) (by unfold Func.isWrapper; first | (rw [if_pos (by decide +kernel)]; kernel_rfl) | (rw [if_neg (of_decide_eq_false (by kernel_rfl))]; exact ⟨rfl, rfl⟩))
    (fun os started H enc _ => voteNone_lifted os started H enc)
#print axioms voteNone_holds
end Go.Proofs.Ytjacpjdikhlcoaa
