/- towpathlaw13.StableTwo returns true for every input, and changes no argument: the given statement. Conditions: those of the given row alone. -/
import Derived.Test.YtelmklombehhkaaRows
import Derived.Test.YtelmklombehhkaaChecked
import Derived.Test.YtelmklombehhkaaSbI13
import Derived.Test.YtelmklombehhkaaTwOpen
import Derived.Carry
import Derived.ChangeSame
import Derived.ChangeVars
import Derived.JoinedOf
import Derived.RowKit
import Derived.RowKitTokens
import Derived.OpenShut
import Derived.ChangeMaps5
namespace Go.Proofs.Ytelmklombehhkaa
set_option linter.unusedSimpArgs false
set_option linter.unusedVariables false
set_option linter.unusedSectionVars false
open Go Go.ChangeShapes Go.WideShapes Go.RowKit Go.Tw
set_option maxRecDepth 100000
theorem stableTwo_own : ownKnob Try.prog.godebug = none := by kernel_rfl
theorem stableTwo_laidOut : laidOutB Try.prog = true := by kernel_rfl
theorem stableTwo_params : Try.f5.params = #[44] := by kernel_rfl
theorem stableTwo_und4 : Try.prog.underlying 4 = some .bool := by kernel_rfl
theorem stableTwo_T : fieldTab Try.prog 44 = some [(9, 0), (9, 1), (22, 2), (22, 3)] := by kernel_rfl
theorem stableTwo_c44 : Try.prog.cellsOf 44 = 4 := by kernel_rfl
theorem stableTwo_c9 : Try.prog.cellsOf 9 = 1 := by kernel_rfl
theorem stableTwo_c22 : Try.prog.cellsOf 22 = 1 := by kernel_rfl
theorem stableTwo_s9 : Try.prog.underlying 9 = some .string := by kernel_rfl
theorem stableTwo_b22 : Try.prog.underlying 22 = some (.slice 5) := by kernel_rfl
theorem stableTwo_b5 : Try.prog.underlying 5 = some (.int .u8) := by kernel_rfl
theorem stableTwo_c5 : Try.prog.cellsOf 5 = 1 := by kernel_rfl
theorem byte_wf {x : Int} (h : (Lit.int .u8 x).wf = true) : 0 ≤ x ∧ x < 256 := by
  have h1 := bounds_u8 h
  omega
theorem stableTwo_struct : ∃ fs, Try.prog.underlying 44 = some (.struct fs) := by
  have h := stableTwo_T
  unfold fieldTab at h
  split at h
  · rename_i fs hu; exact ⟨fs, hu⟩
  · cases h
set_option maxRecDepth 100000 in
theorem stableTwo_lifted (os : Os) (started : os.Started) (H : Type) (enc : TypeId × Value → H) :
    ReturnsInHanded {} Try.checked os 5 .any (Rows.stableTwoSpec.pre6 enc Try.prog Try.f5 Rows.stableTwoRow.domain false) (Rows.stableTwoSpec.post enc Try.prog Try.f5 false true false false) := by
  refine returnsInHanded_of_change (C := Try.checked) stableTwo_own started (by kernel_rfl) Try.func5
    (ChangeSpec.witness6 (enc := enc) (C := Try.checked) false ⟨#[], #[.agg #[.string ⟨#[]⟩, .string ⟨#[]⟩, .slice none 0 0, .slice none 0 0]], []⟩ 8 (by kernel_rfl) (by kernel_rfl) (by kernel_rfl) (by kernel_rfl)) ?_
  intro W base args ds gs before hval0 hW _ _
  have hval : ∀ (j : Nat) t v, Try.f5.params[j]? = some t → args[j]? = some v → Value.okWide Try.prog W .any base t v := hval0
  have hW' := hW
  obtain ⟨p, q, hA0, hV0, rfl, hfz, hnd⟩ := hW
  have hA : DataW.TrodAll enc Try.prog W 0 (fun _ => true) true Try.f5.params.toList args.toList ds p := hA0
  have hV : DataW.TrodVars enc Try.prog W (fun _ => true) [] gs q := hV0
  rw [stableTwo_params] at hA hval
  obtain ⟨v0, d0, rfl, rfl, h0⟩ := trodAll_one hA
  obtain ⟨rfl, rfl⟩ := trodVars_none hV
  obtain ⟨fs, hfs⟩ := stableTwo_struct
  obtain ⟨cs, rfl, _⟩ := okWide_struct hfs (hval 0 44 v0 rfl rfl)
  have h0k := h0
  obtain ⟨fuel, hf⟩ := h0
  clear hA0 hval0
  simp only [List.append_nil] at hW'
  have hlt : ∀ x ∈ p, x.block < W.heap.size := fun x hx => by simpa using hW'.lt x (by simp [hx])
  obtain ⟨hl_, hf_⟩ := trod_tab stableTwo_T hf
  rw [stableTwo_c44] at hl_
  obtain ⟨a, b, A, B, c, d, x, y, hcs, hrx, hry, hbx, hby, hcx, hcy⟩ : ∃ (a b : ByteArray) (A B : Option Addr) (c d : Nat) (x y : List Int), cs = #[.string a, .string b, .slice A x.length c, .slice B y.length d] ∧ Rd W 1 (Go.Tw.encI .u8) A x ∧ Rd W 1 (Go.Tw.encI .u8) B y ∧ byteL x ∧ byteL y ∧ x.length ≤ maxLen ∧ y.length ≤ maxLen := by
    match h5 : cs.toList, (show cs.toList.length = 4 from by simpa [Value.cells] using hl_) with
    | [c0, c1, c2, c3], _ =>
      obtain ⟨n0, y0, h0⟩ := hf_ (9, 0) (by simp)
      obtain ⟨n1, y1, h1⟩ := hf_ (9, 1) (by simp)
      obtain ⟨n2, y2, h2⟩ := hf_ (22, 2) (by simp)
      obtain ⟨n3, y3, h3⟩ := hf_ (22, 3) (by simp)
      simp only [Value.cells, h5, stableTwo_c9, stableTwo_c22, List.drop_zero, List.drop_succ_cons, List.take_succ_cons, List.take_zero] at h0 h1 h2 h3
      obtain ⟨a, e0, _⟩ := DataW.trod_string stableTwo_s9 h0
      obtain ⟨b, e1, _⟩ := DataW.trod_string stableTwo_s9 h1
      obtain ⟨A, x, c, e2, hrx, hwx, hx1, hx2⟩ := opn_slice stableTwo_b22 stableTwo_c5 (by decide) (Go.Tw.encI_len _) (opn_int stableTwo_b5) h2
      obtain ⟨B, y, d, e3, hry, hwy, hy1, hy2⟩ := opn_slice stableTwo_b22 stableTwo_c5 (by decide) (Go.Tw.encI_len _) (opn_int stableTwo_b5) h3
      simp only [List.cons.injEq, and_true] at e0 e1 e2 e3
      subst e0 e1 e2 e3
      exact ⟨a, b, A, B, c, d, x, y, Array.ext' h5, hrx, hry, fun z hz => byte_wf (hwx z hz), fun z hz => byte_wf (hwy z hz), by omega, by omega⟩
  subst hcs
  simp only [maxLen] at hcx hcy

  refine (StableTwo_ct a b A B c d x y W hrx hry hbx hby (by omega) (by omega)).mono fun e W' ⟨he, hg⟩ => ?_
  subst he
  have e1 : Rows.stableTwoSpec.fn H ([d0] ++ []) = { results := [.lit (.bool true)], args := [d0] } := rfl
  refine ⟨_, rfl, _, _, _, [], p, [], by simpa using hW', ?_, ?_, ?_, hg.below.frame _, fun h => by cases h⟩
  · rw [e1]; exact trodAll_mk1 (shut_bool stableTwo_und4 true)
  · rw [e1]; exact trodAll_mk1 (Below.trod stableTwo_laidOut (by kernel_rfl) (of_decide_eq_true (by kernel_rfl)) h0k hg.below hlt)
  · rw [e1]; rfl
theorem stableTwo_holds : Rows.StableTwoSaid :=
  OpenClaim.holds_of_wide 5 Try.f5 rfl rfl rfl rfl rfl rfl rfl ⟨rfl, rfl, rfl, rfl, rfl⟩ rfl rfl rfl rfl rfl (by kernel_rfl) Try.func5 (by kernel_rfl)
    (of_decide_eq_true (by kernel_rfl)) (by unfold Func.isWrapper; first | (rw [if_pos (by decide +kernel)]; kernel_rfl) | (rw [if_neg (of_decide_eq_false (by kernel_rfl))]; exact ⟨rfl, rfl⟩))
    (fun os started H enc _ => stableTwo_lifted os started H enc)
#print axioms stableTwo_holds
end Go.Proofs.Ytelmklombehhkaa
