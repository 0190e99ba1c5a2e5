/- towpathlaw09.RingKeys returns true for every input, and changes no argument: the given statement. Conditions: those of the given row alone. -/
import Derived.Test.YtibkndhgeeoidaaRows
import Derived.Test.YtibkndhgeeoidaaChecked
import Derived.Test.YtibkndhgeeoidaaRgT
import Derived.Test.YtibkndhgeeoidaaTwOpen
import Derived.Carry
import Derived.ChangeSame
import Derived.ChangeVars
import Derived.JoinedOf
import Derived.RowKit
import Derived.RowKitTokens
import Derived.OpenShut
import Derived.ChangeMaps5
namespace Go.Proofs.Ytibkndhgeeoidaa
set_option linter.unusedSimpArgs false
set_option linter.unusedVariables false
set_option linter.unusedSectionVars false
open Go Go.ChangeShapes Go.WideShapes Go.RowKit Go.Tw
set_option maxRecDepth 100000
theorem ringKeys_own : ownKnob Try.prog.godebug = none := by kernel_rfl
theorem ringKeys_laidOut : laidOutB Try.prog = true := by kernel_rfl
theorem ringKeys_params : Try.f5.params = #[34] := by kernel_rfl
theorem ringKeys_und4 : Try.prog.underlying 4 = some .bool := by kernel_rfl
theorem ringKeys_T : fieldTab Try.prog 34 = some [(3, 0), (31, 1), (32, 2), (3, 3)] := by kernel_rfl
theorem ringKeys_cX : Try.prog.cellsOf 34 = 6 - 2 := by kernel_rfl
theorem ringKeys_c3 : Try.prog.cellsOf 3 = 1 := by kernel_rfl
theorem ringKeys_c31 : Try.prog.cellsOf 31 = 1 := by kernel_rfl
theorem ringKeys_c32 : Try.prog.cellsOf 32 = 1 := by kernel_rfl
theorem ringKeys_b3 : Try.prog.underlying 3 = some (.int .i64) := by kernel_rfl
theorem ringKeys_b32 : Try.prog.underlying 32 = some (.int .u64) := by kernel_rfl
theorem ringKeys_b31 : Try.prog.underlying 31 = some (.slice 3) := by kernel_rfl
theorem ringKeys_x {H : Type} {henc : TypeId × Value → H} {w : World} {base : Nat} {spare : Nat → Bool} {held : Bool} {fuel : Nat} {cs : List Value} {x : DataW H × List MemPlace} (h : DataW.trod henc Try.prog w base spare held fuel 34 cs = some x) : ∃ (per : Int) (A : Option Addr) (M : List Int) (c : Nat) (key n : Int), cs = [.int .i64 per, .slice A M.length c, .int .u64 key, .int .i64 n] ∧ Rd w 1 (Go.Tw.encI .i64) A M ∧ M.length ≤ c ∧ c ≤ maxLen ∧ isI64 n ∧ (0 ≤ key ∧ key ≤ 18446744073709551615) := by
  obtain ⟨hl, hf⟩ := trod_tab ringKeys_T h
  rw [ringKeys_cX] at hl
  match cs, hl with
  | [c0, c1, c2, c3], _ =>
    obtain ⟨n0, y0, g0⟩ := hf (3, 0) (by simp)
    obtain ⟨n1, y1, g1⟩ := hf (31, 1) (by simp)
    obtain ⟨n2, y2, g2⟩ := hf (32, 2) (by simp)
    obtain ⟨n3, y3, g3⟩ := hf (3, 3) (by simp)
    simp only [ringKeys_c3, ringKeys_c31, ringKeys_c32, List.drop_zero, List.drop_succ_cons, List.take_succ_cons, List.take_zero] at g0 g1 g2 g3
    obtain ⟨per, e0, _⟩ := DataW.trod_int ringKeys_b3 g0
    obtain ⟨A, M, c, e1, hr, _, hlc, hcm⟩ := opn_slice ringKeys_b31 ringKeys_c3 (by decide) (Go.Tw.encI_len _) (opn_int ringKeys_b3) g1
    obtain ⟨key, e2, _, w2⟩ := DataW.trod_int ringKeys_b32 g2
    obtain ⟨n, e3, _, w3⟩ := DataW.trod_int ringKeys_b3 g3
    simp only [List.cons.injEq, and_true] at e0 e1 e2 e3
    subst e0 e1 e2 e3
    exact ⟨per, A, M, c, key, n, rfl, hr, hlc, hcm, bounds_i64 w3, bounds_u64 w2⟩
theorem ringKeys_struct : ∃ fs, Try.prog.underlying 34 = some (.struct fs) := by
  have h := ringKeys_T
  unfold fieldTab at h
  split at h
  · rename_i fs hu; exact ⟨fs, hu⟩
  · cases h
set_option maxRecDepth 100000 in
theorem ringKeys_lifted (os : Os) (started : os.Started) (H : Type) (enc : TypeId × Value → H) :
    ReturnsInHanded {} Try.checked os 5 .any (Rows.ringKeysSpec.pre6 enc Try.prog Try.f5 Rows.ringKeysRow.domain false) (Rows.ringKeysSpec.post enc Try.prog Try.f5 false true false false) := by
  refine returnsInHanded_of_change (C := Try.checked) ringKeys_own started (by kernel_rfl) Try.func5
    (ChangeSpec.witness6 (enc := enc) (C := Try.checked) false ⟨#[], #[.agg #[.int .i64 0, .slice none 0 0, .int .u64 0, .int .i64 0]], []⟩ 8 (by kernel_rfl) (by kernel_rfl) (by kernel_rfl) (by kernel_rfl)) ?_
  intro W base args ds gs before hval0 hW _ _
  have hval : ∀ (j : Nat) t v, Try.f5.params[j]? = some t → args[j]? = some v → Value.okWide Try.prog W .any base t v := hval0
  have hW' := hW
  obtain ⟨p, q, hA0, hV0, rfl, hfz, hnd⟩ := hW
  have hA : DataW.TrodAll enc Try.prog W 0 (fun _ => true) true Try.f5.params.toList args.toList ds p := hA0
  have hV : DataW.TrodVars enc Try.prog W (fun _ => true) [] gs q := hV0
  rw [ringKeys_params] at hA hval
  obtain ⟨v0, d0, rfl, rfl, h0⟩ := trodAll_one hA
  obtain ⟨rfl, rfl⟩ := trodVars_none hV
  obtain ⟨fs, hfs⟩ := ringKeys_struct
  obtain ⟨cs, rfl, _⟩ := okWide_struct hfs (hval 0 34 v0 rfl rfl)
  have h0k := h0
  obtain ⟨fuel, hf⟩ := h0
  clear hA0 hval0
  simp only [List.append_nil] at hW'
  have hlt : ∀ x ∈ p, x.block < W.heap.size := fun x hx => by simpa using hW'.lt x (by simp [hx])
  obtain ⟨per, A, M, C, key, n, hcs, hr, hlc, hcm, hn, hk0, hk1⟩ := ringKeys_x hf
  obtain rfl : cs = #[.int .i64 per, .slice A M.length C, .int .u64 key, .int .i64 n] := Array.ext' (by simpa [Value.cells] using hcs)

  refine (RingKeys_ct per A C M key n W hr hk0 hk1 (by simp only [maxLen] at hcm; omega)).mono fun e W' ⟨he, hg⟩ => ?_
  subst he
  have e1 : Rows.ringKeysSpec.fn H ([d0] ++ []) = { results := [.lit (.bool true)], args := [d0] } := rfl
  refine ⟨_, rfl, _, _, _, [], p, [], by simpa using hW', ?_, ?_, ?_, hg.below.frame _, fun h => by cases h⟩
  · rw [e1]; exact trodAll_mk1 (shut_bool ringKeys_und4 true)
  · rw [e1]; exact trodAll_mk1 (Below.trod ringKeys_laidOut (by kernel_rfl) (of_decide_eq_true (by kernel_rfl)) h0k hg.below hlt)
  · rw [e1]; rfl
theorem ringKeys_holds : Rows.RingKeysSaid :=
  OpenClaim.holds_of_wide 5 Try.f5 rfl rfl rfl rfl rfl rfl rfl ⟨rfl, rfl, rfl, rfl, rfl⟩ rfl rfl rfl rfl rfl (by kernel_rfl) Try.func5 (by kernel_rfl)
    (of_decide_eq_true (by kernel_rfl)) (by unfold Func.isWrapper; first | (rw [if_pos (by decide +kernel)]; kernel_rfl) | (rw [if_neg (of_decide_eq_false (by kernel_rfl))]; exact ⟨rfl, rfl⟩))
    (fun os started H enc _ => ringKeys_lifted os started H enc)
#print axioms ringKeys_holds
end Go.Proofs.Ytibkndhgeeoidaa
