/- towpathlaw09.RingChanges returns true for every input, and changes no argument: the given statement. Conditions: those of the given row alone. -/
import Derived.Test.YtibkndhgeeoidaaRows
import Derived.Test.YtibkndhgeeoidaaChecked
import Derived.Test.YtibkndhgeeoidaaRgU
import Derived.Test.YtibkndhgeeoidaaTwOpen
import Derived.Carry
import Derived.ChangeSame
import Derived.ChangeVars
import Derived.JoinedOf
import Derived.RowKit
import Derived.RowKitTokens
import Derived.OpenShut
import Derived.ChangeMaps5
namespace Go.Proofs.Ytibkndhgeeoidaa
set_option linter.unusedSimpArgs false
set_option linter.unusedVariables false
set_option linter.unusedSectionVars false
open Go Go.ChangeShapes Go.WideShapes Go.RowKit Go.Tw
set_option maxRecDepth 100000
theorem ringChanges_own : ownKnob Try.prog.godebug = none := by kernel_rfl
theorem ringChanges_laidOut : laidOutB Try.prog = true := by kernel_rfl
theorem ringChanges_params : Try.f8.params = #[34, 31, 31] := by kernel_rfl
theorem ringChanges_und4 : Try.prog.underlying 4 = some .bool := by kernel_rfl

theorem ringChanges_TX : fieldTab Try.prog 34 = some [(3, 0), (31, 1), (32, 2), (3, 3)] := by kernel_rfl
theorem ringChanges_cX : Try.prog.cellsOf 34 = 6 - 2 := by kernel_rfl
theorem ringChanges_c3 : Try.prog.cellsOf 3 = 1 := by kernel_rfl
theorem ringChanges_c31 : Try.prog.cellsOf 31 = 1 := by kernel_rfl
theorem ringChanges_c32 : Try.prog.cellsOf 32 = 1 := by kernel_rfl
theorem ringChanges_b3 : Try.prog.underlying 3 = some (.int .i64) := by kernel_rfl
theorem ringChanges_b32 : Try.prog.underlying 32 = some (.int .u64) := by kernel_rfl
theorem ringChanges_b31 : Try.prog.underlying 31 = some (.slice 3) := by kernel_rfl
theorem ringChanges_x {H : Type} {henc : TypeId × Value → H} {w : World} {base : Nat} {spare : Nat → Bool} {held : Bool} {fuel : Nat} {cs : List Value} {x : DataW H × List MemPlace} (h : DataW.trod henc Try.prog w base spare held fuel 34 cs = some x) : ∃ (per : Int) (A : Option Addr) (M : List Int) (c : Nat) (key n : Int), cs = [.int .i64 per, .slice A M.length c, .int .u64 key, .int .i64 n] ∧ Rd w 1 (Go.Tw.encI .i64) A M ∧ M.length ≤ c ∧ c ≤ maxLen ∧ isI64 n := by
  obtain ⟨hl, hf⟩ := trod_tab ringChanges_TX h
  rw [ringChanges_cX] at hl
  match cs, hl with
  | [c0, c1, c2, c3], _ =>
    obtain ⟨n0, y0, g0⟩ := hf (3, 0) (by simp)
    obtain ⟨n1, y1, g1⟩ := hf (31, 1) (by simp)
    obtain ⟨n2, y2, g2⟩ := hf (32, 2) (by simp)
    obtain ⟨n3, y3, g3⟩ := hf (3, 3) (by simp)
    simp only [ringChanges_c3, ringChanges_c31, ringChanges_c32, List.drop_zero, List.drop_succ_cons, List.take_succ_cons, List.take_zero] at g0 g1 g2 g3
    obtain ⟨per, e0, _⟩ := DataW.trod_int ringChanges_b3 g0
    obtain ⟨A, M, c, e1, hr, _, hlc, hcm⟩ := opn_slice ringChanges_b31 ringChanges_c3 (by decide) (Go.Tw.encI_len _) (opn_int ringChanges_b3) g1
    obtain ⟨key, e2, _⟩ := DataW.trod_int ringChanges_b32 g2
    obtain ⟨n, e3, _, w3⟩ := DataW.trod_int ringChanges_b3 g3
    simp only [List.cons.injEq, and_true] at e0 e1 e2 e3
    subst e0 e1 e2 e3
    exact ⟨per, A, M, c, key, n, rfl, hr, hlc, hcm, bounds_i64 w3⟩
theorem ringChanges_struct : ∃ fs, Try.prog.underlying 34 = some (.struct fs) := by
  have h := ringChanges_TX
  unfold fieldTab at h
  split at h
  · rename_i fs hu; exact ⟨fs, hu⟩
  · cases h
set_option maxRecDepth 100000 in
theorem ringChanges_lifted (os : Os) (started : os.Started) (H : Type) (enc : TypeId × Value → H) :
    ReturnsInHanded {} Try.checked os 8 .any (Rows.ringChangesSpec.pre6 enc Try.prog Try.f8 Rows.ringChangesRow.domain false) (Rows.ringChangesSpec.post enc Try.prog Try.f8 false true false false) := by
  refine returnsInHanded_of_change (C := Try.checked) ringChanges_own started (by kernel_rfl) Try.func8
    (ChangeSpec.witness6 (enc := enc) (C := Try.checked) false ⟨#[], #[.agg #[.int .i64 0, .slice none 0 0, .int .u64 0, .int .i64 0], .slice none 0 0, .slice none 0 0], []⟩ 8 (by kernel_rfl) (by kernel_rfl) (by kernel_rfl) (by kernel_rfl)) ?_
  intro W base args ds gs before hval0 hW _ _
  have hval : ∀ (j : Nat) t v, Try.f8.params[j]? = some t → args[j]? = some v → Value.okWide Try.prog W .any base t v := hval0
  have hW' := hW
  obtain ⟨p, q, hA0, hV0, rfl, hfz, hnd⟩ := hW
  have hA : DataW.TrodAll enc Try.prog W 0 (fun _ => true) true Try.f8.params.toList args.toList ds p := hA0
  have hV : DataW.TrodVars enc Try.prog W (fun _ => true) [] gs q := hV0
  rw [ringChanges_params] at hA hval
  obtain ⟨v0, vs0, d0, ds0, p0, q0, hargs, rfl, rfl, h0, r0⟩ := trodAll_cons hA
  obtain ⟨v1, vs1, d1, ds1, p1, q1, rfl, rfl, rfl, h1, r1⟩ := trodAll_cons r0
  obtain ⟨v2, vs2, d2, ds2, p2, q2, rfl, rfl, rfl, h2, r2⟩ := trodAll_cons r1
  obtain ⟨rfl, rfl, rfl⟩ := trodAll_nil r2
  obtain rfl : args = #[v0, v1, v2] := Array.ext' (by simpa using hargs)
  obtain ⟨rfl, rfl⟩ := trodVars_none hV
  have h0k := h0
  have h1k := h1
  have h2k := h2
  clear hA0 hval0
  have hlt0 : ∀ x ∈ p0, x.block < W.heap.size := fun x hx => hW'.lt x (by simp [hx])
  have hlt1 : ∀ x ∈ p1, x.block < W.heap.size := fun x hx => hW'.lt x (by simp [hx])
  have hlt2 : ∀ x ∈ p2, x.block < W.heap.size := fun x hx => hW'.lt x (by simp [hx])
  obtain ⟨fs0, hfs0⟩ := ringChanges_struct
  obtain ⟨cs0, rfl, _⟩ := okWide_struct hfs0 (hval 0 34 v0 rfl rfl)
  obtain ⟨fuel0, hf0⟩ := h0
  obtain ⟨per, A, M, C, key, n, hcs0, hr, hlc, hcm, hn⟩ := ringChanges_x hf0
  obtain rfl : cs0 = #[.int .i64 per, .slice A M.length C, .int .u64 key, .int .i64 n] := Array.ext' (by simpa [Value.cells] using hcs0)
  obtain ⟨a1_, l1_, c1_, rfl⟩ := okWide_slice ringChanges_b31 (hval 1 31 v1 rfl rfl)
  obtain ⟨fuel1, hf1⟩ := h1
  obtain ⟨A1, X, C1, hcs1, hr1, hwf1, hlc1, hcm1⟩ := opn_slice ringChanges_b31 ringChanges_c3 (by decide) (Go.Tw.encI_len _) (opn_int ringChanges_b3) hf1
  simp only [Value.cells, List.cons.injEq, Value.slice.injEq, and_true] at hcs1
  obtain ⟨rfl, rfl, rfl⟩ := hcs1
  obtain ⟨a2_, l2_, c2_, rfl⟩ := okWide_slice ringChanges_b31 (hval 2 31 v2 rfl rfl)
  obtain ⟨fuel2, hf2⟩ := h2
  obtain ⟨A2, K, C2, hcs2, hr2, hwf2, hlc2, hcm2⟩ := opn_slice ringChanges_b31 ringChanges_c3 (by decide) (Go.Tw.encI_len _) (opn_int ringChanges_b3) hf2
  simp only [Value.cells, List.cons.injEq, Value.slice.injEq, and_true] at hcs2
  obtain ⟨rfl, rfl, rfl⟩ := hcs2
  refine (RingChanges_ct per A C M key n a1_ c1_ X a2_ c2_ K W hr hr1 hr2 (by simp only [maxLen] at hcm; omega)).mono fun e W' ⟨he, hg⟩ => ?_
  subst he
  have e1 : Rows.ringChangesSpec.fn H ([d0, d1, d2] ++ []) = { results := [.lit (.bool true)], args := [d0, d1, d2] } := rfl
  refine ⟨_, rfl, _, _, _, [], (p0 ++ (p1 ++ (p2))), [], by simpa using hW', ?_, ?_, ?_, hg.below.frame _, fun h => by cases h⟩
  · rw [e1]; exact trodAll_mk1 (shut_bool ringChanges_und4 true)
  · rw [e1]; exact trodAll_mk3 (Below.trod ringChanges_laidOut (by kernel_rfl) (of_decide_eq_true (by kernel_rfl)) h0k hg.below hlt0) (Below.trod ringChanges_laidOut (by kernel_rfl) (of_decide_eq_true (by kernel_rfl)) h1k hg.below hlt1) (Below.trod ringChanges_laidOut (by kernel_rfl) (of_decide_eq_true (by kernel_rfl)) h2k hg.below hlt2)
  · rw [e1]; rfl
theorem ringChanges_holds : Rows.RingChangesSaid :=
  OpenClaim.holds_of_wide 8 Try.f8 rfl rfl rfl rfl rfl rfl rfl ⟨rfl, rfl, rfl, rfl, rfl⟩ rfl rfl rfl rfl rfl (by kernel_rfl) Try.func8 (by kernel_rfl)
    (of_decide_eq_true (by kernel_rfl)) (by unfold Func.isWrapper; first | (rw [if_pos (by decide +kernel)]; kernel_rfl) | (rw [if_neg (of_decide_eq_false (by kernel_rfl))]; exact ⟨rfl, rfl⟩))
    (fun os started H enc _ => ringChanges_lifted os started H enc)
#print axioms ringChanges_holds
end Go.Proofs.Ytibkndhgeeoidaa
