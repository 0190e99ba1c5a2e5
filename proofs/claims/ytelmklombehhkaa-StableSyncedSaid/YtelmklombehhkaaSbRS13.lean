/- towpathlaw13.StableSynced returns true for every input, and changes no argument: the given statement. Conditions: those of the given row alone. -/
import Derived.Test.YtelmklombehhkaaRows
import Derived.Test.YtelmklombehhkaaChecked
import Derived.Test.YtelmklombehhkaaSbM13
import Derived.Test.YtelmklombehhkaaTwOpen
import Derived.Carry
import Derived.ChangeSame
import Derived.ChangeVars
import Derived.JoinedOf
import Derived.RowKit
import Derived.RowKitTokens
import Derived.OpenShut
import Derived.ChangeMaps5
namespace Go.Proofs.Ytelmklombehhkaa
set_option linter.unusedSimpArgs false
set_option linter.unusedVariables false
set_option linter.unusedSectionVars false
open Go Go.ChangeShapes Go.WideShapes Go.RowKit Go.Tw
set_option maxRecDepth 100000
theorem stableSynced_own : ownKnob Try.prog.godebug = none := by kernel_rfl
theorem stableSynced_laidOut : laidOutB Try.prog = true := by kernel_rfl
theorem stableSynced_params : Try.f7.params = #[47, 47, 3] := by kernel_rfl
theorem stableSynced_und4 : Try.prog.underlying 4 = some .bool := by kernel_rfl
theorem stableSynced_u3 : Try.prog.underlying 3 = some (.int .i64) := by kernel_rfl
theorem stableSynced_b22 : Try.prog.underlying 22 = some (.slice 5) := by kernel_rfl
theorem stableSynced_b5 : Try.prog.underlying 5 = some (.int .u8) := by kernel_rfl
theorem stableSynced_c5 : Try.prog.cellsOf 5 = 1 := by kernel_rfl
theorem byte_wf {x : Int} (h : (Lit.int .u8 x).wf = true) : 0 ≤ x ∧ x < 256 := by
  have h1 := bounds_u8 h
  omega
theorem st_T : fieldTab Try.prog 54 = some [(3, 0), (9, 1), (40, 2), (22, 3), (3, 4)] := by kernel_rfl
theorem st_c54 : Try.prog.cellsOf 54 = 5 := by kernel_rfl
theorem st_c3 : Try.prog.cellsOf 3 = 1 := by kernel_rfl
theorem st_c9 : Try.prog.cellsOf 9 = 1 := by kernel_rfl
theorem st_c22 : Try.prog.cellsOf 22 = 1 := by kernel_rfl
theorem st_c40 : Try.prog.cellsOf 40 = 1 := by kernel_rfl
theorem st_s9 : Try.prog.underlying 9 = some .string := by kernel_rfl
theorem st_u3 : Try.prog.underlying 3 = some (.int .i64) := by kernel_rfl
theorem st_b40 : Try.prog.underlying 40 = some (.slice 9) := by kernel_rfl
theorem st_b47 : Try.prog.underlying 47 = some (.slice 54) := by kernel_rfl
theorem opn_stop {H : Type} {henc : TypeId × Value → H} {w : World} {base : Nat} {spare : Nat → Bool} {held : Bool} : Opn henc Try.prog w base spare held 54 cellO (opAt w) := by
  refine ⟨fun fuel cs x h => ?_⟩
  obtain ⟨hl, hf⟩ := trod_tab st_T h
  rw [st_c54] at hl
  match cs, hl with
  | [c0, c1, c2, c3, c4], _ =>
    obtain ⟨n0, y0, h0⟩ := hf (3, 0) (by simp)
    obtain ⟨n1, y1, h1⟩ := hf (9, 1) (by simp)
    obtain ⟨n2, y2, h2⟩ := hf (40, 2) (by simp)
    obtain ⟨n3, y3, h3⟩ := hf (22, 3) (by simp)
    obtain ⟨n4, y4, h4⟩ := hf (3, 4) (by simp)
    simp only [st_c3, st_c9, st_c22, st_c40, List.drop_zero, List.drop_succ_cons, List.take_succ_cons, List.take_zero] at h0 h1 h2 h3 h4
    obtain ⟨v0, e0, _, w0⟩ := DataW.trod_int st_u3 h0
    obtain ⟨v1, e1, _, w1⟩ := DataW.trod_string st_s9 h1
    obtain ⟨A2, x2, c2', e2, hr2, hw2, hx2, hm2⟩ := opn_slice st_b40 st_c9 (by decide) Go.Tw.encS_len (opn_string st_s9) h2
    obtain ⟨A3, x3, c3', e3, hr3, hw3, hx3, hm3⟩ := opn_slice stableSynced_b22 stableSynced_c5 (by decide) (Go.Tw.encI_len _) (opn_int stableSynced_b5) h3
    obtain ⟨v4, e4, _, w4⟩ := DataW.trod_int st_u3 h4
    simp only [List.cons.injEq, and_true] at e0 e1 e2 e3 e4
    subst e0 e1 e2 e3 e4
    simp only [maxLen] at hm2 hm3 w1
    have hw3' : byteL x3 := fun z hz => byte_wf (hw3 z hz)
    exact ⟨⟨v0, v1, ⟨A2, x2.length, c2', x2⟩, ⟨A3, x3.length, c3', x3⟩, v4⟩, rfl, ⟨⟨hr3, rfl, hw3'⟩, hr2, rfl, by dsimp only; omega, by dsimp only; omega, by dsimp only; omega, bounds_i64 w4, bounds_i64 w0⟩⟩
set_option maxRecDepth 100000 in
theorem stableSynced_lifted (os : Os) (started : os.Started) (H : Type) (enc : TypeId × Value → H) :
    ReturnsInHanded {} Try.checked os 7 .any (Rows.stableSyncedSpec.pre6 enc Try.prog Try.f7 Rows.stableSyncedRow.domain false) (Rows.stableSyncedSpec.post enc Try.prog Try.f7 false true false false) := by
  refine returnsInHanded_of_change (C := Try.checked) stableSynced_own started (by kernel_rfl) Try.func7
    (ChangeSpec.witness6 (enc := enc) (C := Try.checked) false ⟨#[], #[.slice none 0 0, .slice none 0 0, .int .i64 0], []⟩ 8 (by kernel_rfl) (by kernel_rfl) (by kernel_rfl) (by kernel_rfl)) ?_
  intro W base args ds gs before hval0 hW _ _
  have hval : ∀ (j : Nat) t v, Try.f7.params[j]? = some t → args[j]? = some v → Value.okWide Try.prog W .any base t v := hval0
  have hW' := hW
  obtain ⟨p, q, hA0, hV0, rfl, hfz, hnd⟩ := hW
  have hA : DataW.TrodAll enc Try.prog W 0 (fun _ => true) true Try.f7.params.toList args.toList ds p := hA0
  have hV : DataW.TrodVars enc Try.prog W (fun _ => true) [] gs q := hV0
  rw [stableSynced_params] at hA hval
  obtain ⟨v0, vs0, d0, ds0, p0, q0, hargs, rfl, rfl, h0, r0⟩ := trodAll_cons hA
  obtain ⟨v1, vs1, d1, ds1, p1, q1, rfl, rfl, rfl, h1, r1⟩ := trodAll_cons r0
  obtain ⟨v2, vs2, d2, ds2, p2, q2, rfl, rfl, rfl, h2, r2⟩ := trodAll_cons r1
  obtain ⟨rfl, rfl, rfl⟩ := trodAll_nil r2
  obtain rfl : args = #[v0, v1, v2] := Array.ext' (by simpa using hargs)
  obtain ⟨rfl, rfl⟩ := trodVars_none hV
  have h0k := h0
  have h1k := h1
  obtain ⟨size, rfl, rfl, rfl, w2⟩ := open_int stableSynced_u3 (hval 2 3 v2 rfl rfl) h2
  clear hA0 hval0
  have hlt0 : ∀ x ∈ p0, x.block < W.heap.size := fun x hx => hW'.lt x (by simp [hx])
  have hlt1 : ∀ x ∈ p1, x.block < W.heap.size := fun x hx => hW'.lt x (by simp [hx])
  obtain ⟨a0_, l0_, c0_, rfl⟩ := okWide_slice st_b47 (hval 0 47 v0 rfl rfl)
  obtain ⟨fuel0, hf0⟩ := h0
  obtain ⟨A0, ops1, C0, hcs0, hr0, hok0, hlc0, hcm0⟩ := opn_slice st_b47 st_c54 (by decide) cellO_len opn_stop hf0
  simp only [Value.cells, List.cons.injEq, Value.slice.injEq, and_true] at hcs0
  obtain ⟨rfl, rfl, rfl⟩ := hcs0
  simp only [maxLen] at hcm0
  obtain ⟨a1_, l1_, c1_, rfl⟩ := okWide_slice st_b47 (hval 1 47 v1 rfl rfl)
  obtain ⟨fuel1, hf1⟩ := h1
  obtain ⟨A1, ops2, C1, hcs1, hr1, hok1, hlc1, hcm1⟩ := opn_slice st_b47 st_c54 (by decide) cellO_len opn_stop hf1
  simp only [Value.cells, List.cons.injEq, Value.slice.injEq, and_true] at hcs1
  obtain ⟨rfl, rfl, rfl⟩ := hcs1
  simp only [maxLen] at hcm1
  refine (StableSynced_ct a0_ a1_ c0_ c1_ ops1 ops2 size W hr0 hr1 hok0 hok1 (by omega) (by omega)).mono fun e W' ⟨he, hg⟩ => ?_
  subst he
  have e1 : Rows.stableSyncedSpec.fn H ([d0, d1, .lit (.int .i64 size)] ++ []) = { results := [.lit (.bool true)], args := [d0, d1, .lit (.int .i64 size)] } := rfl
  refine ⟨_, rfl, _, _, _, [], (p0 ++ (p1 ++ ([]))), [], by simpa using hW', ?_, ?_, ?_, hg.below.frame _, fun h => by cases h⟩
  · rw [e1]; exact trodAll_mk1 (shut_bool stableSynced_und4 true)
  · rw [e1]; exact trodAll_mk3 (Below.trod stableSynced_laidOut (by kernel_rfl) (of_decide_eq_true (by kernel_rfl)) h0k hg.below hlt0) (Below.trod stableSynced_laidOut (by kernel_rfl) (of_decide_eq_true (by kernel_rfl)) h1k hg.below hlt1) (shut_int stableSynced_u3 w2)
  · rw [e1]; rfl
theorem stableSynced_holds : Rows.StableSyncedSaid :=
  OpenClaim.holds_of_wide 7 Try.f7 rfl rfl rfl rfl rfl rfl rfl ⟨rfl, rfl, rfl, rfl, rfl⟩ rfl rfl rfl rfl rfl (by kernel_rfl) Try.func7 (by kernel_rfl)
    (of_decide_eq_true (by kernel_rfl)) (by unfold Func.isWrapper; first | (rw [if_pos (by decide +kernel)]; kernel_rfl) | (rw [if_neg (of_decide_eq_false (by kernel_rfl))]; exact ⟨rfl, rfl⟩))
    (fun os started H enc _ => stableSynced_lifted os started H enc)
#print axioms stableSynced_holds
end Go.Proofs.Ytelmklombehhkaa
