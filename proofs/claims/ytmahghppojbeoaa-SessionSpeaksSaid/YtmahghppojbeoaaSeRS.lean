/- towpathlaw18.SessionSpeaks returns true for every input, and changes no argument: the given statement. Conditions: those of the given row alone. -/
import Derived.Test.YtmahghppojbeoaaRows
import Derived.Test.YtmahghppojbeoaaChecked
import Derived.Test.YtmahghppojbeoaaSeAD
import Derived.Test.YtmahghppojbeoaaTwOpen
import Derived.Carry
import Derived.ChangeSame
import Derived.ChangeVars
import Derived.JoinedOf
import Derived.RowKit
import Derived.RowKitTokens
import Derived.OpenShut
import Derived.ChangeMaps5
namespace Go.Proofs.Ytmahghppojbeoaa
set_option linter.unusedSimpArgs false
set_option linter.unusedVariables false
set_option linter.unusedSectionVars false
open Go Go.ChangeShapes Go.WideShapes Go.RowKit Go.Tw
set_option maxRecDepth 100000
theorem sessionSpeaks_own : ownKnob Try.prog.godebug = none := by kernel_rfl
theorem sessionSpeaks_laidOut : laidOutB Try.prog = true := by kernel_rfl
theorem sessionSpeaks_params : Try.f3.params = #[3, 3, 22] := by kernel_rfl
theorem sessionSpeaks_und4 : Try.prog.underlying 4 = some .bool := by kernel_rfl
theorem sessionSpeaks_u3 : Try.prog.underlying 3 = some (.int .i64) := by kernel_rfl
theorem sessionSpeaks_T : fieldTab Try.prog 42 = some [(3, 0), (33, 1), (3, 2), (40, 3), (3, 6)] := by kernel_rfl
theorem sessionSpeaks_c42 : Try.prog.cellsOf 42 = 7 := by kernel_rfl
theorem sessionSpeaks_TM : fieldTab Try.prog 40 = some [(3, 0), (37, 1), (38, 2)] := by kernel_rfl
theorem sessionSpeaks_c40 : Try.prog.cellsOf 40 = 3 := by kernel_rfl
theorem sessionSpeaks_c3 : Try.prog.cellsOf 3 = 1 := by kernel_rfl
theorem sessionSpeaks_c33 : Try.prog.cellsOf 33 = 1 := by kernel_rfl
theorem sessionSpeaks_c37 : Try.prog.cellsOf 37 = 1 := by kernel_rfl
theorem sessionSpeaks_c38 : Try.prog.cellsOf 38 = 1 := by kernel_rfl
theorem sessionSpeaks_c44 : Try.prog.cellsOf 44 = 1 := by kernel_rfl
theorem sessionSpeaks_c5 : Try.prog.cellsOf 5 = 1 := by kernel_rfl
theorem sessionSpeaks_b3 : Try.prog.underlying 3 = some (.int .i64) := by kernel_rfl
theorem sessionSpeaks_b44 : Try.prog.underlying 44 = some (.int .u32) := by kernel_rfl
theorem sessionSpeaks_b5 : Try.prog.underlying 5 = some (.int .u8) := by kernel_rfl
theorem sessionSpeaks_b33 : Try.prog.underlying 33 = some (.slice 44) := by kernel_rfl
theorem sessionSpeaks_b37 : Try.prog.underlying 37 = some (.slice 3) := by kernel_rfl
theorem sessionSpeaks_b38 : Try.prog.underlying 38 = some (.slice 5) := by kernel_rfl
theorem sessionSpeaks_msg {H : Type} {henc : TypeId × Value → H} {w : World} {base : Nat} {spare : Nat → Bool} {held : Bool} {fuel : Nat} {cs : List Value} {x : DataW H × List MemPlace} (h : DataW.trod henc Try.prog w base spare held fuel 40 cs = some x) : ∃ (k : Int) (An : Option Addr) (nums : List Int) (cn : Nat) (Ad : Option Addr) (data : List Int) (cd : Nat), cs = [.int .i64 k, .slice An nums.length cn, .slice Ad data.length cd] ∧ Rd w 1 (Go.Tw.encI .i64) An nums ∧ nums.length ≤ cn ∧ cn ≤ maxLen ∧ Rd w 1 (Go.Tw.encI .u8) Ad data ∧ data.length ≤ cd ∧ cd ≤ maxLen := by
  obtain ⟨hl, hf⟩ := trod_tab sessionSpeaks_TM h
  rw [sessionSpeaks_c40] at hl
  match cs, hl with
  | [c0, c1, c2], _ =>
    obtain ⟨n0, y0, g0⟩ := hf (3, 0) (by simp)
    obtain ⟨n1, y1, g1⟩ := hf (37, 1) (by simp)
    obtain ⟨n2, y2, g2⟩ := hf (38, 2) (by simp)
    simp only [sessionSpeaks_c3, sessionSpeaks_c37, sessionSpeaks_c38, List.drop_zero, List.drop_succ_cons, List.take_succ_cons, List.take_zero] at g0 g1 g2
    obtain ⟨k, e0, _⟩ := DataW.trod_int sessionSpeaks_b3 g0
    obtain ⟨An, nums, cn, e1, hr, _, hlc, hcm⟩ := opn_slice sessionSpeaks_b37 sessionSpeaks_c3 (by decide) (Go.Tw.encI_len _) (opn_int sessionSpeaks_b3) g1
    obtain ⟨Ad, data, cd, e2, hr2, _, hlc2, hcm2⟩ := opn_slice sessionSpeaks_b38 sessionSpeaks_c5 (by decide) (Go.Tw.encI_len _) (opn_int sessionSpeaks_b5) g2
    simp only [List.cons.injEq, and_true] at e0 e1 e2
    subst e0 e1 e2
    exact ⟨k, An, nums, cn, Ad, data, cd, rfl, hr, hlc, hcm, hr2, hlc2, hcm2⟩
theorem sessionSpeaks_b22 : Try.prog.underlying 22 = some (.slice 42) := by kernel_rfl
theorem sessionSpeaks_opo {H : Type} {henc : TypeId × Value → H} {w : World} {base : Nat} {spare : Nat → Bool} {held : Bool} : Opn henc Try.prog w base spare held 42 cellS (fun o => sopAt w o) := by
  refine ⟨fun fuel cs x h => ?_⟩
  obtain ⟨hl, hf⟩ := trod_tab sessionSpeaks_T h
  rw [sessionSpeaks_c42] at hl
  match cs, hl with
  | [c0, c1, c2, c3, c4, c5, c6], _ =>
    obtain ⟨n0, y0, g0⟩ := hf (3, 0) (by simp)
    obtain ⟨n1, y1, g1⟩ := hf (33, 1) (by simp)
    obtain ⟨n2, y2, g2⟩ := hf (3, 2) (by simp)
    obtain ⟨n3, y3, g3⟩ := hf (40, 3) (by simp)
    obtain ⟨n4, y4, g4⟩ := hf (3, 6) (by simp)
    simp only [sessionSpeaks_c3, sessionSpeaks_c33, sessionSpeaks_c40, List.drop_zero, List.drop_succ_cons, List.take_succ_cons, List.take_zero] at g0 g1 g2 g3 g4
    obtain ⟨kind, e0, _⟩ := DataW.trod_int sessionSpeaks_b3 g0
    obtain ⟨Av, vips, cv, e1, hvr, hv32, hvc, hvm⟩ := opn_slice sessionSpeaks_b33 sessionSpeaks_c44 (by decide) (Go.Tw.encI_len _) (opn_int sessionSpeaks_b44) g1
    obtain ⟨from_, e2, _, hfw⟩ := DataW.trod_int sessionSpeaks_b3 g2
    obtain ⟨mk, An, nums, cn, Ad, data, cd, e3, hnr, hnl, hnm, _⟩ := sessionSpeaks_msg g3
    obtain ⟨now, e4, _⟩ := DataW.trod_int sessionSpeaks_b3 g4
    simp only [List.cons.injEq, and_true] at e0 e1 e2 e3 e4
    obtain ⟨rfl, rfl, rfl⟩ := e3
    subst e0 e1 e2 e4
    exact ⟨⟨kind, Av, vips, cv, from_, mk, An, nums, cn, Ad, _, cd, now⟩, rfl, hnr, hnl, hnm, by have q_ := hfw; simp [Lit.wf, IntKind.min, IntKind.max, IntKind.signed, IntKind.bits] at q_; exact q_, Nat.le_trans hvc hvm, hvr, fun x_ h_ => by have q_ := hv32 x_ h_; simpa [Lit.wf, IntKind.min, IntKind.max, IntKind.signed, IntKind.bits] using q_⟩
set_option maxRecDepth 100000 in
theorem sessionSpeaks_lifted (os : Os) (started : os.Started) (H : Type) (enc : TypeId × Value → H) :
    ReturnsInHanded {} Try.checked os 3 .any (Rows.sessionSpeaksSpec.pre6 enc Try.prog Try.f3 Rows.sessionSpeaksRow.domain false) (Rows.sessionSpeaksSpec.post enc Try.prog Try.f3 false true false false) := by
  refine returnsInHanded_of_change (C := Try.checked) sessionSpeaks_own started (by kernel_rfl) Try.func3
    (ChangeSpec.witness6 (enc := enc) (C := Try.checked) false ⟨#[], #[.int .i64 0, .int .i64 0, .slice none 0 0], []⟩ 8 (by kernel_rfl) (by kernel_rfl) (by kernel_rfl) (by kernel_rfl)) ?_
  intro W base args ds gs before hval0 hW _ _
  have hval : ∀ (j : Nat) t v, Try.f3.params[j]? = some t → args[j]? = some v → Value.okWide Try.prog W .any base t v := hval0
  have hW' := hW
  obtain ⟨p, q, hA0, hV0, rfl, hfz, hnd⟩ := hW
  have hA : DataW.TrodAll enc Try.prog W 0 (fun _ => true) true Try.f3.params.toList args.toList ds p := hA0
  have hV : DataW.TrodVars enc Try.prog W (fun _ => true) [] gs q := hV0
  rw [sessionSpeaks_params] at hA hval
  obtain ⟨v0, vs0, d0, ds0, p0, q0, hargs, rfl, rfl, h0, r0⟩ := trodAll_cons hA
  obtain ⟨v1, vs1, d1, ds1, p1, q1, rfl, rfl, rfl, h1, r1⟩ := trodAll_cons r0
  obtain ⟨v2, vs2, d2, ds2, p2, q2, rfl, rfl, rfl, h2, r2⟩ := trodAll_cons r1
  obtain ⟨rfl, rfl, rfl⟩ := trodAll_nil r2
  obtain rfl : args = #[v0, v1, v2] := Array.ext' (by simpa using hargs)
  obtain ⟨rfl, rfl⟩ := trodVars_none hV
  obtain ⟨node, rfl, rfl, rfl, w0⟩ := open_int sessionSpeaks_u3 (hval 0 3 v0 rfl rfl) h0
  obtain ⟨boot, rfl, rfl, rfl, w1⟩ := open_int sessionSpeaks_u3 (hval 1 3 v1 rfl rfl) h1
  have h2k := h2
  clear hA0 hval0
  have hlt2 : ∀ x ∈ p2, x.block < W.heap.size := fun x hx => hW'.lt x (by simp [hx])
  obtain ⟨a2_, l2_, c2_, rfl⟩ := okWide_slice sessionSpeaks_b22 (hval 2 22 v2 rfl rfl)
  obtain ⟨fuel2, hf2⟩ := h2
  obtain ⟨A2, ops, C2, hcs2, hr2, hok2, hlc2, hcm2⟩ := opn_slice sessionSpeaks_b22 sessionSpeaks_c42 (by decide) cellS_len sessionSpeaks_opo hf2
  simp only [Value.cells, List.cons.injEq, Value.slice.injEq, and_true] at hcs2
  obtain ⟨rfl, rfl, rfl⟩ := hcs2
  simp only [maxLen] at hcm2
  refine (SessionSpeaks_ct node boot a2_ c2_ ops W (bounds_i64 w0) hr2 hok2 (by omega)).mono fun e W' ⟨he, hg⟩ => ?_
  subst he
  have e1 : Rows.sessionSpeaksSpec.fn H ([.lit (.int .i64 node), .lit (.int .i64 boot), d2] ++ []) = { results := [.lit (.bool true)], args := [.lit (.int .i64 node), .lit (.int .i64 boot), d2] } := rfl
  refine ⟨_, rfl, _, _, _, [], ([] ++ ([] ++ (p2))), [], by simpa using hW', ?_, ?_, ?_, hg.below.frame _, fun h => by cases h⟩
  · rw [e1]; exact trodAll_mk1 (shut_bool sessionSpeaks_und4 true)
  · rw [e1]; exact trodAll_mk3 (shut_int sessionSpeaks_u3 w0) (shut_int sessionSpeaks_u3 w1) (Below.trod sessionSpeaks_laidOut (by kernel_rfl) (of_decide_eq_true (by kernel_rfl)) h2k hg.below hlt2)
  · rw [e1]; rfl
theorem sessionSpeaks_holds : Rows.SessionSpeaksSaid :=
  OpenClaim.holds_of_wide 3 Try.f3 rfl rfl rfl rfl rfl rfl rfl ⟨rfl, rfl, rfl, rfl, rfl⟩ rfl rfl rfl rfl rfl (by kernel_rfl) Try.func3 (by kernel_rfl)
    (of_decide_eq_true (by kernel_rfl)) (by unfold Func.isWrapper; first | (rw [if_pos (by decide +kernel)]; kernel_rfl) | (rw [if_neg (of_decide_eq_false (by kernel_rfl))]; exact ⟨rfl, rfl⟩))
    (fun os started H enc _ => sessionSpeaks_lifted os started H enc)
#print axioms sessionSpeaks_holds
end Go.Proofs.Ytmahghppojbeoaa
