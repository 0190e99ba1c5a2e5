/- towpathlaw18.SessionApart returns true for every input, and changes no argument: the given statement. Conditions: those of the given row alone. -/
import Derived.Test.YtmahghppojbeoaaRows
import Derived.Test.YtmahghppojbeoaaChecked
import Derived.Test.YtmahghppojbeoaaSeI
import Derived.Test.YtmahghppojbeoaaTwOpen
import Derived.Carry
import Derived.ChangeSame
import Derived.ChangeVars
import Derived.JoinedOf
import Derived.RowKit
import Derived.RowKitTokens
import Derived.OpenShut
import Derived.ChangeMaps5
namespace Go.Proofs.Ytmahghppojbeoaa
set_option linter.unusedSimpArgs false
set_option linter.unusedVariables false
set_option linter.unusedSectionVars false
open Go Go.ChangeShapes Go.WideShapes Go.RowKit Go.Tw
set_option maxRecDepth 100000
theorem sessionApart_own : ownKnob Try.prog.godebug = none := by kernel_rfl
theorem sessionApart_laidOut : laidOutB Try.prog = true := by kernel_rfl
theorem sessionApart_params : Try.f7.params = #[22, 44] := by kernel_rfl
theorem sessionApart_und4 : Try.prog.underlying 4 = some .bool := by kernel_rfl
theorem sessionApart_u44 : Try.prog.underlying 44 = some (.int .u32) := by kernel_rfl
theorem sessionApart_T : fieldTab Try.prog 42 = some [(3, 0), (33, 1), (3, 2), (40, 3), (3, 6)] := by kernel_rfl
theorem sessionApart_c42 : Try.prog.cellsOf 42 = 7 := by kernel_rfl
theorem sessionApart_TM : fieldTab Try.prog 40 = some [(3, 0), (37, 1), (38, 2)] := by kernel_rfl
theorem sessionApart_c40 : Try.prog.cellsOf 40 = 3 := by kernel_rfl
theorem sessionApart_c3 : Try.prog.cellsOf 3 = 1 := by kernel_rfl
theorem sessionApart_c33 : Try.prog.cellsOf 33 = 1 := by kernel_rfl
theorem sessionApart_c37 : Try.prog.cellsOf 37 = 1 := by kernel_rfl
theorem sessionApart_c38 : Try.prog.cellsOf 38 = 1 := by kernel_rfl
theorem sessionApart_c44 : Try.prog.cellsOf 44 = 1 := by kernel_rfl
theorem sessionApart_c5 : Try.prog.cellsOf 5 = 1 := by kernel_rfl
theorem sessionApart_b3 : Try.prog.underlying 3 = some (.int .i64) := by kernel_rfl
theorem sessionApart_b44 : Try.prog.underlying 44 = some (.int .u32) := by kernel_rfl
theorem sessionApart_b5 : Try.prog.underlying 5 = some (.int .u8) := by kernel_rfl
theorem sessionApart_b33 : Try.prog.underlying 33 = some (.slice 44) := by kernel_rfl
theorem sessionApart_b37 : Try.prog.underlying 37 = some (.slice 3) := by kernel_rfl
theorem sessionApart_b38 : Try.prog.underlying 38 = some (.slice 5) := by kernel_rfl
theorem sessionApart_msg {H : Type} {henc : TypeId × Value → H} {w : World} {base : Nat} {spare : Nat → Bool} {held : Bool} {fuel : Nat} {cs : List Value} {x : DataW H × List MemPlace} (h : DataW.trod henc Try.prog w base spare held fuel 40 cs = some x) : ∃ (k : Int) (An : Option Addr) (nums : List Int) (cn : Nat) (Ad : Option Addr) (data : List Int) (cd : Nat), cs = [.int .i64 k, .slice An nums.length cn, .slice Ad data.length cd] ∧ Rd w 1 (Go.Tw.encI .i64) An nums ∧ nums.length ≤ cn ∧ cn ≤ maxLen ∧ Rd w 1 (Go.Tw.encI .u8) Ad data ∧ data.length ≤ cd ∧ cd ≤ maxLen := by
  obtain ⟨hl, hf⟩ := trod_tab sessionApart_TM h
  rw [sessionApart_c40] at hl
  match cs, hl with
  | [c0, c1, c2], _ =>
    obtain ⟨n0, y0, g0⟩ := hf (3, 0) (by simp)
    obtain ⟨n1, y1, g1⟩ := hf (37, 1) (by simp)
    obtain ⟨n2, y2, g2⟩ := hf (38, 2) (by simp)
    simp only [sessionApart_c3, sessionApart_c37, sessionApart_c38, List.drop_zero, List.drop_succ_cons, List.take_succ_cons, List.take_zero] at g0 g1 g2
    obtain ⟨k, e0, _⟩ := DataW.trod_int sessionApart_b3 g0
    obtain ⟨An, nums, cn, e1, hr, _, hlc, hcm⟩ := opn_slice sessionApart_b37 sessionApart_c3 (by decide) (Go.Tw.encI_len _) (opn_int sessionApart_b3) g1
    obtain ⟨Ad, data, cd, e2, hr2, _, hlc2, hcm2⟩ := opn_slice sessionApart_b38 sessionApart_c5 (by decide) (Go.Tw.encI_len _) (opn_int sessionApart_b5) g2
    simp only [List.cons.injEq, and_true] at e0 e1 e2
    subst e0 e1 e2
    exact ⟨k, An, nums, cn, Ad, data, cd, rfl, hr, hlc, hcm, hr2, hlc2, hcm2⟩
theorem sessionApart_b22 : Try.prog.underlying 22 = some (.slice 42) := by kernel_rfl
theorem sessionApart_opo {H : Type} {henc : TypeId × Value → H} {w : World} {base : Nat} {spare : Nat → Bool} {held : Bool} : Opn henc Try.prog w base spare held 42 cellS (fun o => sopAt w o) := by
  refine ⟨fun fuel cs x h => ?_⟩
  obtain ⟨hl, hf⟩ := trod_tab sessionApart_T h
  rw [sessionApart_c42] at hl
  match cs, hl with
  | [c0, c1, c2, c3, c4, c5, c6], _ =>
    obtain ⟨n0, y0, g0⟩ := hf (3, 0) (by simp)
    obtain ⟨n1, y1, g1⟩ := hf (33, 1) (by simp)
    obtain ⟨n2, y2, g2⟩ := hf (3, 2) (by simp)
    obtain ⟨n3, y3, g3⟩ := hf (40, 3) (by simp)
    obtain ⟨n4, y4, g4⟩ := hf (3, 6) (by simp)
    simp only [sessionApart_c3, sessionApart_c33, sessionApart_c40, List.drop_zero, List.drop_succ_cons, List.take_succ_cons, List.take_zero] at g0 g1 g2 g3 g4
    obtain ⟨kind, e0, _⟩ := DataW.trod_int sessionApart_b3 g0
    obtain ⟨Av, vips, cv, e1, _, _, hvc, hvm⟩ := opn_slice sessionApart_b33 sessionApart_c44 (by decide) (Go.Tw.encI_len _) (opn_int sessionApart_b44) g1
    obtain ⟨from_, e2, _, hfw⟩ := DataW.trod_int sessionApart_b3 g2
    obtain ⟨mk, An, nums, cn, Ad, data, cd, e3, hnr, hnl, hnm, _⟩ := sessionApart_msg g3
    obtain ⟨now, e4, _⟩ := DataW.trod_int sessionApart_b3 g4
    simp only [List.cons.injEq, and_true] at e0 e1 e2 e3 e4
    obtain ⟨rfl, rfl, rfl⟩ := e3
    subst e0 e1 e2 e4
    exact ⟨⟨kind, Av, _, cv, from_, mk, An, nums, cn, Ad, _, cd, now⟩, rfl, hnr, hnl, hnm, by have q_ := hfw; simp [Lit.wf, IntKind.min, IntKind.max, IntKind.signed, IntKind.bits] at q_; exact q_, Nat.le_trans hvc hvm⟩
set_option maxRecDepth 100000 in
theorem sessionApart_lifted (os : Os) (started : os.Started) (H : Type) (enc : TypeId × Value → H) :
    ReturnsInHanded {} Try.checked os 7 .any (Rows.sessionApartSpec.pre6 enc Try.prog Try.f7 Rows.sessionApartRow.domain false) (Rows.sessionApartSpec.post enc Try.prog Try.f7 false true false false) := by
  refine returnsInHanded_of_change (C := Try.checked) sessionApart_own started (by kernel_rfl) Try.func7
    (ChangeSpec.witness6 (enc := enc) (C := Try.checked) false ⟨#[], #[.slice none 0 0, .int .u32 0], []⟩ 8 (by kernel_rfl) (by kernel_rfl) (by kernel_rfl) (by kernel_rfl)) ?_
  intro W base args ds gs before hval0 hW _ _
  have hval : ∀ (j : Nat) t v, Try.f7.params[j]? = some t → args[j]? = some v → Value.okWide Try.prog W .any base t v := hval0
  have hW' := hW
  obtain ⟨p, q, hA0, hV0, rfl, hfz, hnd⟩ := hW
  have hA : DataW.TrodAll enc Try.prog W 0 (fun _ => true) true Try.f7.params.toList args.toList ds p := hA0
  have hV : DataW.TrodVars enc Try.prog W (fun _ => true) [] gs q := hV0
  rw [sessionApart_params] at hA hval
  obtain ⟨v0, vs0, d0, ds0, p0, q0, hargs, rfl, rfl, h0, r0⟩ := trodAll_cons hA
  obtain ⟨v1, vs1, d1, ds1, p1, q1, rfl, rfl, rfl, h1, r1⟩ := trodAll_cons r0
  obtain ⟨rfl, rfl, rfl⟩ := trodAll_nil r1
  obtain rfl : args = #[v0, v1] := Array.ext' (by simpa using hargs)
  obtain ⟨rfl, rfl⟩ := trodVars_none hV
  have h0k := h0
  obtain ⟨vip, rfl, rfl, rfl, w1⟩ := open_int sessionApart_u44 (hval 1 44 v1 rfl rfl) h1
  clear hA0 hval0
  have hlt0 : ∀ x ∈ p0, x.block < W.heap.size := fun x hx => hW'.lt x (by simp [hx])
  obtain ⟨a0_, l0_, c0_, rfl⟩ := okWide_slice sessionApart_b22 (hval 0 22 v0 rfl rfl)
  obtain ⟨fuel0, hf0⟩ := h0
  obtain ⟨A0, ops, C0, hcs0, hr0, hok0, hlc0, hcm0⟩ := opn_slice sessionApart_b22 sessionApart_c42 (by decide) cellS_len sessionApart_opo hf0
  simp only [Value.cells, List.cons.injEq, Value.slice.injEq, and_true] at hcs0
  obtain ⟨rfl, rfl, rfl⟩ := hcs0
  simp only [maxLen] at hcm0
  refine (SessionApart_ct a0_ c0_ ops vip W hr0 hok0 (by omega)).mono fun e W' ⟨he, hg⟩ => ?_
  subst he
  have e1 : Rows.sessionApartSpec.fn H ([d0, .lit (.int .u32 vip)] ++ []) = { results := [.lit (.bool true)], args := [d0, .lit (.int .u32 vip)] } := rfl
  refine ⟨_, rfl, _, _, _, [], (p0 ++ ([])), [], by simpa using hW', ?_, ?_, ?_, hg.below.frame _, fun h => by cases h⟩
  · rw [e1]; exact trodAll_mk1 (shut_bool sessionApart_und4 true)
  · rw [e1]; exact trodAll_mk2 (Below.trod sessionApart_laidOut (by kernel_rfl) (of_decide_eq_true (by kernel_rfl)) h0k hg.below hlt0) (shut_int sessionApart_u44 w1)
  · rw [e1]; rfl
theorem sessionApart_holds : Rows.SessionApartSaid :=
  OpenClaim.holds_of_wide 7 Try.f7 rfl rfl rfl rfl rfl rfl rfl ⟨rfl, rfl, rfl, rfl, rfl⟩ rfl rfl rfl rfl rfl (by kernel_rfl) Try.func7 (by kernel_rfl)
    (of_decide_eq_true (by kernel_rfl)) (by unfold Func.isWrapper; first | (rw [if_pos (by decide +kernel)]; kernel_rfl) | (rw [if_neg (of_decide_eq_false (by kernel_rfl))]; exact ⟨rfl, rfl⟩))
    (fun os started H enc _ => sessionApart_lifted os started H enc)
#print axioms sessionApart_holds
end Go.Proofs.Ytmahghppojbeoaa
