/- towpathlaw18.SessionNone returns true for every input, and changes no argument: the given statement. Conditions: those of the given row alone. -/
import Derived.Test.YtmahghppojbeoaaRows
import Derived.Test.YtmahghppojbeoaaChecked
import Derived.Test.YtmahghppojbeoaaSeG
import Derived.Test.YtmahghppojbeoaaTwOpen
import Derived.Carry
import Derived.ChangeSame
import Derived.ChangeVars
import Derived.JoinedOf
import Derived.RowKit
import Derived.RowKitTokens
import Derived.OpenShut
import Derived.ChangeMaps5
namespace Go.Proofs.Ytmahghppojbeoaa
set_option linter.unusedSimpArgs false
set_option linter.unusedVariables false
set_option linter.unusedSectionVars false
open Go Go.ChangeShapes Go.WideShapes Go.RowKit Go.Tw
set_option maxRecDepth 100000
theorem sessionNone_own : ownKnob Try.prog.godebug = none := by kernel_rfl
theorem sessionNone_laidOut : laidOutB Try.prog = true := by kernel_rfl
theorem sessionNone_params : Try.f6.params = #[42] := by kernel_rfl
theorem sessionNone_und4 : Try.prog.underlying 4 = some .bool := by kernel_rfl
theorem sessionNone_T : fieldTab Try.prog 42 = some [(3, 0), (33, 1), (3, 2), (40, 3), (3, 6)] := by kernel_rfl
theorem sessionNone_c42 : Try.prog.cellsOf 42 = 7 := by kernel_rfl
theorem sessionNone_TM : fieldTab Try.prog 40 = some [(3, 0), (37, 1), (38, 2)] := by kernel_rfl
theorem sessionNone_c40 : Try.prog.cellsOf 40 = 3 := by kernel_rfl
theorem sessionNone_c3 : Try.prog.cellsOf 3 = 1 := by kernel_rfl
theorem sessionNone_c33 : Try.prog.cellsOf 33 = 1 := by kernel_rfl
theorem sessionNone_c37 : Try.prog.cellsOf 37 = 1 := by kernel_rfl
theorem sessionNone_c38 : Try.prog.cellsOf 38 = 1 := by kernel_rfl
theorem sessionNone_c44 : Try.prog.cellsOf 44 = 1 := by kernel_rfl
theorem sessionNone_c5 : Try.prog.cellsOf 5 = 1 := by kernel_rfl
theorem sessionNone_b3 : Try.prog.underlying 3 = some (.int .i64) := by kernel_rfl
theorem sessionNone_b44 : Try.prog.underlying 44 = some (.int .u32) := by kernel_rfl
theorem sessionNone_b5 : Try.prog.underlying 5 = some (.int .u8) := by kernel_rfl
theorem sessionNone_b33 : Try.prog.underlying 33 = some (.slice 44) := by kernel_rfl
theorem sessionNone_b37 : Try.prog.underlying 37 = some (.slice 3) := by kernel_rfl
theorem sessionNone_b38 : Try.prog.underlying 38 = some (.slice 5) := by kernel_rfl
theorem sessionNone_msg {H : Type} {henc : TypeId × Value → H} {w : World} {base : Nat} {spare : Nat → Bool} {held : Bool} {fuel : Nat} {cs : List Value} {x : DataW H × List MemPlace} (h : DataW.trod henc Try.prog w base spare held fuel 40 cs = some x) : ∃ (k : Int) (An : Option Addr) (nums : List Int) (cn : Nat) (Ad : Option Addr) (data : List Int) (cd : Nat), cs = [.int .i64 k, .slice An nums.length cn, .slice Ad data.length cd] ∧ Rd w 1 (Go.Tw.encI .i64) An nums ∧ nums.length ≤ cn ∧ cn ≤ maxLen ∧ Rd w 1 (Go.Tw.encI .u8) Ad data ∧ data.length ≤ cd ∧ cd ≤ maxLen := by
  obtain ⟨hl, hf⟩ := trod_tab sessionNone_TM h
  rw [sessionNone_c40] at hl
  match cs, hl with
  | [c0, c1, c2], _ =>
    obtain ⟨n0, y0, g0⟩ := hf (3, 0) (by simp)
    obtain ⟨n1, y1, g1⟩ := hf (37, 1) (by simp)
    obtain ⟨n2, y2, g2⟩ := hf (38, 2) (by simp)
    simp only [sessionNone_c3, sessionNone_c37, sessionNone_c38, List.drop_zero, List.drop_succ_cons, List.take_succ_cons, List.take_zero] at g0 g1 g2
    obtain ⟨k, e0, _⟩ := DataW.trod_int sessionNone_b3 g0
    obtain ⟨An, nums, cn, e1, hr, _, hlc, hcm⟩ := opn_slice sessionNone_b37 sessionNone_c3 (by decide) (Go.Tw.encI_len _) (opn_int sessionNone_b3) g1
    obtain ⟨Ad, data, cd, e2, hr2, _, hlc2, hcm2⟩ := opn_slice sessionNone_b38 sessionNone_c5 (by decide) (Go.Tw.encI_len _) (opn_int sessionNone_b5) g2
    simp only [List.cons.injEq, and_true] at e0 e1 e2
    subst e0 e1 e2
    exact ⟨k, An, nums, cn, Ad, data, cd, rfl, hr, hlc, hcm, hr2, hlc2, hcm2⟩
theorem sessionNone_struct : ∃ fs, Try.prog.underlying 42 = some (.struct fs) := by
  have h := sessionNone_T
  unfold fieldTab at h
  split at h
  · rename_i fs hu; exact ⟨fs, hu⟩
  · cases h
set_option maxRecDepth 100000 in
theorem sessionNone_lifted (os : Os) (started : os.Started) (H : Type) (enc : TypeId × Value → H) :
    ReturnsInHanded {} Try.checked os 6 .any (Rows.sessionNoneSpec.pre6 enc Try.prog Try.f6 Rows.sessionNoneRow.domain false) (Rows.sessionNoneSpec.post enc Try.prog Try.f6 false true false false) := by
  refine returnsInHanded_of_change (C := Try.checked) sessionNone_own started (by kernel_rfl) Try.func6
    (ChangeSpec.witness6 (enc := enc) (C := Try.checked) false ⟨#[], #[.agg #[.int .i64 0, .slice none 0 0, .int .i64 0, .int .i64 0, .slice none 0 0, .slice none 0 0, .int .i64 0]], []⟩ 8 (by kernel_rfl) (by kernel_rfl) (by kernel_rfl) (by kernel_rfl)) ?_
  intro W base args ds gs before hval0 hW _ _
  have hval : ∀ (j : Nat) t v, Try.f6.params[j]? = some t → args[j]? = some v → Value.okWide Try.prog W .any base t v := hval0
  have hW' := hW
  obtain ⟨p, q, hA0, hV0, rfl, hfz, hnd⟩ := hW
  have hA : DataW.TrodAll enc Try.prog W 0 (fun _ => true) true Try.f6.params.toList args.toList ds p := hA0
  have hV : DataW.TrodVars enc Try.prog W (fun _ => true) [] gs q := hV0
  rw [sessionNone_params] at hA hval
  obtain ⟨v0, d0, rfl, rfl, h0⟩ := trodAll_one hA
  obtain ⟨rfl, rfl⟩ := trodVars_none hV
  obtain ⟨fs, hfs⟩ := sessionNone_struct
  obtain ⟨cs, rfl, _⟩ := okWide_struct hfs (hval 0 42 v0 rfl rfl)
  have h0k := h0
  obtain ⟨fuel, hf⟩ := h0
  clear hA0 hval0
  simp only [List.append_nil] at hW'
  have hlt : ∀ x ∈ p, x.block < W.heap.size := fun x hx => by simpa using hW'.lt x (by simp [hx])
  obtain ⟨hl_, hf_⟩ := trod_tab sessionNone_T hf
  rw [sessionNone_c42] at hl_
  obtain ⟨kind, from_, mk, now, Av, An, Ad, nv, cv, nn, cn, nd, cd, hcs⟩ : ∃ (kind from_ mk now : Int) (Av An Ad : Option Addr) (nv cv nn cn nd cd : Nat), cs = #[.int .i64 kind, .slice Av nv cv, .int .i64 from_, .int .i64 mk, .slice An nn cn, .slice Ad nd cd, .int .i64 now] := by
    match h5 : cs.toList, (show cs.toList.length = 7 from by simpa [Value.cells] using hl_) with
    | [c0, c1, c2, c3, c4, c5, c6], _ =>
      obtain ⟨n0, y0, g0⟩ := hf_ (3, 0) (by simp)
      obtain ⟨n1, y1, g1⟩ := hf_ (33, 1) (by simp)
      obtain ⟨n2, y2, g2⟩ := hf_ (3, 2) (by simp)
      obtain ⟨n3, y3, g3⟩ := hf_ (40, 3) (by simp)
      obtain ⟨n4, y4, g4⟩ := hf_ (3, 6) (by simp)
      simp only [Value.cells, h5, sessionNone_c3, sessionNone_c33, sessionNone_c40, List.drop_zero, List.drop_succ_cons, List.take_succ_cons, List.take_zero] at g0 g1 g2 g3 g4
      obtain ⟨kind, e0, _⟩ := DataW.trod_int sessionNone_b3 g0
      obtain ⟨Av, vips, cv, e1, _⟩ := opn_slice sessionNone_b33 sessionNone_c44 (by decide) (Go.Tw.encI_len _) (opn_int sessionNone_b44) g1
      obtain ⟨from_, e2, _⟩ := DataW.trod_int sessionNone_b3 g2
      obtain ⟨mk, An, nums, cn, Ad, data, cd, e3, _⟩ := sessionNone_msg g3
      obtain ⟨now, e4, _⟩ := DataW.trod_int sessionNone_b3 g4
      simp only [List.cons.injEq, and_true] at e0 e1 e2 e3 e4
      obtain ⟨rfl, rfl, rfl⟩ := e3
      subst e0 e1 e2 e4
      exact ⟨kind, from_, mk, now, Av, An, Ad, _, cv, _, cn, _, cd, Array.ext' h5⟩
  subst hcs

  refine (SessionNone_ct kind from_ mk now Av An Ad nv cv nn cn nd cd W).mono fun e W' ⟨he, hg⟩ => ?_
  subst he
  have e1 : Rows.sessionNoneSpec.fn H ([d0] ++ []) = { results := [.lit (.bool true)], args := [d0] } := rfl
  refine ⟨_, rfl, _, _, _, [], p, [], by simpa using hW', ?_, ?_, ?_, hg.below.frame _, fun h => by cases h⟩
  · rw [e1]; exact trodAll_mk1 (shut_bool sessionNone_und4 true)
  · rw [e1]; exact trodAll_mk1 (Below.trod sessionNone_laidOut (by kernel_rfl) (of_decide_eq_true (by kernel_rfl)) h0k hg.below hlt)
  · rw [e1]; rfl
theorem sessionNone_holds : Rows.SessionNoneSaid :=
  OpenClaim.holds_of_wide 6 Try.f6 rfl rfl rfl rfl rfl rfl rfl ⟨rfl, rfl, rfl, rfl, rfl⟩ rfl rfl rfl rfl rfl (by kernel_rfl) Try.func6 (by kernel_rfl)
    (of_decide_eq_true (by kernel_rfl)) (by unfold Func.isWrapper; first | (rw [if_pos (by decide +kernel)]; kernel_rfl) | (rw [if_neg (of_decide_eq_false (by kernel_rfl))]; exact ⟨rfl, rfl⟩))
    (fun os started H enc _ => sessionNone_lifted os started H enc)
#print axioms sessionNone_holds
end Go.Proofs.Ytmahghppojbeoaa
