/- towpathlaw18.SessionOpens returns true for every input, and changes no argument: the given statement. Conditions: those of the given row alone. -/
import Derived.Test.YtmahghppojbeoaaRows
import Derived.Test.YtmahghppojbeoaaChecked
import Derived.Test.YtmahghppojbeoaaSeAF
import Derived.Test.YtmahghppojbeoaaTwOpen
import Derived.Carry
import Derived.ChangeSame
import Derived.ChangeVars
import Derived.JoinedOf
import Derived.RowKit
import Derived.RowKitTokens
import Derived.OpenShut
import Derived.ChangeMaps5
namespace Go.Proofs.Ytmahghppojbeoaa
set_option linter.unusedSimpArgs false
set_option linter.unusedVariables false
set_option linter.unusedSectionVars false
open Go Go.ChangeShapes Go.WideShapes Go.RowKit Go.Tw
set_option maxRecDepth 100000
theorem sessionOpens_own : ownKnob Try.prog.godebug = none := by kernel_rfl
theorem sessionOpens_laidOut : laidOutB Try.prog = true := by kernel_rfl
theorem sessionOpens_params : Try.f4.params = #[3, 52, 3] := by kernel_rfl
theorem sessionOpens_und4 : Try.prog.underlying 4 = some .bool := by kernel_rfl
theorem sessionOpens_u3 : Try.prog.underlying 3 = some (.int .i64) := by kernel_rfl
theorem sessionOpens_c44 : Try.prog.cellsOf 44 = 1 := by kernel_rfl
theorem sessionOpens_c33 : Try.prog.cellsOf 33 = 1 := by kernel_rfl
theorem sessionOpens_b44 : Try.prog.underlying 44 = some (.int .u32) := by kernel_rfl
theorem sessionOpens_b33 : Try.prog.underlying 33 = some (.slice 44) := by kernel_rfl
theorem sessionOpens_b52 : Try.prog.underlying 52 = some (.slice 33) := by kernel_rfl
theorem sessionOpens_opa {H : Type} {henc : TypeId × Value → H} {w : World} {base : Nat} {spare : Nat → Bool} {held : Bool} : Opn henc Try.prog w base spare held 33 cellsAn (fun x => anAt w x) := by
  refine ⟨fun fuel cs x h => ?_⟩
  obtain ⟨A, xs, c, e, hr, hok, hlc, hcm⟩ := opn_slice sessionOpens_b33 sessionOpens_c44 (by decide) (Go.Tw.encI_len _) (opn_int sessionOpens_b44) h
  exact ⟨⟨A, xs, c⟩, e, ⟨hr, hlc, hcm, fun x_ h_ => by have q_ := hok x_ h_; simpa [Lit.wf, IntKind.min, IntKind.max, IntKind.signed, IntKind.bits] using q_⟩⟩
set_option maxRecDepth 100000 in
theorem sessionOpens_lifted (os : Os) (started : os.Started) (H : Type) (enc : TypeId × Value → H) :
    ReturnsInHanded {} Try.checked os 4 .any (Rows.sessionOpensSpec.pre6 enc Try.prog Try.f4 Rows.sessionOpensRow.domain false) (Rows.sessionOpensSpec.post enc Try.prog Try.f4 false true false false) := by
  refine returnsInHanded_of_change (C := Try.checked) sessionOpens_own started (by kernel_rfl) Try.func4
    (ChangeSpec.witness6 (enc := enc) (C := Try.checked) false ⟨#[], #[.int .i64 0, .slice none 0 0, .int .i64 0], []⟩ 8 (by kernel_rfl) (by kernel_rfl) (by kernel_rfl) (by kernel_rfl)) ?_
  intro W base args ds gs before hval0 hW _ _
  have hval : ∀ (j : Nat) t v, Try.f4.params[j]? = some t → args[j]? = some v → Value.okWide Try.prog W .any base t v := hval0
  have hW' := hW
  obtain ⟨p, q, hA0, hV0, rfl, hfz, hnd⟩ := hW
  have hA : DataW.TrodAll enc Try.prog W 0 (fun _ => true) true Try.f4.params.toList args.toList ds p := hA0
  have hV : DataW.TrodVars enc Try.prog W (fun _ => true) [] gs q := hV0
  rw [sessionOpens_params] at hA hval
  obtain ⟨v0, vs0, d0, ds0, p0, q0, hargs, rfl, rfl, h0, r0⟩ := trodAll_cons hA
  obtain ⟨v1, vs1, d1, ds1, p1, q1, rfl, rfl, rfl, h1, r1⟩ := trodAll_cons r0
  obtain ⟨v2, vs2, d2, ds2, p2, q2, rfl, rfl, rfl, h2, r2⟩ := trodAll_cons r1
  obtain ⟨rfl, rfl, rfl⟩ := trodAll_nil r2
  obtain rfl : args = #[v0, v1, v2] := Array.ext' (by simpa using hargs)
  obtain ⟨rfl, rfl⟩ := trodVars_none hV
  obtain ⟨n, rfl, rfl, rfl, w0⟩ := open_int sessionOpens_u3 (hval 0 3 v0 rfl rfl) h0
  have h1k := h1
  obtain ⟨ticks, rfl, rfl, rfl, w2⟩ := open_int sessionOpens_u3 (hval 2 3 v2 rfl rfl) h2
  clear hA0 hval0
  have hlt1 : ∀ x ∈ p1, x.block < W.heap.size := fun x hx => hW'.lt x (by simp [hx])
  obtain ⟨a1_, l1_, c1_, rfl⟩ := okWide_slice sessionOpens_b52 (hval 1 52 v1 rfl rfl)
  obtain ⟨fuel1, hf1⟩ := h1
  obtain ⟨A1, ans, C1, hcs1, hr1, hok1, hlc1, hcm1⟩ := opn_slice sessionOpens_b52 sessionOpens_c33 (by decide) cellsAn_len sessionOpens_opa hf1
  simp only [Value.cells, List.cons.injEq, Value.slice.injEq, and_true] at hcs1
  obtain ⟨rfl, rfl, rfl⟩ := hcs1
  simp only [maxLen] at hcm1
  refine (SessionOpens_ct n a1_ c1_ ans ticks W hr1 hok1 (by omega)).mono fun e W' ⟨he, hg⟩ => ?_
  subst he
  have e1 : Rows.sessionOpensSpec.fn H ([.lit (.int .i64 n), d1, .lit (.int .i64 ticks)] ++ []) = { results := [.lit (.bool true)], args := [.lit (.int .i64 n), d1, .lit (.int .i64 ticks)] } := rfl
  refine ⟨_, rfl, _, _, _, [], ([] ++ (p1 ++ ([]))), [], by simpa using hW', ?_, ?_, ?_, hg.below.frame _, fun h => by cases h⟩
  · rw [e1]; exact trodAll_mk1 (shut_bool sessionOpens_und4 true)
  · rw [e1]; exact trodAll_mk3 (shut_int sessionOpens_u3 w0) (Below.trod sessionOpens_laidOut (by kernel_rfl) (of_decide_eq_true (by kernel_rfl)) h1k hg.below hlt1) (shut_int sessionOpens_u3 w2)
  · rw [e1]; rfl
theorem sessionOpens_holds : Rows.SessionOpensSaid :=
  OpenClaim.holds_of_wide 4 Try.f4 rfl rfl rfl rfl rfl rfl rfl ⟨rfl, rfl, rfl, rfl, rfl⟩ rfl rfl rfl rfl rfl (by kernel_rfl) Try.func4 (by kernel_rfl)
    (of_decide_eq_true (by kernel_rfl)) (by unfold Func.isWrapper; first | (rw [if_pos (by decide +kernel)]; kernel_rfl) | (rw [if_neg (of_decide_eq_false (by kernel_rfl))]; exact ⟨rfl, rfl⟩))
    (fun os started H enc _ => sessionOpens_lifted os started H enc)
#print axioms sessionOpens_holds
end Go.Proofs.Ytmahghppojbeoaa
