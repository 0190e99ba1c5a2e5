/- towpathlaw11.FlowIdles returns true for every input, and changes no argument: the given statement. Conditions: those of the given row alone. -/
import Derived.Test.YtimphmcoafapgaaRows
import Derived.Test.YtimphmcoafapgaaChecked
import Derived.Test.YtimphmcoafapgaaFlH11
import Derived.Test.YtimphmcoafapgaaTwOpen
import Derived.Carry
import Derived.ChangeSame
import Derived.ChangeVars
import Derived.JoinedOf
import Derived.RowKit
import Derived.RowKitTokens
import Derived.OpenShut
namespace Go.Proofs.Ytimphmcoafapgaa
set_option linter.unusedSimpArgs false
set_option linter.unusedVariables false
set_option linter.unusedSectionVars false
open Go Go.ChangeShapes Go.WideShapes Go.RowKit Go.Tw
set_option maxRecDepth 100000
theorem flowIdles_own : ownKnob Try.prog.godebug = none := by kernel_rfl
theorem flowIdles_laidOut : laidOutB Try.prog = true := by kernel_rfl
theorem flowIdles_params : Try.f4.params = #[32, 3, 3] := by kernel_rfl
theorem flowIdles_und4 : Try.prog.underlying 4 = some .bool := by kernel_rfl
theorem flowIdles_u3 : Try.prog.underlying 3 = some (.int .i64) := by kernel_rfl
theorem idl_u30 : Try.prog.underlying 30 = some (.int .u32) := by kernel_rfl
theorem idl_c3 : Try.prog.cellsOf 3 = 1 := by kernel_rfl
theorem idl_c30 : Try.prog.cellsOf 30 = 1 := by kernel_rfl
theorem idl_c32 : Try.prog.cellsOf 32 = 5 := by kernel_rfl
theorem flow_T2 : fieldTab Try.prog 32 = some [(3, 0), (30, 1), (3, 2), (30, 3), (3, 4)] := by kernel_rfl
theorem opn_flow2 {H : Type} {henc : TypeId × Value → H} {w : World} {base : Nat} {spare : Nat → Bool} {held : Bool} : Opn henc Try.prog w base spare held 32 cellsF (fun _ => True) := by
  refine ⟨fun fuel cs x h => ?_⟩
  obtain ⟨hl, hf⟩ := trod_tab flow_T2 h
  rw [idl_c32] at hl
  match cs, hl with
  | [a, b, c, d, e], _ =>
    obtain ⟨n0, y0, h0⟩ := hf (3, 0) (by simp)
    obtain ⟨n1, y1, h1⟩ := hf (30, 1) (by simp)
    obtain ⟨n2, y2, h2⟩ := hf (3, 2) (by simp)
    obtain ⟨n3, y3, h3⟩ := hf (30, 3) (by simp)
    obtain ⟨n4, y4, h4⟩ := hf (3, 4) (by simp)
    simp only [idl_c3, idl_c30, List.drop_zero, List.drop_succ_cons, List.take_succ_cons, List.take_zero] at h0 h1 h2 h3 h4
    obtain ⟨v0, e0, _, w0⟩ := DataW.trod_int flowIdles_u3 h0
    obtain ⟨v1, e1, _, w1⟩ := DataW.trod_int idl_u30 h1
    obtain ⟨v2, e2, _, w2⟩ := DataW.trod_int flowIdles_u3 h2
    obtain ⟨v3, e3, _, w3⟩ := DataW.trod_int idl_u30 h3
    obtain ⟨v4, e4, _, w4⟩ := DataW.trod_int flowIdles_u3 h4
    simp only [List.cons.injEq, and_true] at e0 e1 e2 e3 e4
    subst e0 e1 e2 e3 e4
    exact ⟨⟨v0, v1, v2, v3, v4⟩, rfl, trivial⟩
theorem flowIdles_struct : ∃ fs, Try.prog.underlying 32 = some (.struct fs) := by
  have h := flow_T2
  unfold fieldTab at h
  split at h
  · rename_i fs hu; exact ⟨fs, hu⟩
  · cases h
set_option maxRecDepth 100000 in
theorem flowIdles_lifted (os : Os) (started : os.Started) (H : Type) (enc : TypeId × Value → H) :
    ReturnsInHanded {} Try.checked os 4 .any (Rows.flowIdlesSpec.pre6 enc Try.prog Try.f4 Rows.flowIdlesRow.domain false) (Rows.flowIdlesSpec.post enc Try.prog Try.f4 false true false false) := by
  refine returnsInHanded_of_change (C := Try.checked) flowIdles_own started (by kernel_rfl) Try.func4
    (ChangeSpec.witness6 (enc := enc) (C := Try.checked) false ⟨#[], #[.agg #[.int .i64 0, .int .u32 0, .int .i64 0, .int .u32 0, .int .i64 0], .int .i64 0, .int .i64 0], []⟩ 8 (by kernel_rfl) (by kernel_rfl) (by kernel_rfl) (by kernel_rfl)) ?_
  intro W base args ds gs before hval0 hW _ _
  have hval : ∀ (j : Nat) t v, Try.f4.params[j]? = some t → args[j]? = some v → Value.okWide Try.prog W .any base t v := hval0
  have hW' := hW
  obtain ⟨p, q, hA0, hV0, rfl, hfz, hnd⟩ := hW
  have hA : DataW.TrodAll enc Try.prog W 0 (fun _ => true) true Try.f4.params.toList args.toList ds p := hA0
  have hV : DataW.TrodVars enc Try.prog W (fun _ => true) [] gs q := hV0
  rw [flowIdles_params] at hA hval
  obtain ⟨v0, vs0, d0, ds0, p0, q0, hargs, rfl, rfl, h0, r0⟩ := trodAll_cons hA
  obtain ⟨v1, vs1, d1, ds1, p1, q1, rfl, rfl, rfl, h1, r1⟩ := trodAll_cons r0
  obtain ⟨v2, vs2, d2, ds2, p2, q2, rfl, rfl, rfl, h2, r2⟩ := trodAll_cons r1
  obtain ⟨rfl, rfl, rfl⟩ := trodAll_nil r2
  obtain rfl : args = #[v0, v1, v2] := Array.ext' (by simpa using hargs)
  obtain ⟨rfl, rfl⟩ := trodVars_none hV
  have h0k := h0
  obtain ⟨flags, rfl, rfl, rfl, w1⟩ := open_int flowIdles_u3 (hval 1 3 v1 rfl rfl) h1
  obtain ⟨now, rfl, rfl, rfl, w2⟩ := open_int flowIdles_u3 (hval 2 3 v2 rfl rfl) h2
  clear hA0 hval0
  have hlt0 : ∀ x ∈ p0, x.block < W.heap.size := fun x hx => hW'.lt x (by simp [hx])
  obtain ⟨fs, hfs⟩ := flowIdles_struct
  obtain ⟨cs, rfl, _⟩ := okWide_struct hfs (hval 0 32 v0 rfl rfl)
  obtain ⟨fuel, hf⟩ := h0
  obtain ⟨f, hcs, _⟩ := opn_flow2.out _ _ _ hf
  have hcs' : cs = #[.int .i64 f.proto, .int .u32 f.src, .int .i64 f.sport, .int .u32 f.dst, .int .i64 f.dport] := Array.ext' (by simpa [Value.cells, cellsF] using hcs)
  subst hcs'
  refine (FlowIdles_ct f flags now W (bounds_i64 w2)).mono fun e W' ⟨he, hg⟩ => ?_
  subst he
  have e1 : Rows.flowIdlesSpec.fn H ([d0, .lit (.int .i64 flags), .lit (.int .i64 now)] ++ []) = { results := [.lit (.bool true)], args := [d0, .lit (.int .i64 flags), .lit (.int .i64 now)] } := rfl
  refine ⟨_, rfl, _, _, _, [], (p0 ++ ([] ++ ([]))), [], by simpa using hW', ?_, ?_, ?_, hg.below.frame _, fun h => by cases h⟩
  · rw [e1]; exact trodAll_mk1 (shut_bool flowIdles_und4 true)
  · rw [e1]; exact trodAll_mk3 (Below.trod flowIdles_laidOut (by kernel_rfl) (of_decide_eq_true (by kernel_rfl)) h0k hg.below hlt0) (shut_int flowIdles_u3 w1) (shut_int flowIdles_u3 w2)
  · rw [e1]; rfl
theorem flowIdles_holds : Rows.FlowIdlesSaid :=
  OpenClaim.holds_of_wide 4 Try.f4 rfl rfl rfl rfl rfl rfl rfl ⟨rfl, rfl, rfl, rfl, rfl⟩ rfl rfl rfl rfl rfl (by kernel_rfl) Try.func4 (by kernel_rfl)
    (of_decide_eq_true (by kernel_rfl)) (by unfold Func.isWrapper; first | (rw [if_pos (by decide +kernel)]; kernel_rfl) | (rw [if_neg (of_decide_eq_false (by kernel_rfl))]; exact ⟨rfl, rfl⟩))
    (fun os started H enc _ => flowIdles_lifted os started H enc)
#print axioms flowIdles_holds
end Go.Proofs.Ytimphmcoafapgaa
