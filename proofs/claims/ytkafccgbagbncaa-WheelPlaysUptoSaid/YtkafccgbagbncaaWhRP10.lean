/- towpathlaw10.WheelPlays returns true for every input whose bulk is at most 1048576, and changes no argument: the given statement. Conditions: those of the given row alone. -/
import Derived.Test.YtkafccgbagbncaaRows
import Derived.Test.YtkafccgbagbncaaChecked
import Derived.Test.YtkafccgbagbncaaWhQ10
import Derived.Test.YtkafccgbagbncaaTwBulk
import Derived.Carry
import Derived.JoinedCond
import Derived.ReadAgain
import Derived.ChangeSame
import Derived.ChangeVars
import Derived.JoinedOf
import Derived.RowKit
import Derived.RowKitTokens
import Derived.OpenShut
import Derived.ChangeMaps5
namespace Go.Proofs.Ytkafccgbagbncaa
set_option linter.unusedSimpArgs false
set_option linter.unusedVariables false
set_option linter.unusedSectionVars false
open Go Go.ChangeShapes Go.WideShapes Go.RowKit Go.Tw
set_option maxRecDepth 100000
theorem wheelPlays_own : ownKnob Try.prog.godebug = none := by kernel_rfl
theorem wheelPlays_laidOut : laidOutB Try.prog = true := by kernel_rfl
theorem wheelPlays_params : Try.f6.params = #[3, 32] := by kernel_rfl
theorem wheelPlays_und4 : Try.prog.underlying 4 = some .bool := by kernel_rfl
theorem wheelPlays_u3 : Try.prog.underlying 3 = some (.int .i64) := by kernel_rfl
theorem sc_T : fieldTab Try.prog 36 = some [(3, 0), (3, 1), (22, 2)] := by kernel_rfl
theorem sc_c36 : Try.prog.cellsOf 36 = 3 := by kernel_rfl
theorem sc_c3 : Try.prog.cellsOf 3 = 1 := by kernel_rfl
theorem sc_c22 : Try.prog.cellsOf 22 = 1 := by kernel_rfl
theorem sc_u3 : Try.prog.underlying 3 = some (.int .i64) := by kernel_rfl
theorem sc_b22 : Try.prog.underlying 22 = some (.slice 3) := by kernel_rfl
theorem sc_b32 : Try.prog.underlying 32 = some (.slice 36) := by kernel_rfl
theorem bl_slice {H : Type} (l s : List (DataW H)) : Rows.uptoBulk (.slice l s) = Rows.uptoBulkAll l + Rows.uptoBulkAll s + 1 := by simp [Rows.uptoBulk]
theorem bl_cons {H : Type} (d : DataW H) (r : List (DataW H)) : Rows.uptoBulkAll (d :: r) = Rows.uptoBulk d + Rows.uptoBulkAll r := by simp [Rows.uptoBulkAll]
theorem bl_nil {H : Type} : Rows.uptoBulkAll ([] : List (DataW H)) = 0 := by simp [Rows.uptoBulkAll]
theorem bl_agg {H : Type} (l : List (DataW H)) : Rows.uptoBulk (.agg l) = Rows.uptoBulkAll l + 1 := by simp [Rows.uptoBulk]
theorem bl_int {H : Type} (k : IntKind) (n : Int) : Rows.uptoBulk (.lit (.int k n) : DataW H) = 1 := by simp [Rows.uptoBulk]
theorem ones : ∀ l : List Int, (l.map fun _ => 1).sum = l.length
  | [] => rfl
  | _ :: r => by rw [List.map_cons, List.sum_cons, ones r, List.length_cons]; omega
theorem opn_wop {H : Type} {henc : TypeId × Value → H} {w : World} {base : Nat} {spare : Nat → Bool} {held : Bool} : ∀ fuel cs (x : DataW H × List MemPlace), DataW.trod henc Try.prog w base spare held fuel 36 cs = some x → ∃ o, cs = cellW o ∧ wopAt w o ∧ 1 + o.ks.length ≤ Rows.uptoBulk x.1 := by
  intro fuel cs x h
  obtain ⟨hl, ys, hyl, hx, hf⟩ := trod_tabB sc_T h
  rw [sc_c36] at hl
  match cs, hl, ys, hyl with
  | [c0, c1, c2], _, [y0, y1, y2], _ =>
    obtain ⟨n0, z0, q0, h0⟩ := hf 0 (3, 0) rfl
    obtain ⟨n1, z1, q1, h1⟩ := hf 1 (3, 1) rfl
    obtain ⟨n2, z2, q2, h2⟩ := hf 2 (22, 2) rfl
    simp only [sc_c3, sc_c22, List.drop_zero, List.drop_succ_cons, List.take_succ_cons, List.take_zero] at h0 h1 h2
    obtain ⟨v0, e0, _, w0⟩ := DataW.trod_int sc_u3 h0
    obtain ⟨v1, e1, _, w1⟩ := DataW.trod_int sc_u3 h1
    obtain ⟨A2, x2, c2', e2, hr2, hw2, hx2, hm2, hb2⟩ := opn_sliceB (wt := fun _ : Int => 1) (B := Rows.uptoBulk) (BA := Rows.uptoBulkAll) bl_nil bl_cons bl_slice sc_b22 sc_c3 (by decide) (Go.Tw.encI_len .i64) (ok := fun _ => True) (fun _ _ _ g => by
      obtain ⟨v, e, ee, _⟩ := DataW.trod_int sc_u3 g
      exact ⟨v, e, trivial, by rw [ee]; exact Nat.le_of_eq (bl_int _ _).symm⟩) h2
    simp only [List.cons.injEq, and_true] at e0 e1 e2
    subst e0 e1 e2
    cases q2
    refine ⟨⟨v0, v1, A2, x2.length, c2', x2⟩, rfl, ⟨hr2, rfl, (bounds_i64 w1).2, hx2⟩, ?_⟩
    rw [hx, bl_agg]
    simp only [List.map_cons, List.map_nil, bl_cons, bl_nil]
    have := ones x2
    omega
set_option maxRecDepth 100000 in
theorem wheelPlays_lifted (os : Os) (started : os.Started) (H : Type) (enc : TypeId × Value → H) (F0 : Stop.Interp) :
    ReturnsInHanded {} Try.checked os 6 .any ((Rows.OpenSpec.upto Rows.wheelPlaysSpec).pre6 enc Try.prog Try.f6 Rows.wheelPlaysUptoRow.domain false) (((Rows.OpenSpec.upto Rows.wheelPlaysSpec).at F0).post enc Try.prog Try.f6 false true false false) := by
  refine returnsInHanded_of_cond (C := Try.checked) (s := (Rows.OpenSpec.upto Rows.wheelPlaysSpec)) (k := Rows.uptoSmall) rfl wheelPlays_own started (by kernel_rfl) Try.func6
    (OpenSpec.witness (enc := enc) (C := Try.checked) (s := (Rows.OpenSpec.upto Rows.wheelPlaysSpec)) (k := Rows.uptoSmall) rfl false ⟨#[], #[.int .i64 0, .slice none 0 0], []⟩ 8 (by kernel_rfl) (by kernel_rfl) (by kernel_rfl) (x := ([.lit (.int .i64 0), .nil], [], [])) (by kernel_rfl) (by kernel_rfl) (by kernel_rfl)) ?_
  intro W base args ds gs before hval0 hW _ hk _
  have hval : ∀ (j : Nat) t v, Try.f6.params[j]? = some t → args[j]? = some v → Value.okWide Try.prog W .any base t v := hval0
  have hW' := hW
  obtain ⟨p, q, hA0, hV0, rfl, hfz, hnd⟩ := hW
  have hA : DataW.TrodAll enc Try.prog W 0 (fun _ => true) true Try.f6.params.toList args.toList ds p := hA0
  have hV : DataW.TrodVars enc Try.prog W (fun _ => true) [] gs q := hV0
  rw [wheelPlays_params] at hA hval
  obtain ⟨v0, vs0, d0, ds0, p0, q0, hargs, rfl, rfl, h0, r0⟩ := trodAll_cons hA
  obtain ⟨v1, vs1, d1, ds1, p1, q1, rfl, rfl, rfl, h1, r1⟩ := trodAll_cons r0
  obtain ⟨rfl, rfl, rfl⟩ := trodAll_nil r1
  obtain rfl : args = #[v0, v1] := Array.ext' (by simpa using hargs)
  obtain ⟨rfl, rfl⟩ := trodVars_none hV
  obtain ⟨slots, rfl, rfl, rfl, w0⟩ := open_int wheelPlays_u3 (hval 0 3 v0 rfl rfl) h0
  have h1k := h1
  clear hA0 hval0
  have hlt1 : ∀ x ∈ p1, x.block < W.heap.size := fun x hx => hW'.lt x (by simp [hx])
  obtain ⟨a1_, l1_, c1_, rfl⟩ := okWide_slice sc_b32 (hval 1 32 v1 rfl rfl)
  obtain ⟨fuel1, hf1⟩ := h1
  obtain ⟨A1, ops, C1, hcs1, hr1, hok1, hlc1, hcm1, hbk1⟩ := opn_sliceB (wt := fun o : WOp => 1 + o.ks.length) (B := Rows.uptoBulk) (BA := Rows.uptoBulkAll) bl_nil bl_cons bl_slice sc_b32 sc_c36 (by decide) cellW_len opn_wop hf1
  simp only [Value.cells, List.cons.injEq, Value.slice.injEq, and_true] at hcs1
  obtain ⟨rfl, rfl, rfl⟩ := hcs1
  have hbb1 : totW ops ≤ 1048576 := by
    have q_ := hk
    unfold Rows.uptoSmall at q_
    rw [decide_eq_true_eq] at q_
    simp only [List.append_nil, bl_cons, bl_nil, bl_int] at q_
    have z_ : (ops.map fun o : WOp => 1 + o.ks.length).sum ≤ Rows.uptoBulk d1 := hbk1
    unfold totW
    omega
  refine (WheelPlays_ct slots a1_ c1_ ops W hr1 hok1 hbb1).mono fun e W' ⟨he, hg⟩ => ?_
  subst he
  have e1 : ((Rows.OpenSpec.upto Rows.wheelPlaysSpec).at F0).fn H ([.lit (.int .i64 slots), d1] ++ []) = { results := [.lit (.bool true)], args := [.lit (.int .i64 slots), d1] } := rfl
  refine ⟨_, rfl, _, _, _, [], ([] ++ (p1)), [], by have q_ := hW'; simp at q_ ⊢; exact q_, ?_, ?_, ?_, hg.below.frame _, fun h => by cases h⟩
  · rw [e1]; exact trodAll_mk1 (shut_bool wheelPlays_und4 true)
  · rw [e1]; exact trodAll_mk2 (shut_int wheelPlays_u3 w0) (Below.trod wheelPlays_laidOut (by kernel_rfl) (of_decide_eq_true (by kernel_rfl)) h1k hg.below hlt1)
  · rw [e1]; rfl
theorem wheelPlays_holds : Rows.WheelPlaysUptoSaid :=
  OpenClaim.holds_of_cond 6 Try.f6 rfl rfl rfl rfl rfl rfl rfl ⟨rfl, rfl, rfl, rfl, rfl⟩ rfl rfl rfl rfl rfl (by kernel_rfl) Try.func6 (by kernel_rfl)
    (of_decide_eq_true (by kernel_rfl)) (by unfold Func.isWrapper; first | (rw [if_pos (by decide +kernel)]; kernel_rfl) | (rw [if_neg (of_decide_eq_false (by kernel_rfl))]; exact ⟨rfl, rfl⟩))
    (fun os started H enc _ F0 => wheelPlays_lifted os started H enc F0)
#print axioms wheelPlays_holds
end Go.Proofs.Ytkafccgbagbncaa
