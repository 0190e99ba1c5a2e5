/- towpathlaw14.VoteLogs returns true for every input whose bulk is at most 1048576, and changes no argument: the given statement. Conditions: those of the given row alone. -/
import Derived.Test.YtjacpjdikhlcoaaRows
import Derived.Test.YtjacpjdikhlcoaaChecked
import Derived.Test.YtjacpjdikhlcoaaVtT14
import Derived.Test.YtjacpjdikhlcoaaTwBulk
import Derived.Carry
import Derived.JoinedCond
import Derived.ReadAgain
import Derived.ChangeSame
import Derived.ChangeVars
import Derived.JoinedOf
import Derived.RowKit
import Derived.RowKitTokens
import Derived.OpenShut
import Derived.ChangeMaps5
namespace Go.Proofs.Ytjacpjdikhlcoaa
set_option linter.unusedSimpArgs false
set_option linter.unusedVariables false
set_option linter.unusedSectionVars false
open Go Go.ChangeShapes Go.WideShapes Go.RowKit Go.Tw
set_option maxRecDepth 100000
theorem voteLogs_own : ownKnob Try.prog.godebug = none := by kernel_rfl
theorem voteLogs_laidOut : laidOutB Try.prog = true := by kernel_rfl
theorem voteLogs_params : Try.f6.params = #[25] := by kernel_rfl
theorem voteLogs_und4 : Try.prog.underlying 4 = some .bool := by kernel_rfl

theorem voteLogs_bslice {H : Type} (l s : List (DataW H)) : Rows.uptoBulk (.slice l s) = Rows.uptoBulkAll l + Rows.uptoBulkAll s + 1 := by simp [Rows.uptoBulk]
theorem voteLogs_bcons {H : Type} (d : DataW H) (r : List (DataW H)) : Rows.uptoBulkAll (d :: r) = Rows.uptoBulk d + Rows.uptoBulkAll r := by simp [Rows.uptoBulkAll]
theorem voteLogs_bnil {H : Type} : Rows.uptoBulkAll ([] : List (DataW H)) = 0 := by simp [Rows.uptoBulkAll]
theorem voteLogs_bagg {H : Type} (l : List (DataW H)) : Rows.uptoBulk (.agg l) = Rows.uptoBulkAll l + 1 := by simp [Rows.uptoBulk]
theorem voteLogs_bint {H : Type} (k : IntKind) (n : Int) : Rows.uptoBulk (.lit (.int k n) : DataW H) = 1 := by simp [Rows.uptoBulk]
theorem voteLogs_ones {α : Type} : ∀ l : List α, (l.map fun _ => 1).sum = l.length
  | [] => rfl
  | _ :: r => by rw [List.map_cons, List.sum_cons, voteLogs_ones r, List.length_cons]; omega
theorem voteLogs_T61 : fieldTab Try.prog 61 = some [(3, 0), (3, 1), (3, 2), (3, 3), (3, 4), (59, 5), (56, 9), (56, 10), (4, 11)] := by kernel_rfl
theorem voteLogs_T59 : fieldTab Try.prog 59 = some [(56, 0), (3, 1), (3, 2), (57, 3)] := by kernel_rfl
theorem voteLogs_T91 : fieldTab Try.prog 91 = some [(56, 0), (3, 1), (3, 2)] := by kernel_rfl
theorem voteLogs_c61 : Try.prog.cellsOf 61 = 12 := by kernel_rfl
theorem voteLogs_c59 : Try.prog.cellsOf 59 = 4 := by kernel_rfl
theorem voteLogs_c91 : Try.prog.cellsOf 91 = 3 := by kernel_rfl
theorem voteLogs_c57 : Try.prog.cellsOf 57 = 1 := by kernel_rfl
theorem voteLogs_c56 : Try.prog.cellsOf 56 = 1 := by kernel_rfl
theorem voteLogs_c3 : Try.prog.cellsOf 3 = 1 := by kernel_rfl
theorem voteLogs_c4 : Try.prog.cellsOf 4 = 1 := by kernel_rfl
theorem voteLogs_u56 : Try.prog.underlying 56 = some (.int .u32) := by kernel_rfl
theorem voteLogs_v3 : Try.prog.underlying 3 = some (.int .i64) := by kernel_rfl
theorem voteLogs_v4 : Try.prog.underlying 4 = some .bool := by kernel_rfl
theorem voteLogs_b57 : Try.prog.underlying 57 = some (.slice 91) := by kernel_rfl
theorem voteLogs_b25 : Try.prog.underlying 25 = some (.slice 61) := by kernel_rfl
theorem voteLogs_endB {H : Type} {henc : TypeId × Value → H} {w : World} {base : Nat} {spare : Nat → Bool} {held : Bool} : ∀ fuel cs (x : DataW H × List MemPlace), DataW.trod henc Try.prog w base spare held fuel 91 cs = some x → ∃ e, cs = cellsE e ∧ wfE e ∧ 1 ≤ Rows.uptoBulk x.1 := by
  intro fuel cs x h
  obtain ⟨hl, ys, _, hx, hf⟩ := trod_tabB voteLogs_T91 h
  rw [voteLogs_c91] at hl
  match cs, hl with
  | [a, b, c], _ =>
    obtain ⟨n0, z0, _, h0⟩ := hf 0 (56, 0) rfl
    obtain ⟨n1, z1, _, h1⟩ := hf 1 (3, 1) rfl
    obtain ⟨n2, z2, _, h2⟩ := hf 2 (3, 2) rfl
    simp only [voteLogs_c3, voteLogs_c56, List.drop_zero, List.drop_succ_cons, List.take_succ_cons, List.take_zero] at h0 h1 h2
    obtain ⟨v0, e0, _, w0⟩ := DataW.trod_int voteLogs_u56 h0
    obtain ⟨v1, e1, _, w1⟩ := DataW.trod_int voteLogs_v3 h1
    obtain ⟨v2, e2, _, w2⟩ := DataW.trod_int voteLogs_v3 h2
    simp only [List.cons.injEq, and_true] at e0 e1 e2
    subst e0 e1 e2
    refine ⟨⟨v0, v1, v2⟩, rfl, ⟨by have := bounds_u32 w0; constructor <;> (dsimp only; omega), bounds_i64 w1, bounds_i64 w2⟩, ?_⟩
    rw [hx, voteLogs_bagg]; omega
theorem voteLogs_servB {H : Type} {henc : TypeId × Value → H} {w : World} {spare : Nat → Bool} {held : Bool} : ∀ fuel cs (x : DataW H × List MemPlace), DataW.trod henc Try.prog w 0 spare held fuel 59 cs = some x → ∃ (s p q : Int) (A : Option Addr) (es : List EndV) (c : Nat), cs = [.int .u32 s, .int .i64 p, .int .i64 q, .slice A es.length c] ∧ (isU32 s ∧ isI64 p ∧ isI64 q ∧ Rd w 3 cellsE A es ∧ (∀ e ∈ es, wfE e) ∧ es.length ≤ c) ∧ 1 + es.length ≤ Rows.uptoBulk x.1 := by
  intro fuel cs x h
  obtain ⟨hl, ys, hyl, hx, hf⟩ := trod_tabB voteLogs_T59 h
  rw [voteLogs_c59] at hl
  match cs, hl with
  | [a, b, c, d], _ =>
    match ys, hyl with
    | [y0, y1, y2, y3], _ =>
      obtain ⟨n0, z0, _, h0⟩ := hf 0 (56, 0) rfl
      obtain ⟨n1, z1, _, h1⟩ := hf 1 (3, 1) rfl
      obtain ⟨n2, z2, _, h2⟩ := hf 2 (3, 2) rfl
      obtain ⟨n3, z3, q3, h3⟩ := hf 3 (57, 3) rfl
      cases q3
      simp only [voteLogs_c3, voteLogs_c56, voteLogs_c57, List.drop_zero, List.drop_succ_cons, List.take_succ_cons, List.take_zero] at h0 h1 h2 h3
      obtain ⟨v0, e0, _, w0⟩ := DataW.trod_int voteLogs_u56 h0
      obtain ⟨v1, e1, _, w1⟩ := DataW.trod_int voteLogs_v3 h1
      obtain ⟨v2, e2, _, w2⟩ := DataW.trod_int voteLogs_v3 h2
      obtain ⟨A2, x2, c2', e3, hr2, hw2, hx2, hm2, hb2⟩ := opn_sliceB (wt := fun _ : EndV => 1) (B := Rows.uptoBulk) (BA := Rows.uptoBulkAll) voteLogs_bnil voteLogs_bcons voteLogs_bslice voteLogs_b57 voteLogs_c91 (by decide) cellsE_len voteLogs_endB h3
      rw [voteLogs_ones] at hb2
      simp only [List.cons.injEq, and_true] at e0 e1 e2 e3
      subst e0 e1 e2 e3
      refine ⟨v0, v1, v2, A2, x2, c2', rfl, ⟨by have := bounds_u32 w0; constructor <;> omega, bounds_i64 w1, bounds_i64 w2, hr2, hw2, hx2⟩, ?_⟩
      rw [hx, voteLogs_bagg]
      simp only [List.map_cons, List.map_nil, voteLogs_bcons, voteLogs_bnil]
      omega
theorem voteLogs_cmdB {H : Type} {henc : TypeId × Value → H} {w : World} {spare : Nat → Bool} {held : Bool} : ∀ fuel cs (x : DataW H × List MemPlace), DataW.trod henc Try.prog w 0 spare held fuel 61 cs = some x → ∃ m, cs = cellsC m ∧ (m.v.ends.length ≤ 1099511627776 → cmdAt w m) ∧ 1 + m.v.ends.length ≤ Rows.uptoBulk x.1 := by
  intro fuel cs x h
  obtain ⟨hl, ys, hyl, hx, hf⟩ := trod_tabB voteLogs_T61 h
  rw [voteLogs_c61] at hl
  match cs, hl with
  | [a0, a1, a2, a3, a4, a5, a6, a7, a8, a9, a10, a11], _ =>
    match ys, hyl with
    | [y0, y1, y2, y3, y4, y5, y6, y7, y8], _ =>
      obtain ⟨n0, z0, _, h0⟩ := hf 0 (3, 0) rfl
      obtain ⟨n1, z1, _, h1⟩ := hf 1 (3, 1) rfl
      obtain ⟨n2, z2, _, h2⟩ := hf 2 (3, 2) rfl
      obtain ⟨n3, z3, _, h3⟩ := hf 3 (3, 3) rfl
      obtain ⟨n4, z4, _, h4⟩ := hf 4 (3, 4) rfl
      obtain ⟨n5, z5, q5, h5⟩ := hf 5 (59, 5) rfl
      obtain ⟨n6, z6, _, h6⟩ := hf 6 (56, 9) rfl
      obtain ⟨n7, z7, _, h7⟩ := hf 7 (56, 10) rfl
      obtain ⟨n8, z8, _, h8⟩ := hf 8 (4, 11) rfl
      cases q5
      simp only [voteLogs_c3, voteLogs_c56, voteLogs_c59, voteLogs_c4, List.drop_zero, List.drop_succ_cons, List.take_succ_cons, List.take_zero] at h0 h1 h2 h3 h4 h5 h6 h7 h8
      obtain ⟨v0, e0, _, w0⟩ := DataW.trod_int voteLogs_v3 h0
      obtain ⟨v1, e1, _, w1⟩ := DataW.trod_int voteLogs_v3 h1
      obtain ⟨v2, e2, _, w2⟩ := DataW.trod_int voteLogs_v3 h2
      obtain ⟨v3, e3, _, w3⟩ := DataW.trod_int voteLogs_v3 h3
      obtain ⟨v4, e4, _, w4⟩ := DataW.trod_int voteLogs_v3 h4
      obtain ⟨s, p, q, A, es, c, e5, ⟨g1, g2, g3, g4, g5, g6⟩, hb⟩ := voteLogs_servB _ _ _ h5
      obtain ⟨v6, e6, _, w6⟩ := DataW.trod_int voteLogs_u56 h6
      obtain ⟨v7, e7, _, w7⟩ := DataW.trod_int voteLogs_u56 h7
      obtain ⟨v8, e8, _⟩ := DataW.trod_bool voteLogs_v4 h8
      simp only [List.cons.injEq, and_true] at e0 e1 e2 e3 e4 e5 e6 e7 e8
      obtain ⟨r1, r2, r3, r4⟩ := e5
      subst e0 e1 e2 e3 e4 r1 r2 r3 r4 e6 e7 e8
      refine ⟨⟨⟨v0, v1, v2, v3, v4, s, p, q, es, v6, v7, v8⟩, A, c⟩, rfl, fun hle => ⟨g4, ⟨bounds_i64 w0, bounds_i64 w1, bounds_i64 w2, bounds_i64 w3, bounds_i64 w4, g1, g2, g3, by have := bounds_u32 w6; constructor <;> (dsimp only; omega), by have := bounds_u32 w7; constructor <;> (dsimp only; omega), g5⟩, hle, g6⟩, ?_⟩
      rw [hx, voteLogs_bagg]
      simp only [List.map_cons, List.map_nil, voteLogs_bcons, voteLogs_bnil]
      (try dsimp only)
      omega
theorem voteLogs_le {L : List Cmd} {n : Nat} (h : (L.map fun m : Cmd => 1 + m.v.ends.length).sum ≤ n) : L.length ≤ n ∧ ∀ m ∈ L, m.v.ends.length ≤ n := by
  induction L generalizing n with
  | nil => simp
  | cons a r ih =>
    simp only [List.map_cons, List.sum_cons] at h
    obtain ⟨i1, i2⟩ := ih (Nat.le_refl _)
    refine ⟨by simp only [List.length_cons]; omega, fun m hm => ?_⟩
    rcases List.mem_cons.1 hm with rfl | hm
    · omega
    · have := i2 m hm; omega
set_option maxRecDepth 100000 in
theorem voteLogs_lifted (os : Os) (started : os.Started) (H : Type) (enc : TypeId × Value → H) (F0 : Stop.Interp) :
    ReturnsInHanded {} Try.checked os 6 .any ((Rows.OpenSpec.upto Rows.voteLogsSpec).pre6 enc Try.prog Try.f6 Rows.voteLogsUptoRow.domain false) (((Rows.OpenSpec.upto Rows.voteLogsSpec).at F0).post enc Try.prog Try.f6 false true false false) := by
  refine returnsInHanded_of_cond (C := Try.checked) (s := (Rows.OpenSpec.upto Rows.voteLogsSpec)) (k := Rows.uptoSmall) rfl voteLogs_own started (by kernel_rfl) Try.func6
    (OpenSpec.witness (enc := enc) (C := Try.checked) (s := (Rows.OpenSpec.upto Rows.voteLogsSpec)) (k := Rows.uptoSmall) rfl false ⟨#[], #[.slice none 0 0], []⟩ 8 (by kernel_rfl) (by kernel_rfl) (by kernel_rfl) (x := ([.nil], [], [])) (by kernel_rfl) (by kernel_rfl) (by kernel_rfl)) ?_
  intro W base args ds gs before hval0 hW _ hk _
  have hval : ∀ (j : Nat) t v, Try.f6.params[j]? = some t → args[j]? = some v → Value.okWide Try.prog W .any base t v := hval0
  have hW' := hW
  obtain ⟨p, q, hA0, hV0, rfl, hfz, hnd⟩ := hW
  have hA : DataW.TrodAll enc Try.prog W 0 (fun _ => true) true Try.f6.params.toList args.toList ds p := hA0
  have hV : DataW.TrodVars enc Try.prog W (fun _ => true) [] gs q := hV0
  rw [voteLogs_params] at hA hval
  obtain ⟨v0, vs0, d0, ds0, p0, q0, hargs, rfl, rfl, h0, r0⟩ := trodAll_cons hA
  obtain ⟨rfl, rfl, rfl⟩ := trodAll_nil r0
  obtain rfl : args = #[v0] := Array.ext' (by simpa using hargs)
  obtain ⟨rfl, rfl⟩ := trodVars_none hV
  have h0k := h0
  clear hA0 hval0
  have hlt0 : ∀ x ∈ p0, x.block < W.heap.size := fun x hx => hW'.lt x (by simp [hx])
  obtain ⟨a0_, l0_, c0_, rfl⟩ := okWide_slice voteLogs_b25 (hval 0 25 v0 rfl rfl)
  obtain ⟨fuel0, hf0⟩ := h0
  obtain ⟨A0, L, C0, hcs0, hr0, hok0, hlc0, hcm0, hbk0⟩ := opn_sliceB (wt := fun m : Cmd => 1 + m.v.ends.length) (B := Rows.uptoBulk) (BA := Rows.uptoBulkAll) voteLogs_bnil voteLogs_bcons voteLogs_bslice voteLogs_b25 voteLogs_c61 (by decide) cellsC_len voteLogs_cmdB hf0
  simp only [Value.cells, List.cons.injEq, Value.slice.injEq, and_true] at hcs0
  obtain ⟨rfl, rfl, rfl⟩ := hcs0
  have hbb0 : (L.map fun m : Cmd => 1 + m.v.ends.length).sum ≤ 1048576 := by
    have q_ := hk
    unfold Rows.uptoSmall at q_
    rw [decide_eq_true_eq] at q_
    simp only [List.append_nil, voteLogs_bcons, voteLogs_bnil] at q_
    have z_ : (L.map fun m : Cmd => 1 + m.v.ends.length).sum ≤ Rows.uptoBulk d0 := hbk0
    omega
  obtain ⟨hll0, hle0⟩ := voteLogs_le hbb0
  refine (VoteLogs_ct a0_ c0_ L W hr0 (fun m hm => hok0 m hm (by have := hle0 m hm; omega)) (by omega)).mono fun e W' ⟨he, hg⟩ => ?_
  subst he
  have e1 : ((Rows.OpenSpec.upto Rows.voteLogsSpec).at F0).fn H ([d0] ++ []) = { results := [.lit (.bool true)], args := [d0] } := rfl
  refine ⟨_, rfl, _, _, _, [], (p0), [], by have q_ := hW'; simp at q_ ⊢; exact q_, ?_, ?_, ?_, hg.below.frame _, fun h => by cases h⟩
  · rw [e1]; exact trodAll_mk1 (shut_bool voteLogs_und4 true)
  · rw [e1]; exact trodAll_mk1 (Below.trod voteLogs_laidOut (by kernel_rfl) (of_decide_eq_true (by kernel_rfl)) h0k hg.below hlt0)
  · rw [e1]; rfl
theorem voteLogs_holds : Rows.VoteLogsUptoSaid :=
  OpenClaim.holds_of_cond 6 Try.f6 rfl rfl rfl rfl rfl rfl rfl ⟨rfl, rfl, rfl, rfl, rfl⟩ rfl rfl rfl rfl rfl (by kernel_rfl) Try.func6 (by kernel_rfl)
    (of_decide_eq_true (by kernel_rfl)) (by unfold Func.isWrapper; first | (rw [if_pos (by decide +kernel)]; kernel_rfl) | (rw [if_neg (of_decide_eq_false (by kernel_rfl))]; exact ⟨rfl, rfl⟩))
    (fun os started H enc _ F0 => voteLogs_lifted os started H enc F0)
#print axioms voteLogs_holds
end Go.Proofs.Ytjacpjdikhlcoaa
