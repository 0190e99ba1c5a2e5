/- towpathlaw16.StateKeys returns true for every input whose bulk is at most 1048576, and changes no argument: the given statement. Conditions: those of the given row alone. -/
import Derived.Test.YtfligklljkcbfaaDoorRows
import Derived.Test.YtfligklljkcbfaaDoorChecked
import Derived.Test.YtfligklljkcbfaaDoorStT16
import Derived.Test.YtfligklljkcbfaaDoorTwBulk
import Derived.Test.YtfligklljkcbfaaDoorTie
import Derived.Test.YtfligklljkcbfaaDoorCards
import Derived.LaidLaws
import Derived.Lib.LaidTab
import Derived.SevenTiedAt
import Derived.Deep.DeepHandedRow
import Derived.Carry
import Derived.JoinedCond
import Derived.ReadAgain
import Derived.ChangeSame
import Derived.ChangeVars
import Derived.JoinedOf
import Derived.RowKit
import Derived.RowKitTokens
import Derived.OpenShut
import Derived.ChangeMaps5
namespace Go.Proofs.YtfligklljkcbfaaDoor
set_option linter.unusedSimpArgs false
set_option linter.unusedVariables false
set_option linter.unusedSectionVars false
open Go Go.ChangeShapes Go.WideShapes Go.RowKit Go.Tw
set_option maxRecDepth 100000
theorem stateKeys_own : ownKnob Tryd.prog.godebug = none := by kernel_rfl
theorem stateKeys_laidOut : laidOutB Tryd.prog = true := by kernel_rfl
theorem stateKeys_params : Tryd.f6.params = #[22] := by kernel_rfl
theorem stateKeys_und4 : Tryd.prog.underlying 4 = some .bool := by kernel_rfl

theorem stateKeys_bslice {H : Type} (l s : List (DataW H)) : Rows.uptoBulk (.slice l s) = Rows.uptoBulkAll l + Rows.uptoBulkAll s + 1 := by simp [Rows.uptoBulk]
theorem stateKeys_bcons {H : Type} (d : DataW H) (r : List (DataW H)) : Rows.uptoBulkAll (d :: r) = Rows.uptoBulk d + Rows.uptoBulkAll r := by simp [Rows.uptoBulkAll]
theorem stateKeys_bnil {H : Type} : Rows.uptoBulkAll ([] : List (DataW H)) = 0 := by simp [Rows.uptoBulkAll]
theorem stateKeys_bagg {H : Type} (l : List (DataW H)) : Rows.uptoBulk (.agg l) = Rows.uptoBulkAll l + 1 := by simp [Rows.uptoBulk]
theorem stateKeys_bint {H : Type} (k : IntKind) (n : Int) : Rows.uptoBulk (.lit (.int k n) : DataW H) = 1 := by simp [Rows.uptoBulk]
theorem stateKeys_ones {α : Type} : ∀ l : List α, (l.map fun _ => 1).sum = l.length
  | [] => rfl
  | _ :: r => by rw [List.map_cons, List.sum_cons, stateKeys_ones r, List.length_cons]; omega
theorem stateKeys_T56 : fieldTab Tryd.prog 56 = some [(3, 0), (3, 1), (3, 2), (3, 3), (3, 4), (52, 5), (41, 9), (41, 10), (4, 11)] := by kernel_rfl
theorem stateKeys_T52 : fieldTab Tryd.prog 52 = some [(41, 0), (3, 1), (3, 2), (50, 3)] := by kernel_rfl
theorem stateKeys_T64 : fieldTab Tryd.prog 64 = some [(41, 0), (3, 1), (3, 2)] := by kernel_rfl
theorem stateKeys_c56 : Tryd.prog.cellsOf 56 = 12 := by kernel_rfl
theorem stateKeys_c52 : Tryd.prog.cellsOf 52 = 4 := by kernel_rfl
theorem stateKeys_c64 : Tryd.prog.cellsOf 64 = 3 := by kernel_rfl
theorem stateKeys_c50 : Tryd.prog.cellsOf 50 = 1 := by kernel_rfl
theorem stateKeys_c41 : Tryd.prog.cellsOf 41 = 1 := by kernel_rfl
theorem stateKeys_c3 : Tryd.prog.cellsOf 3 = 1 := by kernel_rfl
theorem stateKeys_c4 : Tryd.prog.cellsOf 4 = 1 := by kernel_rfl
theorem stateKeys_u41 : Tryd.prog.underlying 41 = some (.int .u32) := by kernel_rfl
theorem stateKeys_v3 : Tryd.prog.underlying 3 = some (.int .i64) := by kernel_rfl
theorem stateKeys_v4 : Tryd.prog.underlying 4 = some .bool := by kernel_rfl
theorem stateKeys_b50 : Tryd.prog.underlying 50 = some (.slice 64) := by kernel_rfl
theorem stateKeys_b22 : Tryd.prog.underlying 22 = some (.slice 56) := by kernel_rfl
theorem stateKeys_endB {H : Type} {henc : TypeId × Value → H} {w : World} {base : Nat} {spare : Nat → Bool} {held : Bool} : ∀ fuel cs (x : DataW H × List MemPlace), DataW.trod henc Tryd.prog w base spare held fuel 64 cs = some x → ∃ e, cs = cellsE e ∧ wfE e ∧ 1 ≤ Rows.uptoBulk x.1 := by
  intro fuel cs x h
  obtain ⟨hl, ys, _, hx, hf⟩ := trod_tabB stateKeys_T64 h
  rw [stateKeys_c64] at hl
  match cs, hl with
  | [a, b, c], _ =>
    obtain ⟨n0, z0, _, h0⟩ := hf 0 (41, 0) rfl
    obtain ⟨n1, z1, _, h1⟩ := hf 1 (3, 1) rfl
    obtain ⟨n2, z2, _, h2⟩ := hf 2 (3, 2) rfl
    simp only [stateKeys_c3, stateKeys_c41, List.drop_zero, List.drop_succ_cons, List.take_succ_cons, List.take_zero] at h0 h1 h2
    obtain ⟨v0, e0, _, w0⟩ := DataW.trod_int stateKeys_u41 h0
    obtain ⟨v1, e1, _, w1⟩ := DataW.trod_int stateKeys_v3 h1
    obtain ⟨v2, e2, _, w2⟩ := DataW.trod_int stateKeys_v3 h2
    simp only [List.cons.injEq, and_true] at e0 e1 e2
    subst e0 e1 e2
    refine ⟨⟨v0, v1, v2⟩, rfl, ⟨by have := bounds_u32 w0; constructor <;> (dsimp only; omega), bounds_i64 w1, bounds_i64 w2⟩, ?_⟩
    rw [hx, stateKeys_bagg]; omega
theorem stateKeys_servB {H : Type} {henc : TypeId × Value → H} {w : World} {spare : Nat → Bool} {held : Bool} : ∀ fuel cs (x : DataW H × List MemPlace), DataW.trod henc Tryd.prog w 0 spare held fuel 52 cs = some x → ∃ (s p q : Int) (A : Option Addr) (es : List EndV) (c : Nat), cs = [.int .u32 s, .int .i64 p, .int .i64 q, .slice A es.length c] ∧ (isU32 s ∧ isI64 p ∧ isI64 q ∧ Rd w 3 cellsE A es ∧ (∀ e ∈ es, wfE e) ∧ es.length ≤ c) ∧ 1 + es.length ≤ Rows.uptoBulk x.1 := by
  intro fuel cs x h
  obtain ⟨hl, ys, hyl, hx, hf⟩ := trod_tabB stateKeys_T52 h
  rw [stateKeys_c52] at hl
  match cs, hl with
  | [a, b, c, d], _ =>
    match ys, hyl with
    | [y0, y1, y2, y3], _ =>
      obtain ⟨n0, z0, _, h0⟩ := hf 0 (41, 0) rfl
      obtain ⟨n1, z1, _, h1⟩ := hf 1 (3, 1) rfl
      obtain ⟨n2, z2, _, h2⟩ := hf 2 (3, 2) rfl
      obtain ⟨n3, z3, q3, h3⟩ := hf 3 (50, 3) rfl
      cases q3
      simp only [stateKeys_c3, stateKeys_c41, stateKeys_c50, List.drop_zero, List.drop_succ_cons, List.take_succ_cons, List.take_zero] at h0 h1 h2 h3
      obtain ⟨v0, e0, _, w0⟩ := DataW.trod_int stateKeys_u41 h0
      obtain ⟨v1, e1, _, w1⟩ := DataW.trod_int stateKeys_v3 h1
      obtain ⟨v2, e2, _, w2⟩ := DataW.trod_int stateKeys_v3 h2
      obtain ⟨A2, x2, c2', e3, hr2, hw2, hx2, hm2, hb2⟩ := opn_sliceB (wt := fun _ : EndV => 1) (B := Rows.uptoBulk) (BA := Rows.uptoBulkAll) stateKeys_bnil stateKeys_bcons stateKeys_bslice stateKeys_b50 stateKeys_c64 (by decide) cellsE_len stateKeys_endB h3
      rw [stateKeys_ones] at hb2
      simp only [List.cons.injEq, and_true] at e0 e1 e2 e3
      subst e0 e1 e2 e3
      refine ⟨v0, v1, v2, A2, x2, c2', rfl, ⟨by have := bounds_u32 w0; constructor <;> omega, bounds_i64 w1, bounds_i64 w2, hr2, hw2, hx2⟩, ?_⟩
      rw [hx, stateKeys_bagg]
      simp only [List.map_cons, List.map_nil, stateKeys_bcons, stateKeys_bnil]
      omega
theorem stateKeys_cmdB {H : Type} {henc : TypeId × Value → H} {w : World} {spare : Nat → Bool} {held : Bool} : ∀ fuel cs (x : DataW H × List MemPlace), DataW.trod henc Tryd.prog w 0 spare held fuel 56 cs = some x → ∃ m, cs = cellsC m ∧ (m.v.ends.length ≤ 1099511627776 → cmdAt w m) ∧ 1 + m.v.ends.length ≤ Rows.uptoBulk x.1 := by
  intro fuel cs x h
  obtain ⟨hl, ys, hyl, hx, hf⟩ := trod_tabB stateKeys_T56 h
  rw [stateKeys_c56] at hl
  match cs, hl with
  | [a0, a1, a2, a3, a4, a5, a6, a7, a8, a9, a10, a11], _ =>
    match ys, hyl with
    | [y0, y1, y2, y3, y4, y5, y6, y7, y8], _ =>
      obtain ⟨n0, z0, _, h0⟩ := hf 0 (3, 0) rfl
      obtain ⟨n1, z1, _, h1⟩ := hf 1 (3, 1) rfl
      obtain ⟨n2, z2, _, h2⟩ := hf 2 (3, 2) rfl
      obtain ⟨n3, z3, _, h3⟩ := hf 3 (3, 3) rfl
      obtain ⟨n4, z4, _, h4⟩ := hf 4 (3, 4) rfl
      obtain ⟨n5, z5, q5, h5⟩ := hf 5 (52, 5) rfl
      obtain ⟨n6, z6, _, h6⟩ := hf 6 (41, 9) rfl
      obtain ⟨n7, z7, _, h7⟩ := hf 7 (41, 10) rfl
      obtain ⟨n8, z8, _, h8⟩ := hf 8 (4, 11) rfl
      cases q5
      simp only [stateKeys_c3, stateKeys_c41, stateKeys_c52, stateKeys_c4, List.drop_zero, List.drop_succ_cons, List.take_succ_cons, List.take_zero] at h0 h1 h2 h3 h4 h5 h6 h7 h8
      obtain ⟨v0, e0, _, w0⟩ := DataW.trod_int stateKeys_v3 h0
      obtain ⟨v1, e1, _, w1⟩ := DataW.trod_int stateKeys_v3 h1
      obtain ⟨v2, e2, _, w2⟩ := DataW.trod_int stateKeys_v3 h2
      obtain ⟨v3, e3, _, w3⟩ := DataW.trod_int stateKeys_v3 h3
      obtain ⟨v4, e4, _, w4⟩ := DataW.trod_int stateKeys_v3 h4
      obtain ⟨s, p, q, A, es, c, e5, ⟨g1, g2, g3, g4, g5, g6⟩, hb⟩ := stateKeys_servB _ _ _ h5
      obtain ⟨v6, e6, _, w6⟩ := DataW.trod_int stateKeys_u41 h6
      obtain ⟨v7, e7, _, w7⟩ := DataW.trod_int stateKeys_u41 h7
      obtain ⟨v8, e8, _⟩ := DataW.trod_bool stateKeys_v4 h8
      simp only [List.cons.injEq, and_true] at e0 e1 e2 e3 e4 e5 e6 e7 e8
      obtain ⟨r1, r2, r3, r4⟩ := e5
      subst e0 e1 e2 e3 e4 r1 r2 r3 r4 e6 e7 e8
      refine ⟨⟨⟨v0, v1, v2, v3, v4, s, p, q, es, v6, v7, v8⟩, A, c⟩, rfl, fun hle => ⟨g4, ⟨bounds_i64 w0, bounds_i64 w1, bounds_i64 w2, bounds_i64 w3, bounds_i64 w4, g1, g2, g3, by have := bounds_u32 w6; constructor <;> (dsimp only; omega), by have := bounds_u32 w7; constructor <;> (dsimp only; omega), g5⟩, hle, g6⟩, ?_⟩
      rw [hx, stateKeys_bagg]
      simp only [List.map_cons, List.map_nil, stateKeys_bcons, stateKeys_bnil]
      (try dsimp only)
      omega
theorem stateKeys_le {L : List Cmd} {n : Nat} (h : (L.map fun m : Cmd => 1 + m.v.ends.length).sum ≤ n) : L.length ≤ n ∧ ∀ m ∈ L, m.v.ends.length ≤ n := by
  induction L generalizing n with
  | nil => simp
  | cons a r ih =>
    simp only [List.map_cons, List.sum_cons] at h
    obtain ⟨i1, i2⟩ := ih (Nat.le_refl _)
    refine ⟨by simp only [List.length_cons]; omega, fun m hm => ?_⟩
    rcases List.mem_cons.1 hm with rfl | hm
    · omega
    · have := i2 m hm; omega
theorem totE_of (L : List Cmd) : totE L ≤ 12 * (L.map fun m : Cmd => 1 + m.v.ends.length).sum := by
  induction L with
  | nil => simp [totE]
  | cons a r ih => simp only [totE, List.map_cons, List.sum_cons] at ih ⊢; omega
theorem stateKeys_gT : Tryd.prog.globalNamed "math/bits.deBruijn64tab" = some 0 := by kernel_rfl
theorem stateKeys_gTT : (Tryd.prog.globals[0]?).map (·.type) = some 151 := by kernel_rfl
theorem stateKeys_gU : Tryd.prog.underlying 151 = some (.array 64 5) := by kernel_rfl
theorem stateKeys_gE : Tryd.prog.underlying 5 = some (.int .u8) := by kernel_rfl
theorem stateKeys_gc5 : Tryd.prog.cellsOf 5 = 1 := by kernel_rfl
theorem stateKeys_gcT : Tryd.prog.cellsOf 151 = 64 := by kernel_rfl
theorem stateKeys_laid {W : World} (h : laidMetH Tryd.prog Rows.stateKeysUptoRow.laid W) : Rd W 1 (encI .u8) (some ⟨0, 0, none⟩) dbTab := by
  have h1 : Lib.TabIs Tryd.prog W "math/bits.deBruijn64tab" .u8 dbTab := Lib.tabIs_of_head (rest := []) stateKeys_gT stateKeys_gTT stateKeys_gU stateKeys_gE stateKeys_gc5 stateKeys_gcT h
  refine ⟨fun i x hx => ⟨0, 0, rfl, fun j u hu => ?_⟩⟩
  have hi : i < dbTab.length := (List.getElem?_eq_some_iff.1 hx).1
  have h2 := h1.cell stateKeys_gT i hi
  cases j with
  | zero =>
    simp [encI] at hu
    subst hu
    have h3 : dbTab.getD i 0 = x := by simp [List.getD, hx]
    rw [h3] at h2
    simpa using h2
  | succ j => simp [encI] at hu
noncomputable def stateKeys_laidW (os : Os) : World :=
  let w0 := World.holding Tryd.prog os ⟨#[], #[], []⟩
  { w0 with heap := w0.heap.modify 0 fun
      | .cells _ t frozen => .cells (dbTab.map (Value.int .u8)).toArray t frozen
      | o => o }
theorem stateKeys_laidM (os : Os) (args : Array Value) : laidMet Tryd.prog Rows.stateKeysUptoRow.laid ((stateKeys_laidW os).forCall (fun _ _ => 0) ⟨#[], args, []⟩).memory :=
  laidMet_of_run' 8 (by kernel_rfl) (by kernel_rfl)
theorem stateKeys_reads (os : Os) {H : Type} (enc : TypeId × Value → H) : ∃ places, DataW.whole enc Tryd.prog ((stateKeys_laidW os).forCall (fun _ _ => 0) ⟨#[], #[(.slice none 0 0 : Value)], []⟩).memory Tryd.f6.params.toList Rows.stateKeysSpec.vars false #[(.slice none 0 0 : Value)].toList 8 = some ([.nil], [], places) :=
  ⟨[], by kernel_rfl⟩
set_option maxRecDepth 100000 in
theorem stateKeys_lifted (os : Os) (started : os.Started) (H : Type) (enc : TypeId × Value → H) (F0 : Stop.Interp) :
    ReturnsInHanded {} Tryd.checked os 6 .any ((Rows.OpenSpec.upto Rows.stateKeysSpec).preRow enc Tryd.prog Tryd.f6 Rows.stateKeysUptoRow.domain false Rows.stateKeysUptoRow.laid) (((Rows.OpenSpec.upto Rows.stateKeysSpec).at F0).post enc Tryd.prog Tryd.f6 false true false false) := by
  obtain ⟨places, hx⟩ := stateKeys_reads os enc
  refine returnsInHanded_of_row (C := Tryd.checked) (s := (Rows.OpenSpec.upto Rows.stateKeysSpec)) stateKeys_own started (by kernel_rfl) Tryd.func6
    (witness_row_at (enc := enc) (C := Tryd.checked) false (stateKeys_laidW os) #[.slice none 0 0] rfl (by kernel_rfl) (by kernel_rfl) (by kernel_rfl)
      (OpenSpec.preRow_of_cond 8 hx (by kernel_rfl) (fun k hk => by cases hk; kernel_rfl) (by kernel_rfl) (stateKeys_laidM os _))) ?_
  intro W base args ds gs before hval0 hW _ hcond _ hL _ _
  have hk := hcond _ rfl
  have hval : ∀ (j : Nat) t v, Tryd.f6.params[j]? = some t → args[j]? = some v → Value.okWide Tryd.prog W .any base t v := hval0
  have hW' := hW
  obtain ⟨p, q, hA0, hV0, rfl, hfz, hnd⟩ := hW
  have hA : DataW.TrodAll enc Tryd.prog W 0 (fun _ => true) true Tryd.f6.params.toList args.toList ds p := hA0
  have hV : DataW.TrodVars enc Tryd.prog W (fun _ => true) [] gs q := hV0
  rw [stateKeys_params] at hA hval
  obtain ⟨v0, vs0, d0, ds0, p0, q0, hargs, rfl, rfl, h0, r0⟩ := trodAll_cons hA
  obtain ⟨rfl, rfl, rfl⟩ := trodAll_nil r0
  obtain rfl : args = #[v0] := Array.ext' (by simpa using hargs)
  obtain ⟨rfl, rfl⟩ := trodVars_none hV
  have h0k := h0
  clear hA0 hval0
  have hlt0 : ∀ x ∈ p0, x.block < W.heap.size := fun x hx => hW'.lt x (by simp [hx])
  obtain ⟨a0_, l0_, c0_, rfl⟩ := okWide_slice stateKeys_b22 (hval 0 22 v0 rfl rfl)
  obtain ⟨fuel0, hf0⟩ := h0
  obtain ⟨A0, L, C0, hcs0, hr0, hok0, hlc0, hcm0, hbk0⟩ := opn_sliceB (wt := fun m : Cmd => 1 + m.v.ends.length) (B := Rows.uptoBulk) (BA := Rows.uptoBulkAll) stateKeys_bnil stateKeys_bcons stateKeys_bslice stateKeys_b22 stateKeys_c56 (by decide) cellsC_len stateKeys_cmdB hf0
  simp only [Value.cells, List.cons.injEq, Value.slice.injEq, and_true] at hcs0
  obtain ⟨rfl, rfl, rfl⟩ := hcs0
  have hbb0 : (L.map fun m : Cmd => 1 + m.v.ends.length).sum ≤ 1048576 := by
    have q_ := hk
    unfold Rows.uptoSmall at q_
    rw [decide_eq_true_eq] at q_
    simp only [List.append_nil, stateKeys_bcons, stateKeys_bnil] at q_
    have z_ : (L.map fun m : Cmd => 1 + m.v.ends.length).sum ≤ Rows.uptoBulk d0 := hbk0
    omega
  obtain ⟨hll0, hle0⟩ := stateKeys_le hbb0
  have htot0 : totE L ≤ 1099511627776 := Nat.le_trans (totE_of L) (by omega)
  refine (StateKeys_ct a0_ c0_ L W hr0 (fun m hm => hok0 m hm (by have := hle0 m hm; omega)) htot0 hlc0 (stateKeys_laid hL)).mono fun e W' ⟨he, hg⟩ => ?_
  subst he
  have e1 : ((Rows.OpenSpec.upto Rows.stateKeysSpec).at F0).fn H ([d0] ++ []) = { results := [.lit (.bool true)], args := [d0] } := rfl
  refine ⟨_, rfl, _, _, _, [], (p0), [], by have q_ := hW'; simp at q_ ⊢; exact q_, ?_, ?_, ?_, hg.below.frame _, fun h => by cases h⟩
  · rw [e1]; exact trodAll_mk1 (shut_bool stateKeys_und4 true)
  · rw [e1]; exact trodAll_mk1 (Below.trod stateKeys_laidOut (by kernel_rfl) (of_decide_eq_true (by kernel_rfl)) h0k hg.below hlt0)
  · rw [e1]; rfl
theorem stateKeys_holds : Rows.StateKeysUptoSaid :=
  OpenClaim.holds_of_cond 6 Tryd.f6 rfl rfl rfl rfl rfl rfl rfl ⟨rfl, rfl, rfl, rfl, rfl⟩ rfl rfl rfl rfl rfl (by kernel_rfl) Tryd.func6 (by kernel_rfl)
    (of_decide_eq_true (by kernel_rfl)) (by unfold Func.isWrapper; first | (rw [if_pos (by decide +kernel)]; kernel_rfl) | (rw [if_neg (of_decide_eq_false (by kernel_rfl))]; exact ⟨rfl, rfl⟩))
    (fun os started H enc _ F0 => by rw [OpenClaim.pre_eq_preRow]; exact stateKeys_lifted os started H enc F0)
theorem stateKeys_plain (f : FuncId) (fn : Func) (hf : Tryd.pinned.checked.prog.funcNamed "towpath/towpathlaw16.StateKeys" = some f) (hfn : Tryd.pinned.checked.prog.funcs[f]? = some fn) :
    Rows.stateKeysUptoCard.stood.looks = Tryd.pinned.checked.prog.looks [] ∧ ∀ (j : Nat) t, fn.params[j]? = some t → Tryd.pinned.checked.prog.wantsStandIn t = false := by
  obtain rfl : f = 6 := Option.some.inj ((show Tryd.prog.funcNamed "towpath/towpathlaw16.StateKeys" = some 6 by kernel_rfl).symm.trans hf) |>.symm
  obtain rfl : fn = Tryd.f6 := (Option.some.inj (Tryd.func6.symm.trans hfn)).symm
  refine ⟨by kernel_rfl, fun j t ht => ?_⟩
  rw [stateKeys_params] at ht
  rcases j with _ | j
  · simp at ht; subst ht; exact (show Tryd.prog.wantsStandIn 22 = false by kernel_rfl)
  · simp at ht
theorem stateKeys_card : Rows.StateKeysUptoCardSaid :=
  Claim7.holds_tied_plain_at .later [] _ _ _ _ stateKeys_holds (fun _ h => by cases h) (by kernel_rfl) (fun _ h => by cases h) stateKeysUpto_row_tie rfl ⟨rfl, rfl⟩ (by kernel_rfl) rfl stateKeys_plain (by kernel_rfl)
#print axioms stateKeys_card
end Go.Proofs.YtfligklljkcbfaaDoor
