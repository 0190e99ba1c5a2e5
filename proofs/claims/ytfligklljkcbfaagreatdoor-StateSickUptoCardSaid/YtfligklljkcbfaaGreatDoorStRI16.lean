/- towpathlaw16.StateSick returns true for every input whose bulk is at most 1048576, and changes no argument: the given statement. Conditions: those of the given row alone. -/
import Derived.Test.YtfligklljkcbfaaGreatDoorRows
import Derived.Test.YtfligklljkcbfaaGreatDoorChecked
import Derived.Test.YtfligklljkcbfaaGreatDoorStY16
import Derived.Test.YtfligklljkcbfaaGreatDoorTwBulk
import Derived.Test.YtfligklljkcbfaaGreatDoorTie
import Derived.Test.YtfligklljkcbfaaGreatDoorCards
import Derived.LaidLaws
import Derived.Lib.LaidTab
import Derived.SevenTiedAt
import Derived.Deep.DeepHandedRow
import Derived.Carry
import Derived.JoinedCond
import Derived.ReadAgain
import Derived.ChangeSame
import Derived.ChangeVars
import Derived.JoinedOf
import Derived.RowKit
import Derived.RowKitTokens
import Derived.OpenShut
import Derived.ChangeMaps5
namespace Go.Proofs.YtfligklljkcbfaaGreatDoor
set_option linter.unusedSimpArgs false
set_option linter.unusedVariables false
set_option linter.unusedSectionVars false
open Go Go.ChangeShapes Go.WideShapes Go.RowKit Go.Tw
set_option maxRecDepth 100000
theorem stateSick_own : ownKnob Tryz.prog.godebug = none := by kernel_rfl
theorem stateSick_laidOut : laidOutB Tryz.prog = true := by kernel_rfl
theorem stateSick_params : Tryz.f4.params = #[22, 40, 3] := by kernel_rfl
theorem stateSick_und4 : Tryz.prog.underlying 4 = some .bool := by kernel_rfl
theorem stateSick_u3 : Tryz.prog.underlying 3 = some (.int .i64) := by kernel_rfl
theorem stateSick_u40 : Tryz.prog.underlying 40 = some (.int .u32) := by kernel_rfl
theorem stateSick_bslice {H : Type} (l s : List (DataW H)) : Rows.uptoBulk (.slice l s) = Rows.uptoBulkAll l + Rows.uptoBulkAll s + 1 := by simp [Rows.uptoBulk]
theorem stateSick_bcons {H : Type} (d : DataW H) (r : List (DataW H)) : Rows.uptoBulkAll (d :: r) = Rows.uptoBulk d + Rows.uptoBulkAll r := by simp [Rows.uptoBulkAll]
theorem stateSick_bnil {H : Type} : Rows.uptoBulkAll ([] : List (DataW H)) = 0 := by simp [Rows.uptoBulkAll]
theorem stateSick_bagg {H : Type} (l : List (DataW H)) : Rows.uptoBulk (.agg l) = Rows.uptoBulkAll l + 1 := by simp [Rows.uptoBulk]
theorem stateSick_bint {H : Type} (k : IntKind) (n : Int) : Rows.uptoBulk (.lit (.int k n) : DataW H) = 1 := by simp [Rows.uptoBulk]
theorem stateSick_ones {α : Type} : ∀ l : List α, (l.map fun _ => 1).sum = l.length
  | [] => rfl
  | _ :: r => by rw [List.map_cons, List.sum_cons, stateSick_ones r, List.length_cons]; omega
theorem stateSick_T45 : fieldTab Tryz.prog 45 = some [(3, 0), (3, 1), (3, 2), (3, 3), (3, 4), (43, 5), (40, 9), (40, 10), (4, 11)] := by kernel_rfl
theorem stateSick_T43 : fieldTab Tryz.prog 43 = some [(40, 0), (3, 1), (3, 2), (41, 3)] := by kernel_rfl
theorem stateSick_T47 : fieldTab Tryz.prog 47 = some [(40, 0), (3, 1), (3, 2)] := by kernel_rfl
theorem stateSick_c45 : Tryz.prog.cellsOf 45 = 12 := by kernel_rfl
theorem stateSick_c43 : Tryz.prog.cellsOf 43 = 4 := by kernel_rfl
theorem stateSick_c47 : Tryz.prog.cellsOf 47 = 3 := by kernel_rfl
theorem stateSick_c41 : Tryz.prog.cellsOf 41 = 1 := by kernel_rfl
theorem stateSick_c40 : Tryz.prog.cellsOf 40 = 1 := by kernel_rfl
theorem stateSick_c3 : Tryz.prog.cellsOf 3 = 1 := by kernel_rfl
theorem stateSick_c4 : Tryz.prog.cellsOf 4 = 1 := by kernel_rfl
theorem stateSick_v3 : Tryz.prog.underlying 3 = some (.int .i64) := by kernel_rfl
theorem stateSick_v4 : Tryz.prog.underlying 4 = some .bool := by kernel_rfl
theorem stateSick_b41 : Tryz.prog.underlying 41 = some (.slice 47) := by kernel_rfl
theorem stateSick_b22 : Tryz.prog.underlying 22 = some (.slice 45) := by kernel_rfl
theorem stateSick_endB {H : Type} {henc : TypeId × Value → H} {w : World} {base : Nat} {spare : Nat → Bool} {held : Bool} : ∀ fuel cs (x : DataW H × List MemPlace), DataW.trod henc Tryz.prog w base spare held fuel 47 cs = some x → ∃ e, cs = cellsE e ∧ wfE e ∧ 1 ≤ Rows.uptoBulk x.1 := by
  intro fuel cs x h
  obtain ⟨hl, ys, _, hx, hf⟩ := trod_tabB stateSick_T47 h
  rw [stateSick_c47] at hl
  match cs, hl with
  | [a, b, c], _ =>
    obtain ⟨n0, z0, _, h0⟩ := hf 0 (40, 0) rfl
    obtain ⟨n1, z1, _, h1⟩ := hf 1 (3, 1) rfl
    obtain ⟨n2, z2, _, h2⟩ := hf 2 (3, 2) rfl
    simp only [stateSick_c3, stateSick_c40, List.drop_zero, List.drop_succ_cons, List.take_succ_cons, List.take_zero] at h0 h1 h2
    obtain ⟨v0, e0, _, w0⟩ := DataW.trod_int stateSick_u40 h0
    obtain ⟨v1, e1, _, w1⟩ := DataW.trod_int stateSick_v3 h1
    obtain ⟨v2, e2, _, w2⟩ := DataW.trod_int stateSick_v3 h2
    simp only [List.cons.injEq, and_true] at e0 e1 e2
    subst e0 e1 e2
    refine ⟨⟨v0, v1, v2⟩, rfl, ⟨by have := bounds_u32 w0; constructor <;> (dsimp only; omega), bounds_i64 w1, bounds_i64 w2⟩, ?_⟩
    rw [hx, stateSick_bagg]; omega
theorem stateSick_servB {H : Type} {henc : TypeId × Value → H} {w : World} {spare : Nat → Bool} {held : Bool} : ∀ fuel cs (x : DataW H × List MemPlace), DataW.trod henc Tryz.prog w 0 spare held fuel 43 cs = some x → ∃ (s p q : Int) (A : Option Addr) (es : List EndV) (c : Nat), cs = [.int .u32 s, .int .i64 p, .int .i64 q, .slice A es.length c] ∧ (isU32 s ∧ isI64 p ∧ isI64 q ∧ Rd w 3 cellsE A es ∧ (∀ e ∈ es, wfE e) ∧ es.length ≤ c) ∧ 1 + es.length ≤ Rows.uptoBulk x.1 := by
  intro fuel cs x h
  obtain ⟨hl, ys, hyl, hx, hf⟩ := trod_tabB stateSick_T43 h
  rw [stateSick_c43] at hl
  match cs, hl with
  | [a, b, c, d], _ =>
    match ys, hyl with
    | [y0, y1, y2, y3], _ =>
      obtain ⟨n0, z0, _, h0⟩ := hf 0 (40, 0) rfl
      obtain ⟨n1, z1, _, h1⟩ := hf 1 (3, 1) rfl
      obtain ⟨n2, z2, _, h2⟩ := hf 2 (3, 2) rfl
      obtain ⟨n3, z3, q3, h3⟩ := hf 3 (41, 3) rfl
      cases q3
      simp only [stateSick_c3, stateSick_c40, stateSick_c41, List.drop_zero, List.drop_succ_cons, List.take_succ_cons, List.take_zero] at h0 h1 h2 h3
      obtain ⟨v0, e0, _, w0⟩ := DataW.trod_int stateSick_u40 h0
      obtain ⟨v1, e1, _, w1⟩ := DataW.trod_int stateSick_v3 h1
      obtain ⟨v2, e2, _, w2⟩ := DataW.trod_int stateSick_v3 h2
      obtain ⟨A2, x2, c2', e3, hr2, hw2, hx2, hm2, hb2⟩ := opn_sliceB (wt := fun _ : EndV => 1) (B := Rows.uptoBulk) (BA := Rows.uptoBulkAll) stateSick_bnil stateSick_bcons stateSick_bslice stateSick_b41 stateSick_c47 (by decide) cellsE_len stateSick_endB h3
      rw [stateSick_ones] at hb2
      simp only [List.cons.injEq, and_true] at e0 e1 e2 e3
      subst e0 e1 e2 e3
      refine ⟨v0, v1, v2, A2, x2, c2', rfl, ⟨by have := bounds_u32 w0; constructor <;> omega, bounds_i64 w1, bounds_i64 w2, hr2, hw2, hx2⟩, ?_⟩
      rw [hx, stateSick_bagg]
      simp only [List.map_cons, List.map_nil, stateSick_bcons, stateSick_bnil]
      omega
theorem stateSick_cmdB {H : Type} {henc : TypeId × Value → H} {w : World} {spare : Nat → Bool} {held : Bool} : ∀ fuel cs (x : DataW H × List MemPlace), DataW.trod henc Tryz.prog w 0 spare held fuel 45 cs = some x → ∃ m, cs = cellsC m ∧ (m.v.ends.length ≤ 1099511627776 → cmdAt w m) ∧ 1 + m.v.ends.length ≤ Rows.uptoBulk x.1 := by
  intro fuel cs x h
  obtain ⟨hl, ys, hyl, hx, hf⟩ := trod_tabB stateSick_T45 h
  rw [stateSick_c45] at hl
  match cs, hl with
  | [a0, a1, a2, a3, a4, a5, a6, a7, a8, a9, a10, a11], _ =>
    match ys, hyl with
    | [y0, y1, y2, y3, y4, y5, y6, y7, y8], _ =>
      obtain ⟨n0, z0, _, h0⟩ := hf 0 (3, 0) rfl
      obtain ⟨n1, z1, _, h1⟩ := hf 1 (3, 1) rfl
      obtain ⟨n2, z2, _, h2⟩ := hf 2 (3, 2) rfl
      obtain ⟨n3, z3, _, h3⟩ := hf 3 (3, 3) rfl
      obtain ⟨n4, z4, _, h4⟩ := hf 4 (3, 4) rfl
      obtain ⟨n5, z5, q5, h5⟩ := hf 5 (43, 5) rfl
      obtain ⟨n6, z6, _, h6⟩ := hf 6 (40, 9) rfl
      obtain ⟨n7, z7, _, h7⟩ := hf 7 (40, 10) rfl
      obtain ⟨n8, z8, _, h8⟩ := hf 8 (4, 11) rfl
      cases q5
      simp only [stateSick_c3, stateSick_c40, stateSick_c43, stateSick_c4, List.drop_zero, List.drop_succ_cons, List.take_succ_cons, List.take_zero] at h0 h1 h2 h3 h4 h5 h6 h7 h8
      obtain ⟨v0, e0, _, w0⟩ := DataW.trod_int stateSick_v3 h0
      obtain ⟨v1, e1, _, w1⟩ := DataW.trod_int stateSick_v3 h1
      obtain ⟨v2, e2, _, w2⟩ := DataW.trod_int stateSick_v3 h2
      obtain ⟨v3, e3, _, w3⟩ := DataW.trod_int stateSick_v3 h3
      obtain ⟨v4, e4, _, w4⟩ := DataW.trod_int stateSick_v3 h4
      obtain ⟨s, p, q, A, es, c, e5, ⟨g1, g2, g3, g4, g5, g6⟩, hb⟩ := stateSick_servB _ _ _ h5
      obtain ⟨v6, e6, _, w6⟩ := DataW.trod_int stateSick_u40 h6
      obtain ⟨v7, e7, _, w7⟩ := DataW.trod_int stateSick_u40 h7
      obtain ⟨v8, e8, _⟩ := DataW.trod_bool stateSick_v4 h8
      simp only [List.cons.injEq, and_true] at e0 e1 e2 e3 e4 e5 e6 e7 e8
      obtain ⟨r1, r2, r3, r4⟩ := e5
      subst e0 e1 e2 e3 e4 r1 r2 r3 r4 e6 e7 e8
      refine ⟨⟨⟨v0, v1, v2, v3, v4, s, p, q, es, v6, v7, v8⟩, A, c⟩, rfl, fun hle => ⟨g4, ⟨bounds_i64 w0, bounds_i64 w1, bounds_i64 w2, bounds_i64 w3, bounds_i64 w4, g1, g2, g3, by have := bounds_u32 w6; constructor <;> (dsimp only; omega), by have := bounds_u32 w7; constructor <;> (dsimp only; omega), g5⟩, hle, g6⟩, ?_⟩
      rw [hx, stateSick_bagg]
      simp only [List.map_cons, List.map_nil, stateSick_bcons, stateSick_bnil]
      (try dsimp only)
      omega
theorem stateSick_le {L : List Cmd} {n : Nat} (h : (L.map fun m : Cmd => 1 + m.v.ends.length).sum ≤ n) : L.length ≤ n ∧ ∀ m ∈ L, m.v.ends.length ≤ n := by
  induction L generalizing n with
  | nil => simp
  | cons a r ih =>
    simp only [List.map_cons, List.sum_cons] at h
    obtain ⟨i1, i2⟩ := ih (Nat.le_refl _)
    refine ⟨by simp only [List.length_cons]; omega, fun m hm => ?_⟩
    rcases List.mem_cons.1 hm with rfl | hm
    · omega
    · have := i2 m hm; omega
theorem totE_of (L : List Cmd) : totE L ≤ 12 * (L.map fun m : Cmd => 1 + m.v.ends.length).sum := by
  induction L with
  | nil => simp [totE]
  | cons a r ih => simp only [totE, List.map_cons, List.sum_cons] at ih ⊢; omega
theorem stateSick_gT : Tryz.prog.globalNamed "math/bits.deBruijn64tab" = some 0 := by kernel_rfl
theorem stateSick_gTT : (Tryz.prog.globals[0]?).map (·.type) = some 202 := by kernel_rfl
theorem stateSick_gU : Tryz.prog.underlying 202 = some (.array 64 5) := by kernel_rfl
theorem stateSick_gE : Tryz.prog.underlying 5 = some (.int .u8) := by kernel_rfl
theorem stateSick_gc5 : Tryz.prog.cellsOf 5 = 1 := by kernel_rfl
theorem stateSick_gcT : Tryz.prog.cellsOf 202 = 64 := by kernel_rfl
theorem stateSick_laid {W : World} (h : laidMetH Tryz.prog Rows.stateSickUptoRow.laid W) : Rd W 1 (encI .u8) (some ⟨0, 0, none⟩) dbTab := by
  have h1 : Lib.TabIs Tryz.prog W "math/bits.deBruijn64tab" .u8 dbTab := Lib.tabIs_of_head (rest := []) stateSick_gT stateSick_gTT stateSick_gU stateSick_gE stateSick_gc5 stateSick_gcT h
  refine ⟨fun i x hx => ⟨0, 0, rfl, fun j u hu => ?_⟩⟩
  have hi : i < dbTab.length := (List.getElem?_eq_some_iff.1 hx).1
  have h2 := h1.cell stateSick_gT i hi
  cases j with
  | zero =>
    simp [encI] at hu
    subst hu
    have h3 : dbTab.getD i 0 = x := by simp [List.getD, hx]
    rw [h3] at h2
    simpa using h2
  | succ j => simp [encI] at hu
noncomputable def stateSick_laidW (os : Os) : World :=
  let w0 := World.holding Tryz.prog os ⟨#[], #[], []⟩
  { w0 with heap := w0.heap.modify 0 fun
      | .cells _ t frozen => .cells (dbTab.map (Value.int .u8)).toArray t frozen
      | o => o }
theorem stateSick_laidM (os : Os) (args : Array Value) : laidMet Tryz.prog Rows.stateSickUptoRow.laid ((stateSick_laidW os).forCall (fun _ _ => 0) ⟨#[], args, []⟩).memory :=
  laidMet_of_run' 8 (by kernel_rfl) (by kernel_rfl)
theorem stateSick_reads (os : Os) {H : Type} (enc : TypeId × Value → H) : ∃ places, DataW.whole enc Tryz.prog ((stateSick_laidW os).forCall (fun _ _ => 0) ⟨#[], #[(.slice none 0 0 : Value), (.int .u32 0 : Value), (.int .i64 0 : Value)], []⟩).memory Tryz.f4.params.toList Rows.stateSickSpec.vars false #[(.slice none 0 0 : Value), (.int .u32 0 : Value), (.int .i64 0 : Value)].toList 8 = some ([.nil, .lit (.int .u32 0), .lit (.int .i64 0)], [], places) :=
  ⟨[], by kernel_rfl⟩
set_option maxRecDepth 100000 in
theorem stateSick_lifted (os : Os) (started : os.Started) (H : Type) (enc : TypeId × Value → H) (F0 : Stop.Interp) :
    ReturnsInHanded {} Tryz.checked os 4 .any ((Rows.OpenSpec.upto Rows.stateSickSpec).preRow enc Tryz.prog Tryz.f4 Rows.stateSickUptoRow.domain false Rows.stateSickUptoRow.laid) (((Rows.OpenSpec.upto Rows.stateSickSpec).at F0).post enc Tryz.prog Tryz.f4 false true false false) := by
  obtain ⟨places, hx⟩ := stateSick_reads os enc
  refine returnsInHanded_of_row (C := Tryz.checked) (s := (Rows.OpenSpec.upto Rows.stateSickSpec)) stateSick_own started (by kernel_rfl) Tryz.func4
    (witness_row_at (enc := enc) (C := Tryz.checked) false (stateSick_laidW os) #[.slice none 0 0, .int .u32 0, .int .i64 0] rfl (by kernel_rfl) (by kernel_rfl) (by kernel_rfl)
      (OpenSpec.preRow_of_cond 8 hx (by kernel_rfl) (fun k hk => by cases hk; kernel_rfl) (by kernel_rfl) (stateSick_laidM os _))) ?_
  intro W base args ds gs before hval0 hW _ hcond _ hL _ _
  have hk := hcond _ rfl
  have hval : ∀ (j : Nat) t v, Tryz.f4.params[j]? = some t → args[j]? = some v → Value.okWide Tryz.prog W .any base t v := hval0
  have hW' := hW
  obtain ⟨p, q, hA0, hV0, rfl, hfz, hnd⟩ := hW
  have hA : DataW.TrodAll enc Tryz.prog W 0 (fun _ => true) true Tryz.f4.params.toList args.toList ds p := hA0
  have hV : DataW.TrodVars enc Tryz.prog W (fun _ => true) [] gs q := hV0
  rw [stateSick_params] at hA hval
  obtain ⟨v0, vs0, d0, ds0, p0, q0, hargs, rfl, rfl, h0, r0⟩ := trodAll_cons hA
  obtain ⟨v1, vs1, d1, ds1, p1, q1, rfl, rfl, rfl, h1, r1⟩ := trodAll_cons r0
  obtain ⟨v2, vs2, d2, ds2, p2, q2, rfl, rfl, rfl, h2, r2⟩ := trodAll_cons r1
  obtain ⟨rfl, rfl, rfl⟩ := trodAll_nil r2
  obtain rfl : args = #[v0, v1, v2] := Array.ext' (by simpa using hargs)
  obtain ⟨rfl, rfl⟩ := trodVars_none hV
  have h0k := h0
  obtain ⟨dip, rfl, rfl, rfl, w1⟩ := open_int stateSick_u40 (hval 1 40 v1 rfl rfl) h1
  obtain ⟨now, rfl, rfl, rfl, w2⟩ := open_int stateSick_u3 (hval 2 3 v2 rfl rfl) h2
  clear hA0 hval0
  have hlt0 : ∀ x ∈ p0, x.block < W.heap.size := fun x hx => hW'.lt x (by simp [hx])
  obtain ⟨a0_, l0_, c0_, rfl⟩ := okWide_slice stateSick_b22 (hval 0 22 v0 rfl rfl)
  obtain ⟨fuel0, hf0⟩ := h0
  obtain ⟨A0, L, C0, hcs0, hr0, hok0, hlc0, hcm0, hbk0⟩ := opn_sliceB (wt := fun m : Cmd => 1 + m.v.ends.length) (B := Rows.uptoBulk) (BA := Rows.uptoBulkAll) stateSick_bnil stateSick_bcons stateSick_bslice stateSick_b22 stateSick_c45 (by decide) cellsC_len stateSick_cmdB hf0
  simp only [Value.cells, List.cons.injEq, Value.slice.injEq, and_true] at hcs0
  obtain ⟨rfl, rfl, rfl⟩ := hcs0
  have hbb0 : (L.map fun m : Cmd => 1 + m.v.ends.length).sum ≤ 1048576 := by
    have q_ := hk
    unfold Rows.uptoSmall at q_
    rw [decide_eq_true_eq] at q_
    simp only [List.append_nil, stateSick_bcons, stateSick_bnil] at q_
    have z_ : (L.map fun m : Cmd => 1 + m.v.ends.length).sum ≤ Rows.uptoBulk d0 := hbk0
    omega
  obtain ⟨hll0, hle0⟩ := stateSick_le hbb0
  have htot0 : totE L ≤ 1099511627776 := Nat.le_trans (totE_of L) (by omega)
  refine (StateSick_ct a0_ c0_ L dip now W hr0 (fun m hm => hok0 m hm (by have := hle0 m hm; omega)) htot0 (by have := bounds_u32 w1; constructor <;> omega) (bounds_i64 w2) hlc0 (stateSick_laid hL)).mono fun e W' ⟨he, hg⟩ => ?_
  subst he
  have e1 : ((Rows.OpenSpec.upto Rows.stateSickSpec).at F0).fn H ([d0, .lit (.int .u32 dip), .lit (.int .i64 now)] ++ []) = { results := [.lit (.bool true)], args := [d0, .lit (.int .u32 dip), .lit (.int .i64 now)] } := rfl
  refine ⟨_, rfl, _, _, _, [], (p0 ++ ([] ++ ([]))), [], by have q_ := hW'; simp at q_ ⊢; exact q_, ?_, ?_, ?_, hg.below.frame _, fun h => by cases h⟩
  · rw [e1]; exact trodAll_mk1 (shut_bool stateSick_und4 true)
  · rw [e1]; exact trodAll_mk3 (Below.trod stateSick_laidOut (by kernel_rfl) (of_decide_eq_true (by kernel_rfl)) h0k hg.below hlt0) (shut_int stateSick_u40 w1) (shut_int stateSick_u3 w2)
  · rw [e1]; rfl
theorem stateSick_holds : Rows.StateSickUptoSaid :=
  OpenClaim.holds_of_cond 4 Tryz.f4 rfl rfl rfl rfl rfl rfl rfl ⟨rfl, rfl, rfl, rfl, rfl⟩ rfl rfl rfl rfl rfl (by kernel_rfl) Tryz.func4 (by kernel_rfl)
    (of_decide_eq_true (by kernel_rfl)) (by unfold Func.isWrapper; first | (rw [if_pos (by decide +kernel)]; kernel_rfl) | (rw [if_neg (of_decide_eq_false (by kernel_rfl))]; exact ⟨rfl, rfl⟩))
    (fun os started H enc _ F0 => by rw [OpenClaim.pre_eq_preRow]; exact stateSick_lifted os started H enc F0)
theorem stateSick_plain (f : FuncId) (fn : Func) (hf : Tryz.pinned.checked.prog.funcNamed "towpath/towpathlaw16.StateSick" = some f) (hfn : Tryz.pinned.checked.prog.funcs[f]? = some fn) :
    Rows.stateSickUptoCard.stood.looks = Tryz.pinned.checked.prog.looks [] ∧ ∀ (j : Nat) t, fn.params[j]? = some t → Tryz.pinned.checked.prog.wantsStandIn t = false := by
  obtain rfl : f = 4 := Option.some.inj ((show Tryz.prog.funcNamed "towpath/towpathlaw16.StateSick" = some 4 by kernel_rfl).symm.trans hf) |>.symm
  obtain rfl : fn = Tryz.f4 := (Option.some.inj (Tryz.func4.symm.trans hfn)).symm
  refine ⟨by kernel_rfl, fun j t ht => ?_⟩
  rw [stateSick_params] at ht
  rcases j with _ | _ | _ | j
  · simp at ht; subst ht; exact (show Tryz.prog.wantsStandIn 22 = false by kernel_rfl)
  · simp at ht; subst ht; exact (show Tryz.prog.wantsStandIn 40 = false by kernel_rfl)
  · simp at ht; subst ht; exact (show Tryz.prog.wantsStandIn 3 = false by kernel_rfl)
  · simp at ht
theorem stateSick_card : Rows.StateSickUptoCardSaid :=
  Claim7.holds_tied_plain_at .later [] _ _ _ _ stateSick_holds (fun _ h => by cases h) (by kernel_rfl) (fun _ h => by cases h) stateSickUpto_row_tie rfl ⟨rfl, rfl⟩ (by kernel_rfl) rfl stateSick_plain (by kernel_rfl)
#print axioms stateSick_card
end Go.Proofs.YtfligklljkcbfaaGreatDoor
