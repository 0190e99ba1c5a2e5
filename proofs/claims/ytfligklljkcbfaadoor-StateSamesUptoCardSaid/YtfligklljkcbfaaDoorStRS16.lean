/- towpathlaw16.StateSames returns true for every input whose bulk is at most 1048576, and changes no argument: the given statement. Conditions: those of the given row alone. -/
import Derived.Test.YtfligklljkcbfaaDoorRows
import Derived.Test.YtfligklljkcbfaaDoorChecked
import Derived.Test.YtfligklljkcbfaaDoorStX16
import Derived.Test.YtfligklljkcbfaaDoorTwBulk
import Derived.Test.YtfligklljkcbfaaDoorTie
import Derived.Test.YtfligklljkcbfaaDoorCards
import Derived.LaidLaws
import Derived.Lib.LaidTab
import Derived.SevenTiedAt
import Derived.Deep.DeepHandedRow
import Derived.Carry
import Derived.JoinedCond
import Derived.ReadAgain
import Derived.ChangeSame
import Derived.ChangeVars
import Derived.JoinedOf
import Derived.RowKit
import Derived.RowKitTokens
import Derived.OpenShut
import Derived.ChangeMaps5
namespace Go.Proofs.YtfligklljkcbfaaDoor
set_option linter.unusedSimpArgs false
set_option linter.unusedVariables false
set_option linter.unusedSectionVars false
open Go Go.ChangeShapes Go.WideShapes Go.RowKit Go.Tw
set_option maxRecDepth 100000
theorem stateSames_own : ownKnob Tryd.prog.godebug = none := by kernel_rfl
theorem stateSames_laidOut : laidOutB Tryd.prog = true := by kernel_rfl
theorem stateSames_params : Tryd.f5.params = #[31, 31] := by kernel_rfl
theorem stateSames_und4 : Tryd.prog.underlying 4 = some .bool := by kernel_rfl

theorem stateSames_bslice {H : Type} (l s : List (DataW H)) : Rows.uptoBulk (.slice l s) = Rows.uptoBulkAll l + Rows.uptoBulkAll s + 1 := by simp [Rows.uptoBulk]
theorem stateSames_bcons {H : Type} (d : DataW H) (r : List (DataW H)) : Rows.uptoBulkAll (d :: r) = Rows.uptoBulk d + Rows.uptoBulkAll r := by simp [Rows.uptoBulkAll]
theorem stateSames_bnil {H : Type} : Rows.uptoBulkAll ([] : List (DataW H)) = 0 := by simp [Rows.uptoBulkAll]
theorem stateSames_bagg {H : Type} (l : List (DataW H)) : Rows.uptoBulk (.agg l) = Rows.uptoBulkAll l + 1 := by simp [Rows.uptoBulk]
theorem stateSames_bint {H : Type} (k : IntKind) (n : Int) : Rows.uptoBulk (.lit (.int k n) : DataW H) = 1 := by simp [Rows.uptoBulk]
theorem stateSames_ones {α : Type} : ∀ l : List α, (l.map fun _ => 1).sum = l.length
  | [] => rfl
  | _ :: r => by rw [List.map_cons, List.sum_cons, stateSames_ones r, List.length_cons]; omega
theorem stateSames_T56 : fieldTab Tryd.prog 56 = some [(3, 0), (3, 1), (3, 2), (3, 3), (3, 4), (52, 5), (41, 9), (41, 10), (4, 11)] := by kernel_rfl
theorem stateSames_T52 : fieldTab Tryd.prog 52 = some [(41, 0), (3, 1), (3, 2), (50, 3)] := by kernel_rfl
theorem stateSames_T64 : fieldTab Tryd.prog 64 = some [(41, 0), (3, 1), (3, 2)] := by kernel_rfl
theorem stateSames_c56 : Tryd.prog.cellsOf 56 = 12 := by kernel_rfl
theorem stateSames_c52 : Tryd.prog.cellsOf 52 = 4 := by kernel_rfl
theorem stateSames_c64 : Tryd.prog.cellsOf 64 = 3 := by kernel_rfl
theorem stateSames_c50 : Tryd.prog.cellsOf 50 = 1 := by kernel_rfl
theorem stateSames_c41 : Tryd.prog.cellsOf 41 = 1 := by kernel_rfl
theorem stateSames_c3 : Tryd.prog.cellsOf 3 = 1 := by kernel_rfl
theorem stateSames_c4 : Tryd.prog.cellsOf 4 = 1 := by kernel_rfl
theorem stateSames_u41 : Tryd.prog.underlying 41 = some (.int .u32) := by kernel_rfl
theorem stateSames_v3 : Tryd.prog.underlying 3 = some (.int .i64) := by kernel_rfl
theorem stateSames_v4 : Tryd.prog.underlying 4 = some .bool := by kernel_rfl
theorem stateSames_b50 : Tryd.prog.underlying 50 = some (.slice 64) := by kernel_rfl
theorem stateSames_b22 : Tryd.prog.underlying 22 = some (.slice 56) := by kernel_rfl
theorem stateSames_endB {H : Type} {henc : TypeId × Value → H} {w : World} {base : Nat} {spare : Nat → Bool} {held : Bool} : ∀ fuel cs (x : DataW H × List MemPlace), DataW.trod henc Tryd.prog w base spare held fuel 64 cs = some x → ∃ e, cs = cellsE e ∧ wfE e ∧ 1 ≤ Rows.uptoBulk x.1 := by
  intro fuel cs x h
  obtain ⟨hl, ys, _, hx, hf⟩ := trod_tabB stateSames_T64 h
  rw [stateSames_c64] at hl
  match cs, hl with
  | [a, b, c], _ =>
    obtain ⟨n0, z0, _, h0⟩ := hf 0 (41, 0) rfl
    obtain ⟨n1, z1, _, h1⟩ := hf 1 (3, 1) rfl
    obtain ⟨n2, z2, _, h2⟩ := hf 2 (3, 2) rfl
    simp only [stateSames_c3, stateSames_c41, List.drop_zero, List.drop_succ_cons, List.take_succ_cons, List.take_zero] at h0 h1 h2
    obtain ⟨v0, e0, _, w0⟩ := DataW.trod_int stateSames_u41 h0
    obtain ⟨v1, e1, _, w1⟩ := DataW.trod_int stateSames_v3 h1
    obtain ⟨v2, e2, _, w2⟩ := DataW.trod_int stateSames_v3 h2
    simp only [List.cons.injEq, and_true] at e0 e1 e2
    subst e0 e1 e2
    refine ⟨⟨v0, v1, v2⟩, rfl, ⟨by have := bounds_u32 w0; constructor <;> (dsimp only; omega), bounds_i64 w1, bounds_i64 w2⟩, ?_⟩
    rw [hx, stateSames_bagg]; omega
theorem stateSames_servB {H : Type} {henc : TypeId × Value → H} {w : World} {spare : Nat → Bool} {held : Bool} : ∀ fuel cs (x : DataW H × List MemPlace), DataW.trod henc Tryd.prog w 0 spare held fuel 52 cs = some x → ∃ (s p q : Int) (A : Option Addr) (es : List EndV) (c : Nat), cs = [.int .u32 s, .int .i64 p, .int .i64 q, .slice A es.length c] ∧ (isU32 s ∧ isI64 p ∧ isI64 q ∧ Rd w 3 cellsE A es ∧ (∀ e ∈ es, wfE e) ∧ es.length ≤ c) ∧ 1 + es.length ≤ Rows.uptoBulk x.1 := by
  intro fuel cs x h
  obtain ⟨hl, ys, hyl, hx, hf⟩ := trod_tabB stateSames_T52 h
  rw [stateSames_c52] at hl
  match cs, hl with
  | [a, b, c, d], _ =>
    match ys, hyl with
    | [y0, y1, y2, y3], _ =>
      obtain ⟨n0, z0, _, h0⟩ := hf 0 (41, 0) rfl
      obtain ⟨n1, z1, _, h1⟩ := hf 1 (3, 1) rfl
      obtain ⟨n2, z2, _, h2⟩ := hf 2 (3, 2) rfl
      obtain ⟨n3, z3, q3, h3⟩ := hf 3 (50, 3) rfl
      cases q3
      simp only [stateSames_c3, stateSames_c41, stateSames_c50, List.drop_zero, List.drop_succ_cons, List.take_succ_cons, List.take_zero] at h0 h1 h2 h3
      obtain ⟨v0, e0, _, w0⟩ := DataW.trod_int stateSames_u41 h0
      obtain ⟨v1, e1, _, w1⟩ := DataW.trod_int stateSames_v3 h1
      obtain ⟨v2, e2, _, w2⟩ := DataW.trod_int stateSames_v3 h2
      obtain ⟨A2, x2, c2', e3, hr2, hw2, hx2, hm2, hb2⟩ := opn_sliceB (wt := fun _ : EndV => 1) (B := Rows.uptoBulk) (BA := Rows.uptoBulkAll) stateSames_bnil stateSames_bcons stateSames_bslice stateSames_b50 stateSames_c64 (by decide) cellsE_len stateSames_endB h3
      rw [stateSames_ones] at hb2
      simp only [List.cons.injEq, and_true] at e0 e1 e2 e3
      subst e0 e1 e2 e3
      refine ⟨v0, v1, v2, A2, x2, c2', rfl, ⟨by have := bounds_u32 w0; constructor <;> omega, bounds_i64 w1, bounds_i64 w2, hr2, hw2, hx2⟩, ?_⟩
      rw [hx, stateSames_bagg]
      simp only [List.map_cons, List.map_nil, stateSames_bcons, stateSames_bnil]
      omega
theorem stateSames_cmdB {H : Type} {henc : TypeId × Value → H} {w : World} {spare : Nat → Bool} {held : Bool} : ∀ fuel cs (x : DataW H × List MemPlace), DataW.trod henc Tryd.prog w 0 spare held fuel 56 cs = some x → ∃ m, cs = cellsC m ∧ (m.v.ends.length ≤ 1099511627776 → cmdAt w m) ∧ 1 + m.v.ends.length ≤ Rows.uptoBulk x.1 := by
  intro fuel cs x h
  obtain ⟨hl, ys, hyl, hx, hf⟩ := trod_tabB stateSames_T56 h
  rw [stateSames_c56] at hl
  match cs, hl with
  | [a0, a1, a2, a3, a4, a5, a6, a7, a8, a9, a10, a11], _ =>
    match ys, hyl with
    | [y0, y1, y2, y3, y4, y5, y6, y7, y8], _ =>
      obtain ⟨n0, z0, _, h0⟩ := hf 0 (3, 0) rfl
      obtain ⟨n1, z1, _, h1⟩ := hf 1 (3, 1) rfl
      obtain ⟨n2, z2, _, h2⟩ := hf 2 (3, 2) rfl
      obtain ⟨n3, z3, _, h3⟩ := hf 3 (3, 3) rfl
      obtain ⟨n4, z4, _, h4⟩ := hf 4 (3, 4) rfl
      obtain ⟨n5, z5, q5, h5⟩ := hf 5 (52, 5) rfl
      obtain ⟨n6, z6, _, h6⟩ := hf 6 (41, 9) rfl
      obtain ⟨n7, z7, _, h7⟩ := hf 7 (41, 10) rfl
      obtain ⟨n8, z8, _, h8⟩ := hf 8 (4, 11) rfl
      cases q5
      simp only [stateSames_c3, stateSames_c41, stateSames_c52, stateSames_c4, List.drop_zero, List.drop_succ_cons, List.take_succ_cons, List.take_zero] at h0 h1 h2 h3 h4 h5 h6 h7 h8
      obtain ⟨v0, e0, _, w0⟩ := DataW.trod_int stateSames_v3 h0
      obtain ⟨v1, e1, _, w1⟩ := DataW.trod_int stateSames_v3 h1
      obtain ⟨v2, e2, _, w2⟩ := DataW.trod_int stateSames_v3 h2
      obtain ⟨v3, e3, _, w3⟩ := DataW.trod_int stateSames_v3 h3
      obtain ⟨v4, e4, _, w4⟩ := DataW.trod_int stateSames_v3 h4
      obtain ⟨s, p, q, A, es, c, e5, ⟨g1, g2, g3, g4, g5, g6⟩, hb⟩ := stateSames_servB _ _ _ h5
      obtain ⟨v6, e6, _, w6⟩ := DataW.trod_int stateSames_u41 h6
      obtain ⟨v7, e7, _, w7⟩ := DataW.trod_int stateSames_u41 h7
      obtain ⟨v8, e8, _⟩ := DataW.trod_bool stateSames_v4 h8
      simp only [List.cons.injEq, and_true] at e0 e1 e2 e3 e4 e5 e6 e7 e8
      obtain ⟨r1, r2, r3, r4⟩ := e5
      subst e0 e1 e2 e3 e4 r1 r2 r3 r4 e6 e7 e8
      refine ⟨⟨⟨v0, v1, v2, v3, v4, s, p, q, es, v6, v7, v8⟩, A, c⟩, rfl, fun hle => ⟨g4, ⟨bounds_i64 w0, bounds_i64 w1, bounds_i64 w2, bounds_i64 w3, bounds_i64 w4, g1, g2, g3, by have := bounds_u32 w6; constructor <;> (dsimp only; omega), by have := bounds_u32 w7; constructor <;> (dsimp only; omega), g5⟩, hle, g6⟩, ?_⟩
      rw [hx, stateSames_bagg]
      simp only [List.map_cons, List.map_nil, stateSames_bcons, stateSames_bnil]
      (try dsimp only)
      omega
theorem stateSames_le {L : List Cmd} {n : Nat} (h : (L.map fun m : Cmd => 1 + m.v.ends.length).sum ≤ n) : L.length ≤ n ∧ ∀ m ∈ L, m.v.ends.length ≤ n := by
  induction L generalizing n with
  | nil => simp
  | cons a r ih =>
    simp only [List.map_cons, List.sum_cons] at h
    obtain ⟨i1, i2⟩ := ih (Nat.le_refl _)
    refine ⟨by simp only [List.length_cons]; omega, fun m hm => ?_⟩
    rcases List.mem_cons.1 hm with rfl | hm
    · omega
    · have := i2 m hm; omega
theorem stateSames_T31 : fieldTab Tryd.prog 31 = some [(3, 0), (3, 1), (26, 2), (27, 3), (28, 4), (29, 5)] := by kernel_rfl
theorem stateSames_T54 : fieldTab Tryd.prog 54 = some [(41, 0), (41, 1)] := by kernel_rfl
theorem stateSames_T43 : fieldTab Tryd.prog 43 = some [(41, 0), (3, 1), (41, 2), (3, 3)] := by kernel_rfl
theorem stateSames_c31 : Tryd.prog.cellsOf 31 = 6 := by kernel_rfl
theorem stateSames_c54 : Tryd.prog.cellsOf 54 = 2 := by kernel_rfl
theorem stateSames_c43 : Tryd.prog.cellsOf 43 = 4 := by kernel_rfl
theorem stateSames_c26 : Tryd.prog.cellsOf 26 = 1 := by kernel_rfl
theorem stateSames_c27 : Tryd.prog.cellsOf 27 = 1 := by kernel_rfl
theorem stateSames_c28 : Tryd.prog.cellsOf 28 = 1 := by kernel_rfl
theorem stateSames_c29 : Tryd.prog.cellsOf 29 = 1 := by kernel_rfl
theorem stateSames_b26 : Tryd.prog.underlying 26 = some (.slice 52) := by kernel_rfl
theorem stateSames_b27 : Tryd.prog.underlying 27 = some (.slice 54) := by kernel_rfl
theorem stateSames_b28 : Tryd.prog.underlying 28 = some (.slice 41) := by kernel_rfl
theorem stateSames_b29 : Tryd.prog.underlying 29 = some (.slice 43) := by kernel_rfl
theorem stateSames_struct : ∃ fs, Tryd.prog.underlying 31 = some (.struct fs) := by
  have h := stateSames_T31
  unfold fieldTab at h
  split at h
  · rename_i fs hu; exact ⟨fs, hu⟩
  · cases h
theorem stateSames_snatB {H : Type} {henc : TypeId × Value → H} {w : World} {base : Nat} {spare : Nat → Bool} {held : Bool} : ∀ fuel cs (x : DataW H × List MemPlace), DataW.trod henc Tryd.prog w base spare held fuel 54 cs = some x → ∃ e, cs = cellsN e ∧ True ∧ 1 ≤ Rows.uptoBulk x.1 := by
  intro fuel cs x h
  obtain ⟨hl, ys, _, hx, hf⟩ := trod_tabB stateSames_T54 h
  rw [stateSames_c54] at hl
  match cs, hl with
  | [a, b], _ =>
    obtain ⟨n0, z0, _, h0⟩ := hf 0 (41, 0) rfl
    obtain ⟨n1, z1, _, h1⟩ := hf 1 (41, 1) rfl
    simp only [stateSames_c41, List.drop_zero, List.drop_succ_cons, List.take_succ_cons, List.take_zero] at h0 h1
    obtain ⟨v0, e0, _, w0⟩ := DataW.trod_int stateSames_u41 h0
    obtain ⟨v1, e1, _, w1⟩ := DataW.trod_int stateSames_u41 h1
    simp only [List.cons.injEq, and_true] at e0 e1
    subst e0 e1
    refine ⟨⟨v0, v1⟩, rfl, trivial, ?_⟩
    rw [hx, stateSames_bagg]; omega
theorem stateSames_leaseB {H : Type} {henc : TypeId × Value → H} {w : World} {base : Nat} {spare : Nat → Bool} {held : Bool} : ∀ fuel cs (x : DataW H × List MemPlace), DataW.trod henc Tryd.prog w base spare held fuel 43 cs = some x → ∃ e, cs = encL e ∧ True ∧ 1 ≤ Rows.uptoBulk x.1 := by
  intro fuel cs x h
  obtain ⟨hl, ys, _, hx, hf⟩ := trod_tabB stateSames_T43 h
  rw [stateSames_c43] at hl
  match cs, hl with
  | [a, b, c, d], _ =>
    obtain ⟨n0, z0, _, h0⟩ := hf 0 (41, 0) rfl
    obtain ⟨n1, z1, _, h1⟩ := hf 1 (3, 1) rfl
    obtain ⟨n2, z2, _, h2⟩ := hf 2 (41, 2) rfl
    obtain ⟨n3, z3, _, h3⟩ := hf 3 (3, 3) rfl
    simp only [stateSames_c41, stateSames_c3, List.drop_zero, List.drop_succ_cons, List.take_succ_cons, List.take_zero] at h0 h1 h2 h3
    obtain ⟨v0, e0, _, w0⟩ := DataW.trod_int stateSames_u41 h0
    obtain ⟨v1, e1, _, w1⟩ := DataW.trod_int stateSames_v3 h1
    obtain ⟨v2, e2, _, w2⟩ := DataW.trod_int stateSames_u41 h2
    obtain ⟨v3, e3, _, w3⟩ := DataW.trod_int stateSames_v3 h3
    simp only [List.cons.injEq, and_true] at e0 e1 e2 e3
    subst e0 e1 e2 e3
    refine ⟨⟨v0, v1, v2, v3⟩, rfl, trivial, ?_⟩
    rw [hx, stateSames_bagg]; omega
theorem stateSames_addrB {H : Type} {henc : TypeId × Value → H} {w : World} {base : Nat} {spare : Nat → Bool} {held : Bool} : ∀ fuel cs (x : DataW H × List MemPlace), DataW.trod henc Tryd.prog w base spare held fuel 41 cs = some x → ∃ e, cs = Go.Tw.encI .u32 e ∧ isU32 e ∧ 1 ≤ Rows.uptoBulk x.1 := by
  intro fuel cs x h
  obtain ⟨v, e0, e1, w0⟩ := DataW.trod_int stateSames_u41 h
  exact ⟨v, e0, by have := bounds_u32 w0; constructor <;> omega, by subst e1; rw [stateSames_bint]; exact Nat.le_refl _⟩
theorem stateSames_svcB {H : Type} {henc : TypeId × Value → H} {w : World} {spare : Nat → Bool} {held : Bool} : ∀ fuel cs (x : DataW H × List MemPlace), DataW.trod henc Tryd.prog w 0 spare held fuel 52 cs = some x → ∃ s : Svc, cs = cellsS s ∧ (s.v.ends.length ≤ 1099511627776 → svcAt w s) ∧ 1 + s.v.ends.length ≤ Rows.uptoBulk x.1 := by
  intro fuel cs x h
  obtain ⟨s, p, q, A, es, c, rfl, ⟨h1, h2, h3, h4, h5, h6⟩, h7⟩ := stateSames_servB fuel cs x h
  exact ⟨⟨⟨s, p, q, es⟩, A, c⟩, rfl, fun hl => ⟨h4, h5, h1, h2, h3, hl, h6⟩, h7⟩
theorem stateSames_les {L : List Svc} {n : Nat} (h : (L.map fun m : Svc => 1 + m.v.ends.length).sum ≤ n) : L.length ≤ n ∧ ∀ m ∈ L, m.v.ends.length ≤ n := by
  induction L generalizing n with
  | nil => simp
  | cons a r ih =>
    simp only [List.map_cons, List.sum_cons] at h
    obtain ⟨i1, i2⟩ := ih (Nat.le_refl _)
    refine ⟨by simp only [List.length_cons]; omega, fun m hm => ?_⟩
    rcases List.mem_cons.1 hm with rfl | hm
    · omega
    · have := i2 m hm; omega
theorem stateSames_cfgB {H : Type} {henc : TypeId × Value → H} {w : World} {spare : Nat → Bool} {held : Bool} {fuel : Nat} {cs : List Value} {x : DataW H × List MemPlace} (h : DataW.trod henc Tryd.prog w 0 spare held fuel 31 cs = some x) :
    ∃ (ce cn : Int) (AS : Option Addr) (cS : Nat) (xs : List Svc) (AN : Option Addr) (cN : Nat) (ns : List SnatV) (AK : Option Addr) (cK : Nat) (ks : List Int) (AL : Option Addr) (cL : Nat) (ls : List Lease),
      cs = [.int .i64 ce, .int .i64 cn, .slice AS xs.length cS, .slice AN ns.length cN, .slice AK ks.length cK, .slice AL ls.length cL] ∧ (isI64 ce ∧ isI64 cn ∧ Rd w 4 cellsS AS xs ∧ (∀ s ∈ xs, s.v.ends.length ≤ 1099511627776 → svcAt w s) ∧ Rd w 2 cellsN AN ns ∧ Rd w 1 (Go.Tw.encI .u32) AK ks ∧ (∀ k ∈ ks, isU32 k) ∧ Rd w 4 encL AL ls) ∧
      (xs.map fun m : Svc => 1 + m.v.ends.length).sum + ns.length + ks.length + ls.length ≤ Rows.uptoBulk x.1 := by
  obtain ⟨hl, ys, hyl, hx, hf⟩ := trod_tabB stateSames_T31 h
  rw [stateSames_c31] at hl
  match cs, hl with
  | [a0, a1, a2, a3, a4, a5], _ =>
    match ys, hyl with
    | [y0, y1, y2, y3, y4, y5], _ =>
      obtain ⟨n0, z0, _, h0⟩ := hf 0 (3, 0) rfl
      obtain ⟨n1, z1, _, h1⟩ := hf 1 (3, 1) rfl
      obtain ⟨n2, z2, q2, h2⟩ := hf 2 (26, 2) rfl
      obtain ⟨n3, z3, q3, h3⟩ := hf 3 (27, 3) rfl
      obtain ⟨n4, z4, q4, h4⟩ := hf 4 (28, 4) rfl
      obtain ⟨n5, z5, q5, h5⟩ := hf 5 (29, 5) rfl
      cases q2
      cases q3
      cases q4
      cases q5
      simp only [stateSames_c3, stateSames_c26, stateSames_c27, stateSames_c28, stateSames_c29, List.drop_zero, List.drop_succ_cons, List.take_succ_cons, List.take_zero] at h0 h1 h2 h3 h4 h5
      obtain ⟨v0, e0, _, w0⟩ := DataW.trod_int stateSames_v3 h0
      obtain ⟨v1, e1, _, w1⟩ := DataW.trod_int stateSames_v3 h1
      obtain ⟨AS, xs, cS, e2, hr2, hw2, _, _, hb2⟩ := opn_sliceB (wt := fun m : Svc => 1 + m.v.ends.length) (B := Rows.uptoBulk) (BA := Rows.uptoBulkAll) stateSames_bnil stateSames_bcons stateSames_bslice stateSames_b26 stateSames_c52 (by decide) cellsS_len stateSames_svcB h2
      obtain ⟨AN, ns, cN, e3, hr3, _, _, _, hb3⟩ := opn_sliceB (wt := fun _ : SnatV => 1) (B := Rows.uptoBulk) (BA := Rows.uptoBulkAll) stateSames_bnil stateSames_bcons stateSames_bslice stateSames_b27 stateSames_c54 (by decide) cellsN_len stateSames_snatB h3
      obtain ⟨AK, ks, cK, e4, hr4, hw4, _, _, hb4⟩ := opn_sliceB (wt := fun _ : Int => 1) (B := Rows.uptoBulk) (BA := Rows.uptoBulkAll) stateSames_bnil stateSames_bcons stateSames_bslice stateSames_b28 stateSames_c41 (by decide) (Go.Tw.encI_len _) stateSames_addrB h4
      obtain ⟨AL, ls, cL, e5, hr5, _, _, _, hb5⟩ := opn_sliceB (wt := fun _ : Lease => 1) (B := Rows.uptoBulk) (BA := Rows.uptoBulkAll) stateSames_bnil stateSames_bcons stateSames_bslice stateSames_b29 stateSames_c43 (by decide) encL_len stateSames_leaseB h5
      rw [stateSames_ones] at hb3 hb4 hb5
      simp only [List.cons.injEq, and_true] at e0 e1 e2 e3 e4 e5
      subst e0 e1 e2 e3 e4 e5
      refine ⟨v0, v1, AS, cS, xs, AN, cN, ns, AK, cK, ks, AL, cL, ls, rfl, ⟨bounds_i64 w0, bounds_i64 w1, hr2, hw2, hr3, hr4, hw4, hr5⟩, ?_⟩
      rw [hx, stateSames_bagg]
      simp only [List.map_cons, List.map_nil, stateSames_bcons, stateSames_bnil]
      omega
theorem stateSames_gT : Tryd.prog.globalNamed "math/bits.deBruijn64tab" = some 0 := by kernel_rfl
theorem stateSames_gTT : (Tryd.prog.globals[0]?).map (·.type) = some 151 := by kernel_rfl
theorem stateSames_gU : Tryd.prog.underlying 151 = some (.array 64 5) := by kernel_rfl
theorem stateSames_gE : Tryd.prog.underlying 5 = some (.int .u8) := by kernel_rfl
theorem stateSames_gc5 : Tryd.prog.cellsOf 5 = 1 := by kernel_rfl
theorem stateSames_gcT : Tryd.prog.cellsOf 151 = 64 := by kernel_rfl
theorem stateSames_laid {W : World} (h : laidMetH Tryd.prog Rows.stateSamesUptoRow.laid W) : Rd W 1 (encI .u8) (some ⟨0, 0, none⟩) dbTab := by
  have h1 : Lib.TabIs Tryd.prog W "math/bits.deBruijn64tab" .u8 dbTab := Lib.tabIs_of_head (rest := []) stateSames_gT stateSames_gTT stateSames_gU stateSames_gE stateSames_gc5 stateSames_gcT h
  refine ⟨fun i x hx => ⟨0, 0, rfl, fun j u hu => ?_⟩⟩
  have hi : i < dbTab.length := (List.getElem?_eq_some_iff.1 hx).1
  have h2 := h1.cell stateSames_gT i hi
  cases j with
  | zero =>
    simp [encI] at hu
    subst hu
    have h3 : dbTab.getD i 0 = x := by simp [List.getD, hx]
    rw [h3] at h2
    simpa using h2
  | succ j => simp [encI] at hu
noncomputable def stateSames_laidW (os : Os) : World :=
  let w0 := World.holding Tryd.prog os ⟨#[], #[], []⟩
  { w0 with heap := w0.heap.modify 0 fun
      | .cells _ t frozen => .cells (dbTab.map (Value.int .u8)).toArray t frozen
      | o => o }
theorem stateSames_laidM (os : Os) (args : Array Value) : laidMet Tryd.prog Rows.stateSamesUptoRow.laid ((stateSames_laidW os).forCall (fun _ _ => 0) ⟨#[], args, []⟩).memory :=
  laidMet_of_run' 8 (by kernel_rfl) (by kernel_rfl)
theorem stateSames_reads (os : Os) {H : Type} (enc : TypeId × Value → H) : ∃ places, DataW.whole enc Tryd.prog ((stateSames_laidW os).forCall (fun _ _ => 0) ⟨#[], #[(.agg #[.int .i64 0, .int .i64 0, .slice none 0 0, .slice none 0 0, .slice none 0 0, .slice none 0 0] : Value), (.agg #[.int .i64 0, .int .i64 0, .slice none 0 0, .slice none 0 0, .slice none 0 0, .slice none 0 0] : Value)], []⟩).memory Tryd.f5.params.toList Rows.stateSamesSpec.vars false #[(.agg #[.int .i64 0, .int .i64 0, .slice none 0 0, .slice none 0 0, .slice none 0 0, .slice none 0 0] : Value), (.agg #[.int .i64 0, .int .i64 0, .slice none 0 0, .slice none 0 0, .slice none 0 0, .slice none 0 0] : Value)].toList 8 = some ([.agg [.lit (.int .i64 0), .lit (.int .i64 0), .nil, .nil, .nil, .nil], .agg [.lit (.int .i64 0), .lit (.int .i64 0), .nil, .nil, .nil, .nil]], [], places) :=
  ⟨[], by kernel_rfl⟩
set_option maxRecDepth 100000 in
theorem stateSames_lifted (os : Os) (started : os.Started) (H : Type) (enc : TypeId × Value → H) (F0 : Stop.Interp) :
    ReturnsInHanded {} Tryd.checked os 5 .any ((Rows.OpenSpec.upto Rows.stateSamesSpec).preRow enc Tryd.prog Tryd.f5 Rows.stateSamesUptoRow.domain false Rows.stateSamesUptoRow.laid) (((Rows.OpenSpec.upto Rows.stateSamesSpec).at F0).post enc Tryd.prog Tryd.f5 false true false false) := by
  obtain ⟨places, hx⟩ := stateSames_reads os enc
  refine returnsInHanded_of_row (C := Tryd.checked) (s := (Rows.OpenSpec.upto Rows.stateSamesSpec)) stateSames_own started (by kernel_rfl) Tryd.func5
    (witness_row_at (enc := enc) (C := Tryd.checked) false (stateSames_laidW os) #[.agg #[.int .i64 0, .int .i64 0, .slice none 0 0, .slice none 0 0, .slice none 0 0, .slice none 0 0], .agg #[.int .i64 0, .int .i64 0, .slice none 0 0, .slice none 0 0, .slice none 0 0, .slice none 0 0]] rfl (by kernel_rfl) (by kernel_rfl) (by kernel_rfl)
      (OpenSpec.preRow_of_cond 8 hx (by kernel_rfl) (fun k hk => by cases hk; kernel_rfl) (by kernel_rfl) (stateSames_laidM os _))) ?_
  intro W base args ds gs before hval0 hW _ hcond _ hL _ _
  have hk := hcond _ rfl
  have hval : ∀ (j : Nat) t v, Tryd.f5.params[j]? = some t → args[j]? = some v → Value.okWide Tryd.prog W .any base t v := hval0
  have hW' := hW
  obtain ⟨p, q, hA0, hV0, rfl, hfz, hnd⟩ := hW
  have hA : DataW.TrodAll enc Tryd.prog W 0 (fun _ => true) true Tryd.f5.params.toList args.toList ds p := hA0
  have hV : DataW.TrodVars enc Tryd.prog W (fun _ => true) [] gs q := hV0
  rw [stateSames_params] at hA hval
  obtain ⟨v0, vs0, d0, ds0, p0, q0, hargs, rfl, rfl, h0, r0⟩ := trodAll_cons hA
  obtain ⟨v1, vs1, d1, ds1, p1, q1, rfl, rfl, rfl, h1, r1⟩ := trodAll_cons r0
  obtain ⟨rfl, rfl, rfl⟩ := trodAll_nil r1
  obtain rfl : args = #[v0, v1] := Array.ext' (by simpa using hargs)
  obtain ⟨rfl, rfl⟩ := trodVars_none hV
  have h0k := h0
  have h1k := h1
  clear hA0 hval0
  have hlt0 : ∀ x ∈ p0, x.block < W.heap.size := fun x hx => hW'.lt x (by simp [hx])
  have hlt1 : ∀ x ∈ p1, x.block < W.heap.size := fun x hx => hW'.lt x (by simp [hx])
  obtain ⟨fs0, hfs0⟩ := stateSames_struct
  obtain ⟨cs0, rfl, _⟩ := okWide_struct hfs0 (hval 0 31 v0 rfl rfl)
  obtain ⟨fuel0, hf0⟩ := h0
  obtain ⟨ce1, cn1, AS1, cS1, xs1, AN1, cN1, ns1, AK1, cK1, ks1, AL1, cL1, ls1, hcs0, ⟨hce1, hcn1, hqS1, hat1, hqN1, hqK1, hku1, hqL1⟩, hbk0⟩ := stateSames_cfgB hf0
  have hcs0' : cs0 = #[.int .i64 ce1, .int .i64 cn1, .slice AS1 xs1.length cS1, .slice AN1 ns1.length cN1, .slice AK1 ks1.length cK1, .slice AL1 ls1.length cL1] := Array.ext' (by simpa [Value.cells] using hcs0)
  subst hcs0'
  have hbb0 : (xs1.map fun m : Svc => 1 + m.v.ends.length).sum + ns1.length + ks1.length + ls1.length ≤ 1048576 := by
    have q_ := hk
    unfold Rows.uptoSmall at q_
    rw [decide_eq_true_eq] at q_
    have q2_ : Rows.uptoBulk d0 + Rows.uptoBulk d1 ≤ 1048576 := by simp only [List.cons_append, List.nil_append, List.append_nil, stateSames_bcons, stateSames_bnil] at q_; omega
    have z_ : _ ≤ Rows.uptoBulk d0 := hbk0
    omega
  obtain ⟨hll0, hle0⟩ := stateSames_les (n := 1048576) (L := xs1) (by omega)
  obtain ⟨fs1, hfs1⟩ := stateSames_struct
  obtain ⟨cs1, rfl, _⟩ := okWide_struct hfs1 (hval 1 31 v1 rfl rfl)
  obtain ⟨fuel1, hf1⟩ := h1
  obtain ⟨ce2, cn2, AS2, cS2, xs2, AN2, cN2, ns2, AK2, cK2, ks2, AL2, cL2, ls2, hcs1, ⟨hce2, hcn2, hqS2, hat2, hqN2, hqK2, hku2, hqL2⟩, hbk1⟩ := stateSames_cfgB hf1
  have hcs1' : cs1 = #[.int .i64 ce2, .int .i64 cn2, .slice AS2 xs2.length cS2, .slice AN2 ns2.length cN2, .slice AK2 ks2.length cK2, .slice AL2 ls2.length cL2] := Array.ext' (by simpa [Value.cells] using hcs1)
  subst hcs1'
  have hbb1 : (xs2.map fun m : Svc => 1 + m.v.ends.length).sum + ns2.length + ks2.length + ls2.length ≤ 1048576 := by
    have q_ := hk
    unfold Rows.uptoSmall at q_
    rw [decide_eq_true_eq] at q_
    have q2_ : Rows.uptoBulk d0 + Rows.uptoBulk d1 ≤ 1048576 := by simp only [List.cons_append, List.nil_append, List.append_nil, stateSames_bcons, stateSames_bnil] at q_; omega
    have z_ : _ ≤ Rows.uptoBulk d1 := hbk1
    omega
  obtain ⟨hll1, hle1⟩ := stateSames_les (n := 1048576) (L := xs2) (by omega)
  refine (StateSames_ct ce1 cn1 AS1 cS1 xs1 AN1 cN1 ns1 AK1 cK1 ks1 AL1 cL1 ls1 ce2 cn2 AS2 cS2 xs2 AN2 cN2 ns2 AK2 cK2 ks2 AL2 cL2 ls2 W hqS1 (fun m hm => hat1 m hm (by have := hle0 m hm; omega)) hqN1 hqK1 hqL1 (by omega) (by omega) (by omega) (by omega) hqS2 (fun m hm => hat2 m hm (by have := hle1 m hm; omega)) hqN2 hqK2 hqL2 (by omega) (by omega) (by omega) (by omega) (stateSames_laid hL)).mono fun e W' ⟨he, hg⟩ => ?_
  subst he
  have e1 : ((Rows.OpenSpec.upto Rows.stateSamesSpec).at F0).fn H ([d0, d1] ++ []) = { results := [.lit (.bool true)], args := [d0, d1] } := rfl
  refine ⟨_, rfl, _, _, _, [], (p0 ++ (p1)), [], by have q_ := hW'; simp at q_ ⊢; exact q_, ?_, ?_, ?_, hg.below.frame _, fun h => by cases h⟩
  · rw [e1]; exact trodAll_mk1 (shut_bool stateSames_und4 true)
  · rw [e1]; exact trodAll_mk2 (Below.trod stateSames_laidOut (by kernel_rfl) (of_decide_eq_true (by kernel_rfl)) h0k hg.below hlt0) (Below.trod stateSames_laidOut (by kernel_rfl) (of_decide_eq_true (by kernel_rfl)) h1k hg.below hlt1)
  · rw [e1]; rfl
theorem stateSames_holds : Rows.StateSamesUptoSaid :=
  OpenClaim.holds_of_cond 5 Tryd.f5 rfl rfl rfl rfl rfl rfl rfl ⟨rfl, rfl, rfl, rfl, rfl⟩ rfl rfl rfl rfl rfl (by kernel_rfl) Tryd.func5 (by kernel_rfl)
    (of_decide_eq_true (by kernel_rfl)) (by unfold Func.isWrapper; first | (rw [if_pos (by decide +kernel)]; kernel_rfl) | (rw [if_neg (of_decide_eq_false (by kernel_rfl))]; exact ⟨rfl, rfl⟩))
    (fun os started H enc _ F0 => by rw [OpenClaim.pre_eq_preRow]; exact stateSames_lifted os started H enc F0)
theorem stateSames_plain (f : FuncId) (fn : Func) (hf : Tryd.pinned.checked.prog.funcNamed "towpath/towpathlaw16.StateSames" = some f) (hfn : Tryd.pinned.checked.prog.funcs[f]? = some fn) :
    Rows.stateSamesUptoCard.stood.looks = Tryd.pinned.checked.prog.looks [] ∧ ∀ (j : Nat) t, fn.params[j]? = some t → Tryd.pinned.checked.prog.wantsStandIn t = false := by
  obtain rfl : f = 5 := Option.some.inj ((show Tryd.prog.funcNamed "towpath/towpathlaw16.StateSames" = some 5 by kernel_rfl).symm.trans hf) |>.symm
  obtain rfl : fn = Tryd.f5 := (Option.some.inj (Tryd.func5.symm.trans hfn)).symm
  refine ⟨by kernel_rfl, fun j t ht => ?_⟩
  rw [stateSames_params] at ht
  rcases j with _ | _ | j
  · simp at ht; subst ht; exact (show Tryd.prog.wantsStandIn 31 = false by kernel_rfl)
  · simp at ht; subst ht; exact (show Tryd.prog.wantsStandIn 31 = false by kernel_rfl)
  · simp at ht
theorem stateSames_card : Rows.StateSamesUptoCardSaid :=
  Claim7.holds_tied_plain_at .later [] _ _ _ _ stateSames_holds (fun _ h => by cases h) (by kernel_rfl) (fun _ h => by cases h) stateSamesUpto_row_tie rfl ⟨rfl, rfl⟩ (by kernel_rfl) rfl stateSames_plain (by kernel_rfl)
#print axioms stateSames_card
end Go.Proofs.YtfligklljkcbfaaDoor
