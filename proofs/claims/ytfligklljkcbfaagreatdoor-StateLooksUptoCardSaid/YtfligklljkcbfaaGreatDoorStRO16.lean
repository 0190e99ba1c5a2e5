/- towpathlaw16.StateLooks returns true for every input whose bulk is at most 1048576, and changes no argument: the given statement. Conditions: those of the given row alone. -/
import Derived.Test.YtfligklljkcbfaaGreatDoorRows
import Derived.Test.YtfligklljkcbfaaGreatDoorChecked
import Derived.Test.YtfligklljkcbfaaGreatDoorStCD16
import Derived.Test.YtfligklljkcbfaaGreatDoorTwBulk
import Derived.Test.YtfligklljkcbfaaGreatDoorTie
import Derived.Test.YtfligklljkcbfaaGreatDoorCards
import Derived.LaidLaws
import Derived.Lib.LaidTab
import Derived.SevenTiedAt
import Derived.Deep.DeepHandedRow
import Derived.Carry
import Derived.JoinedCond
import Derived.ReadAgain
import Derived.ChangeSame
import Derived.ChangeVars
import Derived.JoinedOf
import Derived.RowKit
import Derived.RowKitTokens
import Derived.OpenShut
import Derived.ChangeMaps5
namespace Go.Proofs.YtfligklljkcbfaaGreatDoor
set_option linter.unusedSimpArgs false
set_option linter.unusedVariables false
set_option linter.unusedSectionVars false
open Go Go.ChangeShapes Go.WideShapes Go.RowKit Go.Tw
set_option maxRecDepth 100000
theorem stateLooks_own : ownKnob Tryz.prog.godebug = none := by kernel_rfl
theorem stateLooks_laidOut : laidOutB Tryz.prog = true := by kernel_rfl
theorem stateLooks_params : Tryz.f5.params = #[31, 55, 40] := by kernel_rfl
theorem stateLooks_und4 : Tryz.prog.underlying 4 = some .bool := by kernel_rfl
theorem stateLooks_u40 : Tryz.prog.underlying 40 = some (.int .u32) := by kernel_rfl
theorem stateLooks_bslice {H : Type} (l s : List (DataW H)) : Rows.uptoBulk (.slice l s) = Rows.uptoBulkAll l + Rows.uptoBulkAll s + 1 := by simp [Rows.uptoBulk]
theorem stateLooks_bcons {H : Type} (d : DataW H) (r : List (DataW H)) : Rows.uptoBulkAll (d :: r) = Rows.uptoBulk d + Rows.uptoBulkAll r := by simp [Rows.uptoBulkAll]
theorem stateLooks_bnil {H : Type} : Rows.uptoBulkAll ([] : List (DataW H)) = 0 := by simp [Rows.uptoBulkAll]
theorem stateLooks_bagg {H : Type} (l : List (DataW H)) : Rows.uptoBulk (.agg l) = Rows.uptoBulkAll l + 1 := by simp [Rows.uptoBulk]
theorem stateLooks_bint {H : Type} (k : IntKind) (n : Int) : Rows.uptoBulk (.lit (.int k n) : DataW H) = 1 := by simp [Rows.uptoBulk]
theorem stateLooks_ones {α : Type} : ∀ l : List α, (l.map fun _ => 1).sum = l.length
  | [] => rfl
  | _ :: r => by rw [List.map_cons, List.sum_cons, stateLooks_ones r, List.length_cons]; omega
theorem stateLooks_T45 : fieldTab Tryz.prog 45 = some [(3, 0), (3, 1), (3, 2), (3, 3), (3, 4), (43, 5), (40, 9), (40, 10), (4, 11)] := by kernel_rfl
theorem stateLooks_T43 : fieldTab Tryz.prog 43 = some [(40, 0), (3, 1), (3, 2), (41, 3)] := by kernel_rfl
theorem stateLooks_T47 : fieldTab Tryz.prog 47 = some [(40, 0), (3, 1), (3, 2)] := by kernel_rfl
theorem stateLooks_c45 : Tryz.prog.cellsOf 45 = 12 := by kernel_rfl
theorem stateLooks_c43 : Tryz.prog.cellsOf 43 = 4 := by kernel_rfl
theorem stateLooks_c47 : Tryz.prog.cellsOf 47 = 3 := by kernel_rfl
theorem stateLooks_c41 : Tryz.prog.cellsOf 41 = 1 := by kernel_rfl
theorem stateLooks_c40 : Tryz.prog.cellsOf 40 = 1 := by kernel_rfl
theorem stateLooks_c3 : Tryz.prog.cellsOf 3 = 1 := by kernel_rfl
theorem stateLooks_c4 : Tryz.prog.cellsOf 4 = 1 := by kernel_rfl
theorem stateLooks_v3 : Tryz.prog.underlying 3 = some (.int .i64) := by kernel_rfl
theorem stateLooks_v4 : Tryz.prog.underlying 4 = some .bool := by kernel_rfl
theorem stateLooks_b41 : Tryz.prog.underlying 41 = some (.slice 47) := by kernel_rfl
theorem stateLooks_b22 : Tryz.prog.underlying 22 = some (.slice 45) := by kernel_rfl
theorem stateLooks_endB {H : Type} {henc : TypeId × Value → H} {w : World} {base : Nat} {spare : Nat → Bool} {held : Bool} : ∀ fuel cs (x : DataW H × List MemPlace), DataW.trod henc Tryz.prog w base spare held fuel 47 cs = some x → ∃ e, cs = cellsE e ∧ wfE e ∧ 1 ≤ Rows.uptoBulk x.1 := by
  intro fuel cs x h
  obtain ⟨hl, ys, _, hx, hf⟩ := trod_tabB stateLooks_T47 h
  rw [stateLooks_c47] at hl
  match cs, hl with
  | [a, b, c], _ =>
    obtain ⟨n0, z0, _, h0⟩ := hf 0 (40, 0) rfl
    obtain ⟨n1, z1, _, h1⟩ := hf 1 (3, 1) rfl
    obtain ⟨n2, z2, _, h2⟩ := hf 2 (3, 2) rfl
    simp only [stateLooks_c3, stateLooks_c40, List.drop_zero, List.drop_succ_cons, List.take_succ_cons, List.take_zero] at h0 h1 h2
    obtain ⟨v0, e0, _, w0⟩ := DataW.trod_int stateLooks_u40 h0
    obtain ⟨v1, e1, _, w1⟩ := DataW.trod_int stateLooks_v3 h1
    obtain ⟨v2, e2, _, w2⟩ := DataW.trod_int stateLooks_v3 h2
    simp only [List.cons.injEq, and_true] at e0 e1 e2
    subst e0 e1 e2
    refine ⟨⟨v0, v1, v2⟩, rfl, ⟨by have := bounds_u32 w0; constructor <;> (dsimp only; omega), bounds_i64 w1, bounds_i64 w2⟩, ?_⟩
    rw [hx, stateLooks_bagg]; omega
theorem stateLooks_servB {H : Type} {henc : TypeId × Value → H} {w : World} {spare : Nat → Bool} {held : Bool} : ∀ fuel cs (x : DataW H × List MemPlace), DataW.trod henc Tryz.prog w 0 spare held fuel 43 cs = some x → ∃ (s p q : Int) (A : Option Addr) (es : List EndV) (c : Nat), cs = [.int .u32 s, .int .i64 p, .int .i64 q, .slice A es.length c] ∧ (isU32 s ∧ isI64 p ∧ isI64 q ∧ Rd w 3 cellsE A es ∧ (∀ e ∈ es, wfE e) ∧ es.length ≤ c) ∧ 1 + es.length ≤ Rows.uptoBulk x.1 := by
  intro fuel cs x h
  obtain ⟨hl, ys, hyl, hx, hf⟩ := trod_tabB stateLooks_T43 h
  rw [stateLooks_c43] at hl
  match cs, hl with
  | [a, b, c, d], _ =>
    match ys, hyl with
    | [y0, y1, y2, y3], _ =>
      obtain ⟨n0, z0, _, h0⟩ := hf 0 (40, 0) rfl
      obtain ⟨n1, z1, _, h1⟩ := hf 1 (3, 1) rfl
      obtain ⟨n2, z2, _, h2⟩ := hf 2 (3, 2) rfl
      obtain ⟨n3, z3, q3, h3⟩ := hf 3 (41, 3) rfl
      cases q3
      simp only [stateLooks_c3, stateLooks_c40, stateLooks_c41, List.drop_zero, List.drop_succ_cons, List.take_succ_cons, List.take_zero] at h0 h1 h2 h3
      obtain ⟨v0, e0, _, w0⟩ := DataW.trod_int stateLooks_u40 h0
      obtain ⟨v1, e1, _, w1⟩ := DataW.trod_int stateLooks_v3 h1
      obtain ⟨v2, e2, _, w2⟩ := DataW.trod_int stateLooks_v3 h2
      obtain ⟨A2, x2, c2', e3, hr2, hw2, hx2, hm2, hb2⟩ := opn_sliceB (wt := fun _ : EndV => 1) (B := Rows.uptoBulk) (BA := Rows.uptoBulkAll) stateLooks_bnil stateLooks_bcons stateLooks_bslice stateLooks_b41 stateLooks_c47 (by decide) cellsE_len stateLooks_endB h3
      rw [stateLooks_ones] at hb2
      simp only [List.cons.injEq, and_true] at e0 e1 e2 e3
      subst e0 e1 e2 e3
      refine ⟨v0, v1, v2, A2, x2, c2', rfl, ⟨by have := bounds_u32 w0; constructor <;> omega, bounds_i64 w1, bounds_i64 w2, hr2, hw2, hx2⟩, ?_⟩
      rw [hx, stateLooks_bagg]
      simp only [List.map_cons, List.map_nil, stateLooks_bcons, stateLooks_bnil]
      omega
theorem stateLooks_cmdB {H : Type} {henc : TypeId × Value → H} {w : World} {spare : Nat → Bool} {held : Bool} : ∀ fuel cs (x : DataW H × List MemPlace), DataW.trod henc Tryz.prog w 0 spare held fuel 45 cs = some x → ∃ m, cs = cellsC m ∧ (m.v.ends.length ≤ 1099511627776 → cmdAt w m) ∧ 1 + m.v.ends.length ≤ Rows.uptoBulk x.1 := by
  intro fuel cs x h
  obtain ⟨hl, ys, hyl, hx, hf⟩ := trod_tabB stateLooks_T45 h
  rw [stateLooks_c45] at hl
  match cs, hl with
  | [a0, a1, a2, a3, a4, a5, a6, a7, a8, a9, a10, a11], _ =>
    match ys, hyl with
    | [y0, y1, y2, y3, y4, y5, y6, y7, y8], _ =>
      obtain ⟨n0, z0, _, h0⟩ := hf 0 (3, 0) rfl
      obtain ⟨n1, z1, _, h1⟩ := hf 1 (3, 1) rfl
      obtain ⟨n2, z2, _, h2⟩ := hf 2 (3, 2) rfl
      obtain ⟨n3, z3, _, h3⟩ := hf 3 (3, 3) rfl
      obtain ⟨n4, z4, _, h4⟩ := hf 4 (3, 4) rfl
      obtain ⟨n5, z5, q5, h5⟩ := hf 5 (43, 5) rfl
      obtain ⟨n6, z6, _, h6⟩ := hf 6 (40, 9) rfl
      obtain ⟨n7, z7, _, h7⟩ := hf 7 (40, 10) rfl
      obtain ⟨n8, z8, _, h8⟩ := hf 8 (4, 11) rfl
      cases q5
      simp only [stateLooks_c3, stateLooks_c40, stateLooks_c43, stateLooks_c4, List.drop_zero, List.drop_succ_cons, List.take_succ_cons, List.take_zero] at h0 h1 h2 h3 h4 h5 h6 h7 h8
      obtain ⟨v0, e0, _, w0⟩ := DataW.trod_int stateLooks_v3 h0
      obtain ⟨v1, e1, _, w1⟩ := DataW.trod_int stateLooks_v3 h1
      obtain ⟨v2, e2, _, w2⟩ := DataW.trod_int stateLooks_v3 h2
      obtain ⟨v3, e3, _, w3⟩ := DataW.trod_int stateLooks_v3 h3
      obtain ⟨v4, e4, _, w4⟩ := DataW.trod_int stateLooks_v3 h4
      obtain ⟨s, p, q, A, es, c, e5, ⟨g1, g2, g3, g4, g5, g6⟩, hb⟩ := stateLooks_servB _ _ _ h5
      obtain ⟨v6, e6, _, w6⟩ := DataW.trod_int stateLooks_u40 h6
      obtain ⟨v7, e7, _, w7⟩ := DataW.trod_int stateLooks_u40 h7
      obtain ⟨v8, e8, _⟩ := DataW.trod_bool stateLooks_v4 h8
      simp only [List.cons.injEq, and_true] at e0 e1 e2 e3 e4 e5 e6 e7 e8
      obtain ⟨r1, r2, r3, r4⟩ := e5
      subst e0 e1 e2 e3 e4 r1 r2 r3 r4 e6 e7 e8
      refine ⟨⟨⟨v0, v1, v2, v3, v4, s, p, q, es, v6, v7, v8⟩, A, c⟩, rfl, fun hle => ⟨g4, ⟨bounds_i64 w0, bounds_i64 w1, bounds_i64 w2, bounds_i64 w3, bounds_i64 w4, g1, g2, g3, by have := bounds_u32 w6; constructor <;> (dsimp only; omega), by have := bounds_u32 w7; constructor <;> (dsimp only; omega), g5⟩, hle, g6⟩, ?_⟩
      rw [hx, stateLooks_bagg]
      simp only [List.map_cons, List.map_nil, stateLooks_bcons, stateLooks_bnil]
      (try dsimp only)
      omega
theorem stateLooks_le {L : List Cmd} {n : Nat} (h : (L.map fun m : Cmd => 1 + m.v.ends.length).sum ≤ n) : L.length ≤ n ∧ ∀ m ∈ L, m.v.ends.length ≤ n := by
  induction L generalizing n with
  | nil => simp
  | cons a r ih =>
    simp only [List.map_cons, List.sum_cons] at h
    obtain ⟨i1, i2⟩ := ih (Nat.le_refl _)
    refine ⟨by simp only [List.length_cons]; omega, fun m hm => ?_⟩
    rcases List.mem_cons.1 hm with rfl | hm
    · omega
    · have := i2 m hm; omega
theorem stateLooks_T31 : fieldTab Tryz.prog 31 = some [(3, 0), (3, 1), (26, 2), (27, 3), (28, 4), (29, 5)] := by kernel_rfl
theorem stateLooks_T79 : fieldTab Tryz.prog 79 = some [(40, 0), (40, 1)] := by kernel_rfl
theorem stateLooks_T50 : fieldTab Tryz.prog 50 = some [(40, 0), (3, 1), (40, 2), (3, 3)] := by kernel_rfl
theorem stateLooks_c31 : Tryz.prog.cellsOf 31 = 6 := by kernel_rfl
theorem stateLooks_c79 : Tryz.prog.cellsOf 79 = 2 := by kernel_rfl
theorem stateLooks_c50 : Tryz.prog.cellsOf 50 = 4 := by kernel_rfl
theorem stateLooks_c26 : Tryz.prog.cellsOf 26 = 1 := by kernel_rfl
theorem stateLooks_c27 : Tryz.prog.cellsOf 27 = 1 := by kernel_rfl
theorem stateLooks_c28 : Tryz.prog.cellsOf 28 = 1 := by kernel_rfl
theorem stateLooks_c29 : Tryz.prog.cellsOf 29 = 1 := by kernel_rfl
theorem stateLooks_b26 : Tryz.prog.underlying 26 = some (.slice 43) := by kernel_rfl
theorem stateLooks_b27 : Tryz.prog.underlying 27 = some (.slice 79) := by kernel_rfl
theorem stateLooks_b28 : Tryz.prog.underlying 28 = some (.slice 40) := by kernel_rfl
theorem stateLooks_b29 : Tryz.prog.underlying 29 = some (.slice 50) := by kernel_rfl
theorem stateLooks_struct : ∃ fs, Tryz.prog.underlying 31 = some (.struct fs) := by
  have h := stateLooks_T31
  unfold fieldTab at h
  split at h
  · rename_i fs hu; exact ⟨fs, hu⟩
  · cases h
theorem stateLooks_snatB {H : Type} {henc : TypeId × Value → H} {w : World} {base : Nat} {spare : Nat → Bool} {held : Bool} : ∀ fuel cs (x : DataW H × List MemPlace), DataW.trod henc Tryz.prog w base spare held fuel 79 cs = some x → ∃ e, cs = cellsN e ∧ True ∧ 1 ≤ Rows.uptoBulk x.1 := by
  intro fuel cs x h
  obtain ⟨hl, ys, _, hx, hf⟩ := trod_tabB stateLooks_T79 h
  rw [stateLooks_c79] at hl
  match cs, hl with
  | [a, b], _ =>
    obtain ⟨n0, z0, _, h0⟩ := hf 0 (40, 0) rfl
    obtain ⟨n1, z1, _, h1⟩ := hf 1 (40, 1) rfl
    simp only [stateLooks_c40, List.drop_zero, List.drop_succ_cons, List.take_succ_cons, List.take_zero] at h0 h1
    obtain ⟨v0, e0, _, w0⟩ := DataW.trod_int stateLooks_u40 h0
    obtain ⟨v1, e1, _, w1⟩ := DataW.trod_int stateLooks_u40 h1
    simp only [List.cons.injEq, and_true] at e0 e1
    subst e0 e1
    refine ⟨⟨v0, v1⟩, rfl, trivial, ?_⟩
    rw [hx, stateLooks_bagg]; omega
theorem stateLooks_leaseB {H : Type} {henc : TypeId × Value → H} {w : World} {base : Nat} {spare : Nat → Bool} {held : Bool} : ∀ fuel cs (x : DataW H × List MemPlace), DataW.trod henc Tryz.prog w base spare held fuel 50 cs = some x → ∃ e, cs = encL e ∧ True ∧ 1 ≤ Rows.uptoBulk x.1 := by
  intro fuel cs x h
  obtain ⟨hl, ys, _, hx, hf⟩ := trod_tabB stateLooks_T50 h
  rw [stateLooks_c50] at hl
  match cs, hl with
  | [a, b, c, d], _ =>
    obtain ⟨n0, z0, _, h0⟩ := hf 0 (40, 0) rfl
    obtain ⟨n1, z1, _, h1⟩ := hf 1 (3, 1) rfl
    obtain ⟨n2, z2, _, h2⟩ := hf 2 (40, 2) rfl
    obtain ⟨n3, z3, _, h3⟩ := hf 3 (3, 3) rfl
    simp only [stateLooks_c40, stateLooks_c3, List.drop_zero, List.drop_succ_cons, List.take_succ_cons, List.take_zero] at h0 h1 h2 h3
    obtain ⟨v0, e0, _, w0⟩ := DataW.trod_int stateLooks_u40 h0
    obtain ⟨v1, e1, _, w1⟩ := DataW.trod_int stateLooks_v3 h1
    obtain ⟨v2, e2, _, w2⟩ := DataW.trod_int stateLooks_u40 h2
    obtain ⟨v3, e3, _, w3⟩ := DataW.trod_int stateLooks_v3 h3
    simp only [List.cons.injEq, and_true] at e0 e1 e2 e3
    subst e0 e1 e2 e3
    refine ⟨⟨v0, v1, v2, v3⟩, rfl, trivial, ?_⟩
    rw [hx, stateLooks_bagg]; omega
theorem stateLooks_addrB {H : Type} {henc : TypeId × Value → H} {w : World} {base : Nat} {spare : Nat → Bool} {held : Bool} : ∀ fuel cs (x : DataW H × List MemPlace), DataW.trod henc Tryz.prog w base spare held fuel 40 cs = some x → ∃ e, cs = Go.Tw.encI .u32 e ∧ isU32 e ∧ 1 ≤ Rows.uptoBulk x.1 := by
  intro fuel cs x h
  obtain ⟨v, e0, e1, w0⟩ := DataW.trod_int stateLooks_u40 h
  exact ⟨v, e0, by have := bounds_u32 w0; constructor <;> omega, by subst e1; rw [stateLooks_bint]; exact Nat.le_refl _⟩
theorem stateLooks_svcB {H : Type} {henc : TypeId × Value → H} {w : World} {spare : Nat → Bool} {held : Bool} : ∀ fuel cs (x : DataW H × List MemPlace), DataW.trod henc Tryz.prog w 0 spare held fuel 43 cs = some x → ∃ s : Svc, cs = cellsS s ∧ (s.v.ends.length ≤ 1099511627776 → svcAt w s) ∧ 1 + s.v.ends.length ≤ Rows.uptoBulk x.1 := by
  intro fuel cs x h
  obtain ⟨s, p, q, A, es, c, rfl, ⟨h1, h2, h3, h4, h5, h6⟩, h7⟩ := stateLooks_servB fuel cs x h
  exact ⟨⟨⟨s, p, q, es⟩, A, c⟩, rfl, fun hl => ⟨h4, h5, h1, h2, h3, hl, h6⟩, h7⟩
theorem stateLooks_les {L : List Svc} {n : Nat} (h : (L.map fun m : Svc => 1 + m.v.ends.length).sum ≤ n) : L.length ≤ n ∧ ∀ m ∈ L, m.v.ends.length ≤ n := by
  induction L generalizing n with
  | nil => simp
  | cons a r ih =>
    simp only [List.map_cons, List.sum_cons] at h
    obtain ⟨i1, i2⟩ := ih (Nat.le_refl _)
    refine ⟨by simp only [List.length_cons]; omega, fun m hm => ?_⟩
    rcases List.mem_cons.1 hm with rfl | hm
    · omega
    · have := i2 m hm; omega
theorem stateLooks_cfgB {H : Type} {henc : TypeId × Value → H} {w : World} {spare : Nat → Bool} {held : Bool} {fuel : Nat} {cs : List Value} {x : DataW H × List MemPlace} (h : DataW.trod henc Tryz.prog w 0 spare held fuel 31 cs = some x) :
    ∃ (ce cn : Int) (AS : Option Addr) (cS : Nat) (xs : List Svc) (AN : Option Addr) (cN : Nat) (ns : List SnatV) (AK : Option Addr) (cK : Nat) (ks : List Int) (AL : Option Addr) (cL : Nat) (ls : List Lease),
      cs = [.int .i64 ce, .int .i64 cn, .slice AS xs.length cS, .slice AN ns.length cN, .slice AK ks.length cK, .slice AL ls.length cL] ∧ (isI64 ce ∧ isI64 cn ∧ Rd w 4 cellsS AS xs ∧ (∀ s ∈ xs, s.v.ends.length ≤ 1099511627776 → svcAt w s) ∧ Rd w 2 cellsN AN ns ∧ Rd w 1 (Go.Tw.encI .u32) AK ks ∧ (∀ k ∈ ks, isU32 k) ∧ Rd w 4 encL AL ls) ∧
      (xs.map fun m : Svc => 1 + m.v.ends.length).sum + ns.length + ks.length + ls.length ≤ Rows.uptoBulk x.1 := by
  obtain ⟨hl, ys, hyl, hx, hf⟩ := trod_tabB stateLooks_T31 h
  rw [stateLooks_c31] at hl
  match cs, hl with
  | [a0, a1, a2, a3, a4, a5], _ =>
    match ys, hyl with
    | [y0, y1, y2, y3, y4, y5], _ =>
      obtain ⟨n0, z0, _, h0⟩ := hf 0 (3, 0) rfl
      obtain ⟨n1, z1, _, h1⟩ := hf 1 (3, 1) rfl
      obtain ⟨n2, z2, q2, h2⟩ := hf 2 (26, 2) rfl
      obtain ⟨n3, z3, q3, h3⟩ := hf 3 (27, 3) rfl
      obtain ⟨n4, z4, q4, h4⟩ := hf 4 (28, 4) rfl
      obtain ⟨n5, z5, q5, h5⟩ := hf 5 (29, 5) rfl
      cases q2
      cases q3
      cases q4
      cases q5
      simp only [stateLooks_c3, stateLooks_c26, stateLooks_c27, stateLooks_c28, stateLooks_c29, List.drop_zero, List.drop_succ_cons, List.take_succ_cons, List.take_zero] at h0 h1 h2 h3 h4 h5
      obtain ⟨v0, e0, _, w0⟩ := DataW.trod_int stateLooks_v3 h0
      obtain ⟨v1, e1, _, w1⟩ := DataW.trod_int stateLooks_v3 h1
      obtain ⟨AS, xs, cS, e2, hr2, hw2, _, _, hb2⟩ := opn_sliceB (wt := fun m : Svc => 1 + m.v.ends.length) (B := Rows.uptoBulk) (BA := Rows.uptoBulkAll) stateLooks_bnil stateLooks_bcons stateLooks_bslice stateLooks_b26 stateLooks_c43 (by decide) cellsS_len stateLooks_svcB h2
      obtain ⟨AN, ns, cN, e3, hr3, _, _, _, hb3⟩ := opn_sliceB (wt := fun _ : SnatV => 1) (B := Rows.uptoBulk) (BA := Rows.uptoBulkAll) stateLooks_bnil stateLooks_bcons stateLooks_bslice stateLooks_b27 stateLooks_c79 (by decide) cellsN_len stateLooks_snatB h3
      obtain ⟨AK, ks, cK, e4, hr4, hw4, _, _, hb4⟩ := opn_sliceB (wt := fun _ : Int => 1) (B := Rows.uptoBulk) (BA := Rows.uptoBulkAll) stateLooks_bnil stateLooks_bcons stateLooks_bslice stateLooks_b28 stateLooks_c40 (by decide) (Go.Tw.encI_len _) stateLooks_addrB h4
      obtain ⟨AL, ls, cL, e5, hr5, _, _, _, hb5⟩ := opn_sliceB (wt := fun _ : Lease => 1) (B := Rows.uptoBulk) (BA := Rows.uptoBulkAll) stateLooks_bnil stateLooks_bcons stateLooks_bslice stateLooks_b29 stateLooks_c50 (by decide) encL_len stateLooks_leaseB h5
      rw [stateLooks_ones] at hb3 hb4 hb5
      simp only [List.cons.injEq, and_true] at e0 e1 e2 e3 e4 e5
      subst e0 e1 e2 e3 e4 e5
      refine ⟨v0, v1, AS, cS, xs, AN, cN, ns, AK, cK, ks, AL, cL, ls, rfl, ⟨bounds_i64 w0, bounds_i64 w1, hr2, hw2, hr3, hr4, hw4, hr5⟩, ?_⟩
      rw [hx, stateLooks_bagg]
      simp only [List.map_cons, List.map_nil, stateLooks_bcons, stateLooks_bnil]
      omega
theorem stateLooks_TF : fieldTab Tryz.prog 55 = some [(3, 0), (40, 1), (3, 2), (40, 3), (3, 4)] := by kernel_rfl
theorem stateLooks_cF : Tryz.prog.cellsOf 55 = 5 := by kernel_rfl
theorem stateLooks_structF : ∃ fs, Tryz.prog.underlying 55 = some (.struct fs) := by
  have h := stateLooks_TF
  unfold fieldTab at h
  split at h
  · rename_i fs hu; exact ⟨fs, hu⟩
  · cases h
theorem stateLooks_flowB {H : Type} {henc : TypeId × Value → H} {w : World} {base : Nat} {spare : Nat → Bool} {held : Bool} {fuel : Nat} {cs : List Value} {x : DataW H × List MemPlace} (h : DataW.trod henc Tryz.prog w base spare held fuel 55 cs = some x) : ∃ fp fs fsp fd fdp : Int, cs = [.int .i64 fp, .int .u32 fs, .int .i64 fsp, .int .u32 fd, .int .i64 fdp] := by
  obtain ⟨hl, ys, _, hx, hf⟩ := trod_tabB stateLooks_TF h
  rw [stateLooks_cF] at hl
  match cs, hl with
  | [a, b, c, d, e], _ =>
    obtain ⟨n0, z0, _, h0⟩ := hf 0 (3, 0) rfl
    obtain ⟨n1, z1, _, h1⟩ := hf 1 (40, 1) rfl
    obtain ⟨n2, z2, _, h2⟩ := hf 2 (3, 2) rfl
    obtain ⟨n3, z3, _, h3⟩ := hf 3 (40, 3) rfl
    obtain ⟨n4, z4, _, h4⟩ := hf 4 (3, 4) rfl
    simp only [stateLooks_c40, stateLooks_c3, List.drop_zero, List.drop_succ_cons, List.take_succ_cons, List.take_zero] at h0 h1 h2 h3 h4
    obtain ⟨v0, e0, _, _⟩ := DataW.trod_int stateLooks_v3 h0
    obtain ⟨v1, e1, _, _⟩ := DataW.trod_int stateLooks_u40 h1
    obtain ⟨v2, e2, _, _⟩ := DataW.trod_int stateLooks_v3 h2
    obtain ⟨v3, e3, _, _⟩ := DataW.trod_int stateLooks_u40 h3
    obtain ⟨v4, e4, _, _⟩ := DataW.trod_int stateLooks_v3 h4
    simp only [List.cons.injEq, and_true] at e0 e1 e2 e3 e4
    exact ⟨v0, v1, v2, v3, v4, by rw [e0, e1, e2, e3, e4]⟩
theorem stateLooks_gT : Tryz.prog.globalNamed "math/bits.deBruijn64tab" = some 0 := by kernel_rfl
theorem stateLooks_gTT : (Tryz.prog.globals[0]?).map (·.type) = some 202 := by kernel_rfl
theorem stateLooks_gU : Tryz.prog.underlying 202 = some (.array 64 5) := by kernel_rfl
theorem stateLooks_gE : Tryz.prog.underlying 5 = some (.int .u8) := by kernel_rfl
theorem stateLooks_gc5 : Tryz.prog.cellsOf 5 = 1 := by kernel_rfl
theorem stateLooks_gcT : Tryz.prog.cellsOf 202 = 64 := by kernel_rfl
theorem stateLooks_laid {W : World} (h : laidMetH Tryz.prog Rows.stateLooksUptoRow.laid W) : Rd W 1 (encI .u8) (some ⟨0, 0, none⟩) dbTab := by
  have h1 : Lib.TabIs Tryz.prog W "math/bits.deBruijn64tab" .u8 dbTab := Lib.tabIs_of_head (rest := []) stateLooks_gT stateLooks_gTT stateLooks_gU stateLooks_gE stateLooks_gc5 stateLooks_gcT h
  refine ⟨fun i x hx => ⟨0, 0, rfl, fun j u hu => ?_⟩⟩
  have hi : i < dbTab.length := (List.getElem?_eq_some_iff.1 hx).1
  have h2 := h1.cell stateLooks_gT i hi
  cases j with
  | zero =>
    simp [encI] at hu
    subst hu
    have h3 : dbTab.getD i 0 = x := by simp [List.getD, hx]
    rw [h3] at h2
    simpa using h2
  | succ j => simp [encI] at hu
noncomputable def stateLooks_laidW (os : Os) : World :=
  let w0 := World.holding Tryz.prog os ⟨#[], #[], []⟩
  { w0 with heap := w0.heap.modify 0 fun
      | .cells _ t frozen => .cells (dbTab.map (Value.int .u8)).toArray t frozen
      | o => o }
theorem stateLooks_laidM (os : Os) (args : Array Value) : laidMet Tryz.prog Rows.stateLooksUptoRow.laid ((stateLooks_laidW os).forCall (fun _ _ => 0) ⟨#[], args, []⟩).memory :=
  laidMet_of_run' 8 (by kernel_rfl) (by kernel_rfl)
theorem stateLooks_reads (os : Os) {H : Type} (enc : TypeId × Value → H) : ∃ places, DataW.whole enc Tryz.prog ((stateLooks_laidW os).forCall (fun _ _ => 0) ⟨#[], #[(.agg #[.int .i64 0, .int .i64 0, .slice none 0 0, .slice none 0 0, .slice none 0 0, .slice none 0 0] : Value), (.agg #[.int .i64 0, .int .u32 0, .int .i64 0, .int .u32 0, .int .i64 0] : Value), (.int .u32 0 : Value)], []⟩).memory Tryz.f5.params.toList Rows.stateLooksSpec.vars false #[(.agg #[.int .i64 0, .int .i64 0, .slice none 0 0, .slice none 0 0, .slice none 0 0, .slice none 0 0] : Value), (.agg #[.int .i64 0, .int .u32 0, .int .i64 0, .int .u32 0, .int .i64 0] : Value), (.int .u32 0 : Value)].toList 8 = some ([.agg [.lit (.int .i64 0), .lit (.int .i64 0), .nil, .nil, .nil, .nil], .agg [.lit (.int .i64 0), .lit (.int .u32 0), .lit (.int .i64 0), .lit (.int .u32 0), .lit (.int .i64 0)], .lit (.int .u32 0)], [], places) :=
  ⟨[], by kernel_rfl⟩
set_option maxRecDepth 100000 in
theorem stateLooks_lifted (os : Os) (started : os.Started) (H : Type) (enc : TypeId × Value → H) (F0 : Stop.Interp) :
    ReturnsInHanded {} Tryz.checked os 5 .any ((Rows.OpenSpec.upto Rows.stateLooksSpec).preRow enc Tryz.prog Tryz.f5 Rows.stateLooksUptoRow.domain false Rows.stateLooksUptoRow.laid) (((Rows.OpenSpec.upto Rows.stateLooksSpec).at F0).post enc Tryz.prog Tryz.f5 false true false false) := by
  obtain ⟨places, hx⟩ := stateLooks_reads os enc
  refine returnsInHanded_of_row (C := Tryz.checked) (s := (Rows.OpenSpec.upto Rows.stateLooksSpec)) stateLooks_own started (by kernel_rfl) Tryz.func5
    (witness_row_at (enc := enc) (C := Tryz.checked) false (stateLooks_laidW os) #[.agg #[.int .i64 0, .int .i64 0, .slice none 0 0, .slice none 0 0, .slice none 0 0, .slice none 0 0], .agg #[.int .i64 0, .int .u32 0, .int .i64 0, .int .u32 0, .int .i64 0], .int .u32 0] rfl (by kernel_rfl) (by kernel_rfl) (by kernel_rfl)
      (OpenSpec.preRow_of_cond 8 hx (by kernel_rfl) (fun k hk => by cases hk; kernel_rfl) (by kernel_rfl) (stateLooks_laidM os _))) ?_
  intro W base args ds gs before hval0 hW _ hcond _ hL _ _
  have hk := hcond _ rfl
  have hval : ∀ (j : Nat) t v, Tryz.f5.params[j]? = some t → args[j]? = some v → Value.okWide Tryz.prog W .any base t v := hval0
  have hW' := hW
  obtain ⟨p, q, hA0, hV0, rfl, hfz, hnd⟩ := hW
  have hA : DataW.TrodAll enc Tryz.prog W 0 (fun _ => true) true Tryz.f5.params.toList args.toList ds p := hA0
  have hV : DataW.TrodVars enc Tryz.prog W (fun _ => true) [] gs q := hV0
  rw [stateLooks_params] at hA hval
  obtain ⟨v0, vs0, d0, ds0, p0, q0, hargs, rfl, rfl, h0, r0⟩ := trodAll_cons hA
  obtain ⟨v1, vs1, d1, ds1, p1, q1, rfl, rfl, rfl, h1, r1⟩ := trodAll_cons r0
  obtain ⟨v2, vs2, d2, ds2, p2, q2, rfl, rfl, rfl, h2, r2⟩ := trodAll_cons r1
  obtain ⟨rfl, rfl, rfl⟩ := trodAll_nil r2
  obtain rfl : args = #[v0, v1, v2] := Array.ext' (by simpa using hargs)
  obtain ⟨rfl, rfl⟩ := trodVars_none hV
  have h0k := h0
  have h1k := h1
  obtain ⟨dip, rfl, rfl, rfl, w2⟩ := open_int stateLooks_u40 (hval 2 40 v2 rfl rfl) h2
  clear hA0 hval0
  have hlt0 : ∀ x ∈ p0, x.block < W.heap.size := fun x hx => hW'.lt x (by simp [hx])
  have hlt1 : ∀ x ∈ p1, x.block < W.heap.size := fun x hx => hW'.lt x (by simp [hx])
  obtain ⟨fs0, hfs0⟩ := stateLooks_struct
  obtain ⟨cs0, rfl, _⟩ := okWide_struct hfs0 (hval 0 31 v0 rfl rfl)
  obtain ⟨fuel0, hf0⟩ := h0
  obtain ⟨ce, cn, AS, cS, xs, AN, cN, ns, AK, cK, ks, AL, cL, ls, hcs0, ⟨hce, hcn, hqS, hat, hqN, hqK, hku, hqL⟩, hbk0⟩ := stateLooks_cfgB hf0
  have hcs0' : cs0 = #[.int .i64 ce, .int .i64 cn, .slice AS xs.length cS, .slice AN ns.length cN, .slice AK ks.length cK, .slice AL ls.length cL] := Array.ext' (by simpa [Value.cells] using hcs0)
  subst hcs0'
  have hbb0 : (xs.map fun m : Svc => 1 + m.v.ends.length).sum + ns.length + ks.length + ls.length ≤ 1048576 := by
    have q_ := hk
    unfold Rows.uptoSmall at q_
    rw [decide_eq_true_eq] at q_
    have q2_ : Rows.uptoBulk d0 + Rows.uptoBulk d1 ≤ 1048576 := by simp only [List.cons_append, List.nil_append, List.append_nil, stateLooks_bcons, stateLooks_bnil] at q_; omega
    have z_ : _ ≤ Rows.uptoBulk d0 := hbk0
    omega
  obtain ⟨hll0, hle0⟩ := stateLooks_les (n := 1048576) (L := xs) (by omega)
  obtain ⟨fs1, hfs1⟩ := stateLooks_structF
  obtain ⟨cs1, rfl, _⟩ := okWide_struct hfs1 (hval 1 55 v1 rfl rfl)
  obtain ⟨fuel1, hf1⟩ := h1
  obtain ⟨fp, fs, fsp, fd, fdp, hcs1⟩ := stateLooks_flowB hf1
  have hcs1' : cs1 = #[.int .i64 fp, .int .u32 fs, .int .i64 fsp, .int .u32 fd, .int .i64 fdp] := Array.ext' (by simpa [Value.cells] using hcs1)
  subst hcs1'
  refine (StateLooks_ct ce cn AS cS xs AN cN ns AK cK ks AL cL ls fp fs fsp fd fdp dip W hqS (fun m hm => hat m hm (by have := hle0 m hm; omega)) hqN hqK hqL (by omega) (by omega) (by omega) (by omega) (by unfold svT; omega) (by omega) (stateLooks_laid hL)).mono fun e W' ⟨he, hg⟩ => ?_
  subst he
  have e1 : ((Rows.OpenSpec.upto Rows.stateLooksSpec).at F0).fn H ([d0, d1, .lit (.int .u32 dip)] ++ []) = { results := [.lit (.bool true)], args := [d0, d1, .lit (.int .u32 dip)] } := rfl
  refine ⟨_, rfl, _, _, _, [], (p0 ++ (p1 ++ ([]))), [], by have q_ := hW'; simp at q_ ⊢; exact q_, ?_, ?_, ?_, hg.below.frame _, fun h => by cases h⟩
  · rw [e1]; exact trodAll_mk1 (shut_bool stateLooks_und4 true)
  · rw [e1]; exact trodAll_mk3 (Below.trod stateLooks_laidOut (by kernel_rfl) (of_decide_eq_true (by kernel_rfl)) h0k hg.below hlt0) (Below.trod stateLooks_laidOut (by kernel_rfl) (of_decide_eq_true (by kernel_rfl)) h1k hg.below hlt1) (shut_int stateLooks_u40 w2)
  · rw [e1]; rfl
theorem stateLooks_holds : Rows.StateLooksUptoSaid :=
  OpenClaim.holds_of_cond 5 Tryz.f5 rfl rfl rfl rfl rfl rfl rfl ⟨rfl, rfl, rfl, rfl, rfl⟩ rfl rfl rfl rfl rfl (by kernel_rfl) Tryz.func5 (by kernel_rfl)
    (of_decide_eq_true (by kernel_rfl)) (by unfold Func.isWrapper; first | (rw [if_pos (by decide +kernel)]; kernel_rfl) | (rw [if_neg (of_decide_eq_false (by kernel_rfl))]; exact ⟨rfl, rfl⟩))
    (fun os started H enc _ F0 => by rw [OpenClaim.pre_eq_preRow]; exact stateLooks_lifted os started H enc F0)
theorem stateLooks_plain (f : FuncId) (fn : Func) (hf : Tryz.pinned.checked.prog.funcNamed "towpath/towpathlaw16.StateLooks" = some f) (hfn : Tryz.pinned.checked.prog.funcs[f]? = some fn) :
    Rows.stateLooksUptoCard.stood.looks = Tryz.pinned.checked.prog.looks [] ∧ ∀ (j : Nat) t, fn.params[j]? = some t → Tryz.pinned.checked.prog.wantsStandIn t = false := by
  obtain rfl : f = 5 := Option.some.inj ((show Tryz.prog.funcNamed "towpath/towpathlaw16.StateLooks" = some 5 by kernel_rfl).symm.trans hf) |>.symm
  obtain rfl : fn = Tryz.f5 := (Option.some.inj (Tryz.func5.symm.trans hfn)).symm
  refine ⟨by kernel_rfl, fun j t ht => ?_⟩
  rw [stateLooks_params] at ht
  rcases j with _ | _ | _ | j
  · simp at ht; subst ht; exact (show Tryz.prog.wantsStandIn 31 = false by kernel_rfl)
  · simp at ht; subst ht; exact (show Tryz.prog.wantsStandIn 55 = false by kernel_rfl)
  · simp at ht; subst ht; exact (show Tryz.prog.wantsStandIn 40 = false by kernel_rfl)
  · simp at ht
theorem stateLooks_card : Rows.StateLooksUptoCardSaid :=
  Claim7.holds_tied_plain_at .later [] _ _ _ _ stateLooks_holds (fun _ h => by cases h) (by kernel_rfl) (fun _ h => by cases h) stateLooksUpto_row_tie rfl ⟨rfl, rfl⟩ (by kernel_rfl) rfl stateLooks_plain (by kernel_rfl)
#print axioms stateLooks_card
end Go.Proofs.YtfligklljkcbfaaGreatDoor
