/- towpathlaw14.VotePlays returns true for every input whose bulk is at most 1048576, and changes no argument: the given statement. Conditions: those of the given row alone. -/
import Derived.Test.YtjacpjdikhlcoaaRows
import Derived.Test.YtjacpjdikhlcoaaChecked
import Derived.Test.YtjacpjdikhlcoaaVtZ14
import Derived.Test.YtjacpjdikhlcoaaTwBulk
import Derived.Carry
import Derived.JoinedCond
import Derived.ReadAgain
import Derived.ChangeSame
import Derived.ChangeVars
import Derived.JoinedOf
import Derived.RowKit
import Derived.RowKitTokens
import Derived.OpenShut
import Derived.ChangeMaps5
namespace Go.Proofs.Ytjacpjdikhlcoaa
set_option linter.unusedSimpArgs false
set_option linter.unusedVariables false
set_option linter.unusedSectionVars false
open Go Go.ChangeShapes Go.WideShapes Go.RowKit Go.Tw
set_option maxRecDepth 100000
theorem votePlays_own : ownKnob Try.prog.godebug = none := by kernel_rfl
theorem votePlays_laidOut : laidOutB Try.prog = true := by kernel_rfl
theorem votePlays_params : Try.f9.params = #[3, 80] := by kernel_rfl
theorem votePlays_und4 : Try.prog.underlying 4 = some .bool := by kernel_rfl
theorem votePlays_u3 : Try.prog.underlying 3 = some (.int .i64) := by kernel_rfl
theorem votePlays_bslice {H : Type} (l s : List (DataW H)) : Rows.uptoBulk (.slice l s) = Rows.uptoBulkAll l + Rows.uptoBulkAll s + 1 := by simp [Rows.uptoBulk]
theorem votePlays_bcons {H : Type} (d : DataW H) (r : List (DataW H)) : Rows.uptoBulkAll (d :: r) = Rows.uptoBulk d + Rows.uptoBulkAll r := by simp [Rows.uptoBulkAll]
theorem votePlays_bnil {H : Type} : Rows.uptoBulkAll ([] : List (DataW H)) = 0 := by simp [Rows.uptoBulkAll]
theorem votePlays_bagg {H : Type} (l : List (DataW H)) : Rows.uptoBulk (.agg l) = Rows.uptoBulkAll l + 1 := by simp [Rows.uptoBulk]
theorem votePlays_bint {H : Type} (k : IntKind) (n : Int) : Rows.uptoBulk (.lit (.int k n) : DataW H) = 1 := by simp [Rows.uptoBulk]
theorem votePlays_ones {α : Type} : ∀ l : List α, (l.map fun _ => 1).sum = l.length
  | [] => rfl
  | _ :: r => by rw [List.map_cons, List.sum_cons, votePlays_ones r, List.length_cons]; omega
theorem votePlays_T61 : fieldTab Try.prog 61 = some [(3, 0), (3, 1), (3, 2), (3, 3), (3, 4), (59, 5), (56, 9), (56, 10), (4, 11)] := by kernel_rfl
theorem votePlays_T59 : fieldTab Try.prog 59 = some [(56, 0), (3, 1), (3, 2), (57, 3)] := by kernel_rfl
theorem votePlays_T91 : fieldTab Try.prog 91 = some [(56, 0), (3, 1), (3, 2)] := by kernel_rfl
theorem votePlays_c61 : Try.prog.cellsOf 61 = 12 := by kernel_rfl
theorem votePlays_c59 : Try.prog.cellsOf 59 = 4 := by kernel_rfl
theorem votePlays_c91 : Try.prog.cellsOf 91 = 3 := by kernel_rfl
theorem votePlays_c57 : Try.prog.cellsOf 57 = 1 := by kernel_rfl
theorem votePlays_c56 : Try.prog.cellsOf 56 = 1 := by kernel_rfl
theorem votePlays_c3 : Try.prog.cellsOf 3 = 1 := by kernel_rfl
theorem votePlays_c4 : Try.prog.cellsOf 4 = 1 := by kernel_rfl
theorem votePlays_u56 : Try.prog.underlying 56 = some (.int .u32) := by kernel_rfl
theorem votePlays_v3 : Try.prog.underlying 3 = some (.int .i64) := by kernel_rfl
theorem votePlays_v4 : Try.prog.underlying 4 = some .bool := by kernel_rfl
theorem votePlays_b57 : Try.prog.underlying 57 = some (.slice 91) := by kernel_rfl
theorem votePlays_b25 : Try.prog.underlying 25 = some (.slice 61) := by kernel_rfl
theorem votePlays_endB {H : Type} {henc : TypeId × Value → H} {w : World} {base : Nat} {spare : Nat → Bool} {held : Bool} : ∀ fuel cs (x : DataW H × List MemPlace), DataW.trod henc Try.prog w base spare held fuel 91 cs = some x → ∃ e, cs = cellsE e ∧ wfE e ∧ 1 ≤ Rows.uptoBulk x.1 := by
  intro fuel cs x h
  obtain ⟨hl, ys, _, hx, hf⟩ := trod_tabB votePlays_T91 h
  rw [votePlays_c91] at hl
  match cs, hl with
  | [a, b, c], _ =>
    obtain ⟨n0, z0, _, h0⟩ := hf 0 (56, 0) rfl
    obtain ⟨n1, z1, _, h1⟩ := hf 1 (3, 1) rfl
    obtain ⟨n2, z2, _, h2⟩ := hf 2 (3, 2) rfl
    simp only [votePlays_c3, votePlays_c56, List.drop_zero, List.drop_succ_cons, List.take_succ_cons, List.take_zero] at h0 h1 h2
    obtain ⟨v0, e0, _, w0⟩ := DataW.trod_int votePlays_u56 h0
    obtain ⟨v1, e1, _, w1⟩ := DataW.trod_int votePlays_v3 h1
    obtain ⟨v2, e2, _, w2⟩ := DataW.trod_int votePlays_v3 h2
    simp only [List.cons.injEq, and_true] at e0 e1 e2
    subst e0 e1 e2
    refine ⟨⟨v0, v1, v2⟩, rfl, ⟨by have := bounds_u32 w0; constructor <;> (dsimp only; omega), bounds_i64 w1, bounds_i64 w2⟩, ?_⟩
    rw [hx, votePlays_bagg]; omega
theorem votePlays_servB {H : Type} {henc : TypeId × Value → H} {w : World} {spare : Nat → Bool} {held : Bool} : ∀ fuel cs (x : DataW H × List MemPlace), DataW.trod henc Try.prog w 0 spare held fuel 59 cs = some x → ∃ (s p q : Int) (A : Option Addr) (es : List EndV) (c : Nat), cs = [.int .u32 s, .int .i64 p, .int .i64 q, .slice A es.length c] ∧ (isU32 s ∧ isI64 p ∧ isI64 q ∧ Rd w 3 cellsE A es ∧ (∀ e ∈ es, wfE e) ∧ es.length ≤ c) ∧ 1 + es.length ≤ Rows.uptoBulk x.1 := by
  intro fuel cs x h
  obtain ⟨hl, ys, hyl, hx, hf⟩ := trod_tabB votePlays_T59 h
  rw [votePlays_c59] at hl
  match cs, hl with
  | [a, b, c, d], _ =>
    match ys, hyl with
    | [y0, y1, y2, y3], _ =>
      obtain ⟨n0, z0, _, h0⟩ := hf 0 (56, 0) rfl
      obtain ⟨n1, z1, _, h1⟩ := hf 1 (3, 1) rfl
      obtain ⟨n2, z2, _, h2⟩ := hf 2 (3, 2) rfl
      obtain ⟨n3, z3, q3, h3⟩ := hf 3 (57, 3) rfl
      cases q3
      simp only [votePlays_c3, votePlays_c56, votePlays_c57, List.drop_zero, List.drop_succ_cons, List.take_succ_cons, List.take_zero] at h0 h1 h2 h3
      obtain ⟨v0, e0, _, w0⟩ := DataW.trod_int votePlays_u56 h0
      obtain ⟨v1, e1, _, w1⟩ := DataW.trod_int votePlays_v3 h1
      obtain ⟨v2, e2, _, w2⟩ := DataW.trod_int votePlays_v3 h2
      obtain ⟨A2, x2, c2', e3, hr2, hw2, hx2, hm2, hb2⟩ := opn_sliceB (wt := fun _ : EndV => 1) (B := Rows.uptoBulk) (BA := Rows.uptoBulkAll) votePlays_bnil votePlays_bcons votePlays_bslice votePlays_b57 votePlays_c91 (by decide) cellsE_len votePlays_endB h3
      rw [votePlays_ones] at hb2
      simp only [List.cons.injEq, and_true] at e0 e1 e2 e3
      subst e0 e1 e2 e3
      refine ⟨v0, v1, v2, A2, x2, c2', rfl, ⟨by have := bounds_u32 w0; constructor <;> omega, bounds_i64 w1, bounds_i64 w2, hr2, hw2, hx2⟩, ?_⟩
      rw [hx, votePlays_bagg]
      simp only [List.map_cons, List.map_nil, votePlays_bcons, votePlays_bnil]
      omega
theorem votePlays_cmdB {H : Type} {henc : TypeId × Value → H} {w : World} {spare : Nat → Bool} {held : Bool} : ∀ fuel cs (x : DataW H × List MemPlace), DataW.trod henc Try.prog w 0 spare held fuel 61 cs = some x → ∃ m, cs = cellsC m ∧ (m.v.ends.length ≤ 1099511627776 → cmdAt w m) ∧ 1 + m.v.ends.length ≤ Rows.uptoBulk x.1 := by
  intro fuel cs x h
  obtain ⟨hl, ys, hyl, hx, hf⟩ := trod_tabB votePlays_T61 h
  rw [votePlays_c61] at hl
  match cs, hl with
  | [a0, a1, a2, a3, a4, a5, a6, a7, a8, a9, a10, a11], _ =>
    match ys, hyl with
    | [y0, y1, y2, y3, y4, y5, y6, y7, y8], _ =>
      obtain ⟨n0, z0, _, h0⟩ := hf 0 (3, 0) rfl
      obtain ⟨n1, z1, _, h1⟩ := hf 1 (3, 1) rfl
      obtain ⟨n2, z2, _, h2⟩ := hf 2 (3, 2) rfl
      obtain ⟨n3, z3, _, h3⟩ := hf 3 (3, 3) rfl
      obtain ⟨n4, z4, _, h4⟩ := hf 4 (3, 4) rfl
      obtain ⟨n5, z5, q5, h5⟩ := hf 5 (59, 5) rfl
      obtain ⟨n6, z6, _, h6⟩ := hf 6 (56, 9) rfl
      obtain ⟨n7, z7, _, h7⟩ := hf 7 (56, 10) rfl
      obtain ⟨n8, z8, _, h8⟩ := hf 8 (4, 11) rfl
      cases q5
      simp only [votePlays_c3, votePlays_c56, votePlays_c59, votePlays_c4, List.drop_zero, List.drop_succ_cons, List.take_succ_cons, List.take_zero] at h0 h1 h2 h3 h4 h5 h6 h7 h8
      obtain ⟨v0, e0, _, w0⟩ := DataW.trod_int votePlays_v3 h0
      obtain ⟨v1, e1, _, w1⟩ := DataW.trod_int votePlays_v3 h1
      obtain ⟨v2, e2, _, w2⟩ := DataW.trod_int votePlays_v3 h2
      obtain ⟨v3, e3, _, w3⟩ := DataW.trod_int votePlays_v3 h3
      obtain ⟨v4, e4, _, w4⟩ := DataW.trod_int votePlays_v3 h4
      obtain ⟨s, p, q, A, es, c, e5, ⟨g1, g2, g3, g4, g5, g6⟩, hb⟩ := votePlays_servB _ _ _ h5
      obtain ⟨v6, e6, _, w6⟩ := DataW.trod_int votePlays_u56 h6
      obtain ⟨v7, e7, _, w7⟩ := DataW.trod_int votePlays_u56 h7
      obtain ⟨v8, e8, _⟩ := DataW.trod_bool votePlays_v4 h8
      simp only [List.cons.injEq, and_true] at e0 e1 e2 e3 e4 e5 e6 e7 e8
      obtain ⟨r1, r2, r3, r4⟩ := e5
      subst e0 e1 e2 e3 e4 r1 r2 r3 r4 e6 e7 e8
      refine ⟨⟨⟨v0, v1, v2, v3, v4, s, p, q, es, v6, v7, v8⟩, A, c⟩, rfl, fun hle => ⟨g4, ⟨bounds_i64 w0, bounds_i64 w1, bounds_i64 w2, bounds_i64 w3, bounds_i64 w4, g1, g2, g3, by have := bounds_u32 w6; constructor <;> (dsimp only; omega), by have := bounds_u32 w7; constructor <;> (dsimp only; omega), g5⟩, hle, g6⟩, ?_⟩
      rw [hx, votePlays_bagg]
      simp only [List.map_cons, List.map_nil, votePlays_bcons, votePlays_bnil]
      (try dsimp only)
      omega
theorem votePlays_le {L : List Cmd} {n : Nat} (h : (L.map fun m : Cmd => 1 + m.v.ends.length).sum ≤ n) : L.length ≤ n ∧ ∀ m ∈ L, m.v.ends.length ≤ n := by
  induction L generalizing n with
  | nil => simp
  | cons a r ih =>
    simp only [List.map_cons, List.sum_cons] at h
    obtain ⟨i1, i2⟩ := ih (Nat.le_refl _)
    refine ⟨by simp only [List.length_cons]; omega, fun m hm => ?_⟩
    rcases List.mem_cons.1 hm with rfl | hm
    · omega
    · have := i2 m hm; omega
theorem votePlays_T86 : fieldTab Try.prog 86 = some [(3, 0), (50, 1), (25, 3), (43, 4)] := by kernel_rfl
theorem votePlays_T50 : fieldTab Try.prog 50 = some [(3, 0), (3, 1)] := by kernel_rfl
theorem votePlays_c86 : Try.prog.cellsOf 86 = 5 := by kernel_rfl
theorem votePlays_c50 : Try.prog.cellsOf 50 = 2 := by kernel_rfl
theorem votePlays_c25 : Try.prog.cellsOf 25 = 1 := by kernel_rfl
theorem votePlays_c43 : Try.prog.cellsOf 43 = 1 := by kernel_rfl
theorem votePlays_b43 : Try.prog.underlying 43 = some (.slice 50) := by kernel_rfl
theorem votePlays_b80 : Try.prog.underlying 80 = some (.slice 86) := by kernel_rfl
theorem votePlays_balB {H : Type} {henc : TypeId × Value → H} {w : World} {base : Nat} {spare : Nat → Bool} {held : Bool} : ∀ fuel cs (x : DataW H × List MemPlace), DataW.trod henc Try.prog w base spare held fuel 50 cs = some x → ∃ b : Int × Int, cs = encBal b ∧ (isI64 b.1 ∧ isI64 b.2) ∧ 1 ≤ Rows.uptoBulk x.1 := by
  intro fuel cs x h
  obtain ⟨hl, ys, _, hx, hf⟩ := trod_tabB votePlays_T50 h
  rw [votePlays_c50] at hl
  match cs, hl with
  | [a, b], _ =>
    obtain ⟨n0, z0, _, h0⟩ := hf 0 (3, 0) rfl
    obtain ⟨n1, z1, _, h1⟩ := hf 1 (3, 1) rfl
    simp only [votePlays_c3, List.drop_zero, List.drop_succ_cons, List.take_succ_cons, List.take_zero] at h0 h1
    obtain ⟨v0, e0, _, w0⟩ := DataW.trod_int votePlays_v3 h0
    obtain ⟨v1, e1, _, w1⟩ := DataW.trod_int votePlays_v3 h1
    simp only [List.cons.injEq, and_true] at e0 e1
    subst e0 e1
    refine ⟨(v0, v1), rfl, ⟨bounds_i64 w0, bounds_i64 w1⟩, ?_⟩
    rw [hx, votePlays_bagg]; omega
def votePlays_wt (o : OpV) : Nat := 1 + ((o.L.map fun m : Cmd => 1 + m.v.ends.length).sum + o.bs.length)
theorem votePlays_opB {H : Type} {henc : TypeId × Value → H} {w : World} {spare : Nat → Bool} {held : Bool} : ∀ fuel cs (x : DataW H × List MemPlace), DataW.trod henc Try.prog w 0 spare held fuel 86 cs = some x → ∃ o, cs = cellsV o ∧ (votePlays_wt o ≤ 1048576 → opvAt w o) ∧ votePlays_wt o ≤ Rows.uptoBulk x.1 := by
  intro fuel cs x h
  obtain ⟨hl, ys, hyl, hx, hf⟩ := trod_tabB votePlays_T86 h
  rw [votePlays_c86] at hl
  match cs, hl with
  | [a0, a1, a2, a3, a4], _ =>
    match ys, hyl with
    | [y0, y1, y2, y3], _ =>
      obtain ⟨n0, z0, _, h0⟩ := hf 0 (3, 0) rfl
      obtain ⟨n1, z1, _, h1⟩ := hf 1 (50, 1) rfl
      obtain ⟨n2, z2, q2, h2⟩ := hf 2 (25, 3) rfl
      obtain ⟨n3, z3, q3, h3⟩ := hf 3 (43, 4) rfl
      cases q2
      cases q3
      simp only [votePlays_c3, votePlays_c50, votePlays_c25, votePlays_c43, List.drop_zero, List.drop_succ_cons, List.take_succ_cons, List.take_zero] at h0 h1 h2 h3
      obtain ⟨v0, e0, _, w0⟩ := DataW.trod_int votePlays_v3 h0
      obtain ⟨b, e1, hb, _⟩ := votePlays_balB _ _ _ h1
      obtain ⟨A, L, c, e2, r2, w2, k2, _, b2⟩ := opn_sliceB (wt := fun m : Cmd => 1 + m.v.ends.length) (B := Rows.uptoBulk) (BA := Rows.uptoBulkAll) votePlays_bnil votePlays_bcons votePlays_bslice votePlays_b25 votePlays_c61 (by decide) cellsC_len votePlays_cmdB h2
      obtain ⟨B, bs, d, e3, r3, w3, k3, _, b3⟩ := opn_sliceB (wt := fun _ : Int × Int => 1) (B := Rows.uptoBulk) (BA := Rows.uptoBulkAll) votePlays_bnil votePlays_bcons votePlays_bslice votePlays_b43 votePlays_c50 (by decide) encBal_len votePlays_balB h3
      rw [votePlays_ones] at b3
      simp only [encBal, List.cons.injEq, and_true] at e0 e1 e2 e3
      obtain ⟨g1, g2⟩ := e1
      subst e0 g1 g2 e2 e3
      refine ⟨⟨v0, b.1, b.2, A, c, L, B, d, bs⟩, rfl, fun hle => ?_, ?_⟩
      · unfold votePlays_wt at hle
        dsimp only at hle
        obtain ⟨hll, hee⟩ := votePlays_le (Nat.le_trans (Nat.le_of_eq rfl) (show (L.map fun m : Cmd => 1 + m.v.ends.length).sum ≤ 1048576 by omega))
        exact ⟨r2, fun m hm => w2 m hm (by have := hee m hm; omega), by dsimp only; omega, r3, w3, by dsimp only; omega, k3, hb.2⟩
      · unfold votePlays_wt
        dsimp only
        rw [hx, votePlays_bagg]
        simp only [List.map_cons, List.map_nil, votePlays_bcons, votePlays_bnil]
        omega
theorem votePlays_each {l : List OpV} {n : Nat} (h : (l.map votePlays_wt).sum ≤ n) : l.length ≤ n ∧ ∀ o ∈ l, votePlays_wt o ≤ n := by
  induction l generalizing n with
  | nil => simp
  | cons a r ih =>
    simp only [List.map_cons, List.sum_cons] at h
    obtain ⟨i1, i2⟩ := ih (Nat.le_refl _)
    have h1 : 1 ≤ votePlays_wt a := by unfold votePlays_wt; omega
    refine ⟨by simp only [List.length_cons]; omega, fun m hm => ?_⟩
    rcases List.mem_cons.1 hm with rfl | hm
    · omega
    · have := i2 m hm; omega
set_option maxRecDepth 100000 in
theorem votePlays_lifted (os : Os) (started : os.Started) (H : Type) (enc : TypeId × Value → H) (F0 : Stop.Interp) :
    ReturnsInHanded {} Try.checked os 9 .any ((Rows.OpenSpec.upto Rows.votePlaysSpec).pre6 enc Try.prog Try.f9 Rows.votePlaysUptoRow.domain false) (((Rows.OpenSpec.upto Rows.votePlaysSpec).at F0).post enc Try.prog Try.f9 false true false false) := by
  refine returnsInHanded_of_cond (C := Try.checked) (s := (Rows.OpenSpec.upto Rows.votePlaysSpec)) (k := Rows.uptoSmall) rfl votePlays_own started (by kernel_rfl) Try.func9
    (OpenSpec.witness (enc := enc) (C := Try.checked) (s := (Rows.OpenSpec.upto Rows.votePlaysSpec)) (k := Rows.uptoSmall) rfl false ⟨#[], #[.int .i64 0, .slice none 0 0], []⟩ 8 (by kernel_rfl) (by kernel_rfl) (by kernel_rfl) (x := ([.lit (.int .i64 0), .nil], [], [])) (by kernel_rfl) (by kernel_rfl) (by kernel_rfl)) ?_
  intro W base args ds gs before hval0 hW _ hk _
  have hval : ∀ (j : Nat) t v, Try.f9.params[j]? = some t → args[j]? = some v → Value.okWide Try.prog W .any base t v := hval0
  have hW' := hW
  obtain ⟨p, q, hA0, hV0, rfl, hfz, hnd⟩ := hW
  have hA : DataW.TrodAll enc Try.prog W 0 (fun _ => true) true Try.f9.params.toList args.toList ds p := hA0
  have hV : DataW.TrodVars enc Try.prog W (fun _ => true) [] gs q := hV0
  rw [votePlays_params] at hA hval
  obtain ⟨v0, vs0, d0, ds0, p0, q0, hargs, rfl, rfl, h0, r0⟩ := trodAll_cons hA
  obtain ⟨v1, vs1, d1, ds1, p1, q1, rfl, rfl, rfl, h1, r1⟩ := trodAll_cons r0
  obtain ⟨rfl, rfl, rfl⟩ := trodAll_nil r1
  obtain rfl : args = #[v0, v1] := Array.ext' (by simpa using hargs)
  obtain ⟨rfl, rfl⟩ := trodVars_none hV
  obtain ⟨nd, rfl, rfl, rfl, w0⟩ := open_int votePlays_u3 (hval 0 3 v0 rfl rfl) h0
  have h1k := h1
  clear hA0 hval0
  have hlt1 : ∀ x ∈ p1, x.block < W.heap.size := fun x hx => hW'.lt x (by simp [hx])
  obtain ⟨a1_, l1_, c1_, rfl⟩ := okWide_slice votePlays_b80 (hval 1 80 v1 rfl rfl)
  obtain ⟨fuel1, hf1⟩ := h1
  obtain ⟨A1, ops, C1, hcs1, hr1, hok1, hlc1, hcm1, hbk1⟩ := opn_sliceB (wt := votePlays_wt) (B := Rows.uptoBulk) (BA := Rows.uptoBulkAll) votePlays_bnil votePlays_bcons votePlays_bslice votePlays_b80 votePlays_c86 (by decide) cellsV_len votePlays_opB hf1
  simp only [Value.cells, List.cons.injEq, Value.slice.injEq, and_true] at hcs1
  obtain ⟨rfl, rfl, rfl⟩ := hcs1
  have hbb1 : (ops.map votePlays_wt).sum ≤ 1048576 := by
    have q_ := hk
    unfold Rows.uptoSmall at q_
    rw [decide_eq_true_eq] at q_
    simp only [List.append_nil, votePlays_bcons, votePlays_bnil, votePlays_bint] at q_
    have z_ : (ops.map votePlays_wt).sum ≤ Rows.uptoBulk d1 := hbk1
    omega
  obtain ⟨hll1, hle1⟩ := votePlays_each hbb1
  refine (VotePlays_ct nd a1_ c1_ ops W (bounds_i64 w0) hr1 (fun o ho => hok1 o ho (hle1 o ho)) (by omega)).mono fun e W' ⟨he, hg⟩ => ?_
  subst he
  have e1 : ((Rows.OpenSpec.upto Rows.votePlaysSpec).at F0).fn H ([.lit (.int .i64 nd), d1] ++ []) = { results := [.lit (.bool true)], args := [.lit (.int .i64 nd), d1] } := rfl
  refine ⟨_, rfl, _, _, _, [], ([] ++ (p1)), [], by have q_ := hW'; simp at q_ ⊢; exact q_, ?_, ?_, ?_, hg.below.frame _, fun h => by cases h⟩
  · rw [e1]; exact trodAll_mk1 (shut_bool votePlays_und4 true)
  · rw [e1]; exact trodAll_mk2 (shut_int votePlays_u3 w0) (Below.trod votePlays_laidOut (by kernel_rfl) (of_decide_eq_true (by kernel_rfl)) h1k hg.below hlt1)
  · rw [e1]; rfl
theorem votePlays_holds : Rows.VotePlaysUptoSaid :=
  OpenClaim.holds_of_cond 9 Try.f9 rfl rfl rfl rfl rfl rfl rfl ⟨rfl, rfl, rfl, rfl, rfl⟩ rfl rfl rfl rfl rfl (by kernel_rfl) Try.func9 (by kernel_rfl)
    (of_decide_eq_true (by kernel_rfl)) (by unfold Func.isWrapper; first | (rw [if_pos (by decide +kernel)]; kernel_rfl) | (rw [if_neg (of_decide_eq_false (by kernel_rfl))]; exact ⟨rfl, rfl⟩))
    (fun os started H enc _ F0 => votePlays_lifted os started H enc F0)
#print axioms votePlays_holds
end Go.Proofs.Ytjacpjdikhlcoaa
