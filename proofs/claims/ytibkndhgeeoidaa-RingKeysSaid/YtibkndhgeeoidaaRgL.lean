/- slices.AppendSeq over slices.Values at this program's ints. -/
import Derived.Test.YtibkndhgeeoidaaRgK
import Derived.RangeFuncWrites
import Derived.Maps.AppendAt
import Derived.Shelf.SlIter.Collect
namespace Go.Proofs
set_option linter.unusedSimpArgs false
set_option linter.unusedVariables false
set_option linter.unusedSectionVars false
open Go.RowKit Go.Shelf Go.Maps
attribute [local go_sem] Oper.semAt_some
theorem RgS.info3 : ∃ i, Try.prog.info? 3 = some i ∧ i.zero = some (.int .i64 0) ∧ i.size = 1 ∧ i.bytes = 8 := by
  have h : ((Try.prog.info? 3).map fun i => (i.zero, i.size, i.bytes)) = some (some (.int .i64 0), 1, 8) := by kernel_rfl
  obtain ⟨i, hi, e⟩ := Option.map_eq_some_iff.1 h
  simp only [Prod.mk.injEq] at e
  exact ⟨i, hi, e.1, e.2.1, e.2.2⟩
def RgS.enc (x : Int) : Value := .int .i64 x
/-- slices.AppendSeq of nothing and slices.Values: a row of the call's own that holds the slice's elements -/
structure RgS.At (w0 : World) (pre : List Int) (W : World) : Prop where
  box : ∃ v, W.heap[w0.heap.size]? = some (.cells #[v] 31 (0, 0)) ∧ W.ownsRow w0.heap.size 3 1 v pre.length (pre.map RgS.enc)
  below : Below w0.heap.size w0 W
theorem RgS.cell_of {W : World} {B : Nat} {v : Value} {t : TypeId} (h : W.heap[B]? = some (.cells #[v] t (0, 0))) : W.cell? ⟨B, 0, none⟩ = some v ∧ W.frozen? ⟨B, 0, none⟩ = false := by
  constructor <;> simp [World.cell?, World.frozen?, h]
theorem RgS.row_ne {W : World} {base : Nat} {v : Value} {k : Nat} {xs : List Value} (h : W.ownsRow base 3 1 v k xs) {j : Nat} {o : Obj} (hj : W.heap[j]? = some o) (hno : ∀ cur, o ≠ .cells cur 3 (0, 0)) : v.ownBlock = none ∨ v.ownBlock ≠ some j := by
  rcases h.2 with ⟨rfl, _⟩ | ⟨g, cap, cur, rfl, _, hgb, _⟩
  · exact .inl rfl
  · refine .inr fun e => ?_
    have e2 : g = j := by simpa [Value.ownBlock] using e
    subst e2
    rw [hgb] at hj
    exact hno cur (Option.some.inj hj).symm
theorem RgS.at_own (w0 : World) (B : Nat) (hB : w0.heap.size ≤ B) : OwnFrom B (RgS.At w0) := fun s W W' row h hg hr => by
  obtain ⟨v, hv, hrow⟩ := h.box
  have hr' : ∀ r, row = some r → ∃ o : Obj, W.heap[r]? = some o ∧ o.isCells = false := fun r e => (hr r e).2
  refine ⟨⟨v, (grownBy_keeps_cells hg hr' hv rfl).trans hv, hrow.kept hg ?_⟩, h.below.grown hg h.below.size (fun k e => Nat.le_trans hB (hr k e).1)⟩
  cases hrw : row with
  | none => exact Classical.em _
  | some r =>
    obtain ⟨o, ho, hc⟩ := hr' r hrw
    exact RgS.row_ne hrow ho (fun cur e => by subst e; cases hc)
set_option maxRecDepth 100000 in
set_option maxHeartbeats 2000000 in
theorem RgS.append_in (F : Fence) (n : Nat) (h67 : F.fn 67) (h53 : F.fn 53) (hro : F.round = none) (hn : 3 ≤ n) (Bs : Nat) (sv : Value) (zs : List Int) (hreach : zs.length * 8 ≤ 140737488351232) (w : World) (hBs : Bs < w.heap.size)
    (hc : w.cell? ⟨Bs, 0, none⟩ = some sv) (hI : RgS.Ints w.heap.size w sv zs) :
    CallsIn F n Try.prog 67 #[.slice none 0 0, .func (.func 53) #[] #[.pointer (some ⟨Bs, 0, none⟩)]] w fun e w' => ∃ v, e = .returned v ∧ w'.ownsRow w.heap.size 3 1 v zs.length (zs.map RgS.enc) ∧ Below w.heap.size w w' := by
  have h1 : 1 ≤ n := by omega
  refine callsIn_of_wp_marks Try.func67 rfl h67 ?_ hro
  simp only [Try.ntmps67, List.size_toArray, List.length_cons, List.length_nil, Nat.reduceAdd, Nat.reduceSub, Array.replicate_succ, Array.replicate_zero, List.push_toArray, List.append_toArray, List.nil_append, List.cons_append]
  gi_wp2
  have bN := World.alloc_heap_new w (.cells #[.slice none 0 0] 31)
  have hB0 : Below w.heap.size w (w.alloc (.cells #[.slice none 0 0] 31)) := (Below.refl _ w).alloc (Nat.le_refl _) _
  refine wpIn_rangeFunc_ownG hro h1 (gf := 53) (lb := #[.pointer (some ⟨Bs, 0, none⟩)]) rfl h53 (enters_of Try.func53 (by kernel_rfl) rfl)
    (RgS.values_stops F (n - 1) h53 hro (by omega) Bs w.heap.size sv zs hreach _ (by simp; omega) (by simp) ((hB0.cell (p := ⟨Bs, 0, none⟩) hBs).trans hc) (hI.below hB0)) belowK_t (belowK_b (by simp)) (Below.refl _ _) (fun _ => rfl)
    (RgS.At w) (fun _ _ _ => False) (RgS.at_own w _ (by simp)) (fun _ _ _ _ _ hs _ _ => hs)
    ⟨⟨_, bN, ⟨rfl, .inl ⟨rfl, rfl⟩⟩⟩, hB0⟩
    (fun x => { tmps := #[.slice none 0 0, .func (.func 53) #[] #[.pointer (some ⟨Bs, 0, none⟩)], .pointer (some ⟨w.heap.size, 0, none⟩), undef, .slice none 0 0, .int .i64 x, .func (.func 53) #[] #[.pointer (some ⟨Bs, 0, none⟩)], .int .i64 x, undef, undef, undef, undef, undef], defers := [] }) ?assign ?body ?done ?stop
  case assign =>
    intro l x W K hK
    gi_wp2
    exact hK
  case body =>
    rintro l pre x W ⟨⟨v, hv, hrow⟩, hB⟩ hlen
    obtain ⟨i0, hi, hz0, hz1, hz2⟩ := RgS.info3
    obtain ⟨hc2, hf2⟩ := RgS.cell_of hv
    have hBlt : w.heap.size < W.heap.size := (Array.getElem?_eq_some_iff.1 hv).1
    have hne : some w.heap.size ≠ v.ownBlock := by
      rcases RgS.row_ne hrow hv (fun cur e => by have := (Obj.cells.inj e).2.1; cases this) with e | e
      · rw [e]; simp
      · exact fun q => e q.symm
    have hnl : w.heap.size ≤ W.heap.size := hB.size
    gi_wp2_with (first
      | (gi_at_builtin; refine wpListIn_append_own _ rfl _ _ 31 rfl w.heap.size 3 i0 (.int .i64 0) 1 8 rfl hi hz0 hz1 hz2 rfl (by decide) _ _ _ rfl (hrow.alloc _) ⟨W.heap.size, 0, none⟩ 1 1 [RgS.enc x] rfl rfl (cell_one_new _ _ _) (by simp [Value.oneCell', RgS.enc]) (by simp only [maxLen]; omega) (by omega) (by simp; omega) ?_; intro v' w3 hown' hg3 hnil3
         have hg3' : (W.alloc (.cells #[RgS.enc x] 3)).grownBy w3 v.ownBlock := hg3
         have hv3 : w3.heap[w.heap.size]? = some (.cells #[v] 31 (0, 0)) := (hg3'.block w.heap.size (by simp; omega) hne).trans ((Below.heap_alloc _ _ w.heap.size hBlt).trans hv)
         obtain ⟨hc3, hf3⟩ := RgS.cell_of hv3
         obtain ⟨g', cap', cur', rfl, hbase', hgb', hr1, hr2, hr3, hr4⟩ : ∃ g' cap' cur', v' = .slice (some ⟨g', 0, none⟩) (pre.length + 1) cap' ∧ w.heap.size ≤ g' ∧ w3.heap[g']? = some (.cells cur' 3 (0, 0)) ∧ pre.length + 1 ≤ cap' ∧ cap' ≤ maxLen ∧ cur'.size = cap' * 1 ∧ cur'.toList.take ((pre.length + 1) * 1) = pre.map RgS.enc ++ [RgS.enc x] := by
           rcases hown'.2 with ⟨_, h0⟩ | h'
           · exact absurd h0 (by omega)
           · exact h'
         go_frame)
      | fail)
    obtain ⟨w4, hw4⟩ : ∃ w4, w3.setCell ⟨w.heap.size, 0, none⟩ (.slice (some ⟨g', 0, none⟩) (pre.length + 1) cap') = w4 := ⟨_, rfl⟩
    have hk4 : KeepsOthers w3 w4 := by rw [← hw4]; exact KeepsOthers.setCell _ _ _
    have hg4 : w3.grownBy w4 (some w.heap.size) := by rw [← hw4]; exact grownBy_setCell0_a _ _ _
    have hv4 : w4.heap[w.heap.size]? = some (.cells #[.slice (some ⟨g', 0, none⟩) (pre.length + 1) cap'] 31 (0, 0)) := by rw [← hw4]; exact heap_setCell_box_a _ hv3
    rw [hw4]
    have hr5 := hown'.kept hg4 (RgS.row_ne hown' hv3 (fun cur e => by have := (Obj.cells.inj e).2.1; cases this))
    have hko : KeepsOthers W w4 := ((KeepsOthers.alloc W _).trans (KeepsOthers.of_grownBy hg3' (fun j o e hj => by
      rcases (hrow.alloc (.cells #[RgS.enc x] 3)).2 with ⟨rfl, _⟩ | ⟨g, cap, cur, rfl, _, hgb, _⟩
      · cases e
      · have e2 : g = j := by simpa [Value.ownBlock] using e
        subst e2; rw [hgb] at hj; cases hj; rfl))).trans hk4
    have hb3 : Below w.heap.size W w3 := ((Below.refl w.heap.size W).alloc hnl _).grown hg3' (by simp; omega) (fun k e => (hrow.lt k e).1)
    have hb4 : Below w.heap.size W w4 := hb3.grown hg4 (Nat.le_trans hnl hb3.size) (fun k e => by cases e; exact Nat.le_refl _)
    exact ⟨hko.from _, hb4, ⟨⟨_, hv4, by simpa using hr5⟩, hB.trans hb4⟩⟩
  case done =>
    rintro D ys W hD rfl ⟨⟨v, hv, hrow⟩, hB⟩ hK
    obtain ⟨hc2, hf2⟩ := RgS.cell_of hv
    gi_wp2
    refine ⟨by simp, .inl ⟨_, _, rfl, run_takeDeferred hK, ?_⟩⟩
    exact ⟨_, results_tmp rfl _ _ _, v, rfl, hrow.kept (grownBy_putObj' _ _ _) (RgS.row_ne hrow hK (fun cur e => by cases e)), hB.trans (belowK_b (w := w) (Nat.le_refl _) W D _ _ (by simp at hD; omega) hK rfl rfl)⟩
  case stop =>
    rintro D c pre W _ _ h _
    exact h.elim
end Go.Proofs
