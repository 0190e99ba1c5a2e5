/- slices.Values as an iterator, slices.AppendSeq over it, at addresses. -/
import Derived.Test.YtmahghppojbeoaaSeK
import Derived.RangeFuncBox
import Derived.RangeFuncLeaves
import Derived.RangeFuncWrites
import Derived.Maps.AppendAt
import Derived.Shelf.SlIter.Collect
import Derived.Shelf.Abstract
import Derived.WalkKit
import Derived.OwnWalkIn
import Derived.TacticsInMore
import Derived.LoopNIn
import Derived.LoopIn
import Derived.Shelf.SortM.So_math_bits_LenInS
import Derived.Sort.EveryDepth
namespace Go.Proofs
set_option linter.unusedSimpArgs false
set_option linter.unusedVariables false
set_option linter.unusedSectionVars false
open Go.RowKit Go.Shelf
attribute [local go_sem] Oper.semAt_some
/-- the elements that have come -/
def RgS.upto (zs : List Int) (k : Nat) : List Int := (List.range k).map fun j => zs[j]?.getD 0
theorem RgS.upto_succ (zs : List Int) (k : Nat) : RgS.upto zs (k + 1) = RgS.upto zs k ++ [zs[k]?.getD 0] := by simp [RgS.upto, List.range_succ]
theorem RgS.upto_length (zs : List Int) (k : Nat) : (RgS.upto zs k).length = k := by simp [RgS.upto]
theorem RgS.upto_take (zs : List Int) {k : Nat} (hk : k ≤ zs.length) : RgS.upto zs k = zs.take k := by
  apply List.ext_getElem
  · simp [RgS.upto, hk]
  · intro i h1 h2
    have : i < zs.length := by simp [RgS.upto] at h1; omega
    simp [RgS.upto, this]
theorem RgS.upto_all (zs : List Int) : RgS.upto zs zs.length = zs := by rw [RgS.upto_take zs (Nat.le_refl _), List.take_length]
set_option maxRecDepth 100000 in
set_option maxHeartbeats 2000000 in
theorem RgS.values1_in (F : Fence) (n : Nat) (h7 : F.fn 57) (hro : F.round = none) (hn : 1 ≤ n) (l Bs n₀ b off len cap : Nat) (zs : List Int) (hreach : len * 8 ≤ 140737488351232) (hb : b < n₀) (J Jx : List Int → World → Prop)
    (hY : ∀ pre x W, J pre W → pre.length < len → YieldAt F (n - 1) Try.prog l #[.int .u32 x] W fun e W' =>
      (e = .returned (.bool true) ∧ J (pre ++ [x]) W' ∧ Below n₀ W W') ∨ (e = .returned (.bool false) ∧ Jx (pre ++ [x]) W'))
    (W : World) (hBs : W.cell? ⟨Bs, 0, none⟩ = some (.slice (some ⟨b, off, none⟩) len cap)) (hc : ∀ j, j < len → W.cell? ⟨b, off + j, none⟩ = some (.int .u32 (zs[j]?.getD 0))) (h0 : J [] W) :
    CallsIn F n Try.prog 57 #[.func (.yield l) #[] #[], .pointer (some ⟨Bs, 0, none⟩)] W fun e W' => (∃ v, e = .returned v) ∧
      ((∃ ys, ys = RgS.upto zs len ∧ J ys W') ∨ (∃ pre, (∃ k, k ≤ len ∧ pre = RgS.upto zs k) ∧ Jx pre W')) := by
  refine callsIn_of_wp Try.func57 rfl h7 ?_ hro
  simp only [Try.ntmps57, List.size_toArray, List.length_cons, List.length_nil, Nat.reduceAdd, Nat.reduceSub, Array.replicate_succ, Array.replicate_zero, List.push_toArray, List.append_toArray, List.nil_append, List.cons_append]
  gi_wp2
  gi_loopw [7] (fun i wr => ∃ k : Nat, k ≤ len ∧ i = .int .i64 k ∧ J (RgS.upto zs k) wr ∧ Below n₀ W wr)
    (fun i _ => len - (intOf i).toNat)
  case atStart => exact ⟨0, Nat.zero_le _, rfl, h0, Below.refl _ _⟩
  case round =>
    obtain ⟨k, hk, rfl, hJs, hnx⟩ := hrel
    have hcx : k < len → wr.cell? ⟨b, off + k, none⟩ = some (.int .u32 (zs[k]?.getD 0)) := fun h => (hnx.cell (p := ⟨b, off + k, none⟩) hb).trans (hc k h)
    by_cases hlt : k < len
    · obtain ⟨fn, tmps, assign, body, hy, hR⟩ := hY _ (zs[k]?.getD 0) wr hJs (by rw [RgS.upto_length]; exact hlt)
      have hcx' := hcx hlt
      gi_wp2
      refine hR.mono ?_
      rintro e W3 (⟨rfl, hJ3, hk3⟩ | ⟨rfl, hJx3⟩)
      · gi_wp2
        go_roundw
        case rel => exact ⟨k + 1, by omega, by simp, by rw [RgS.upto_succ]; exact hJ3, hnx.trans hk3⟩
        case measure => simp [intOf]; omega
      · gi_wp2
        refine bodyPost_ret (results_none rfl _ _ _) rfl ?_
        exact ⟨⟨_, rfl⟩, .inr ⟨_, ⟨k + 1, by omega, (RgS.upto_succ _ _).symm⟩, hJx3⟩⟩
    · obtain rfl : k = len := by omega
      gi_wp2
      go_end0
      exact ⟨⟨_, rfl⟩, .inl ⟨_, rfl, hJs⟩⟩
def RgS.Ints (n₀ : Nat) (W : World) (sv : Value) (zs : List Int) : Prop :=
  (∃ A c, sv = .slice A 0 c ∧ zs = []) ∨ ∃ b off cap, sv = .slice (some ⟨b, off, none⟩) zs.length cap ∧ b < n₀ ∧ ∀ j, j < zs.length → W.cell? ⟨b, off + j, none⟩ = some (.int .u32 (zs[j]?.getD 0))
theorem RgS.Ints.below {n₀ : Nat} {A B : World} (h : Below n₀ A B) {sv : Value} {zs : List Int} : RgS.Ints n₀ A sv zs → RgS.Ints n₀ B sv zs
  | .inl e => .inl e
  | .inr ⟨b, off, cap, e, hb, hc⟩ => .inr ⟨b, off, cap, e, hb, fun j hj => (h.cell (p := ⟨b, off + j, none⟩) hb).trans (hc j hj)⟩
set_option maxRecDepth 100000 in
set_option maxHeartbeats 1000000 in
theorem RgS.values1_nil_in (F : Fence) (n : Nat) (h7 : F.fn 57) (hro : F.round = none) (l Bs : Nat) (A : Option Addr) (c : Nat) (J : List Int → World → Prop) (W : World) (hBs : W.cell? ⟨Bs, 0, none⟩ = some (.slice A 0 c)) (h0 : J [] W) :
    CallsIn F n Try.prog 57 #[.func (.yield l) #[] #[], .pointer (some ⟨Bs, 0, none⟩)] W fun e W' => (∃ v, e = .returned v) ∧ J [] W' := by
  refine callsIn_of_wp Try.func57 rfl h7 ?_ hro
  simp only [Try.ntmps57, List.size_toArray, List.length_cons, List.length_nil, Nat.reduceAdd, Nat.reduceSub, Array.replicate_succ, Array.replicate_zero, List.push_toArray, List.append_toArray, List.nil_append, List.cons_append]
  gi_wp2
  gi_loopw [7] (fun i wr => i = .int .i64 0 ∧ J [] wr) (fun _ _ => 0)
  case atStart => exact ⟨rfl, h0⟩
  case round =>
    obtain ⟨rfl, hJs⟩ := hrel
    gi_wp2
    go_end0
    exact ⟨⟨_, rfl⟩, hJs⟩
theorem RgS.values_stops (F : Fence) (n : Nat) (h7 : F.fn 57) (hro : F.round = none) (hn : 1 ≤ n) (Bs n₀ : Nat) (sv : Value) (zs : List Int) (hreach : zs.length * 8 ≤ 140737488351232) (w : World) (hBs : Bs < w.heap.size) (hn₀ : n₀ ≤ w.heap.size)
    (hc : w.cell? ⟨Bs, 0, none⟩ = some sv) (hI : RgS.Ints n₀ w sv zs) :
    SeqStopsK F n Try.prog 57 #[.pointer (some ⟨Bs, 0, none⟩)] (fun x : Int => #[Value.int .u32 x]) (Below n₀) (fun ys => ys = zs) (fun pre => pre <+: zs) zs.length w := fun l J Jx W hW _ _ hY h0 => by
  have hc' := (hW.cell (p := ⟨Bs, 0, none⟩) hBs).trans hc
  rcases hI.below (hW.mono hn₀) with ⟨A, c, rfl, rfl⟩ | ⟨b, off, cap, rfl, hb, hcs⟩
  · exact (RgS.values1_nil_in F n h7 hro l Bs A c J W hc' h0).mono fun e W' ⟨he, hj⟩ => ⟨he, .inl ⟨_, rfl, hj⟩⟩
  · refine (RgS.values1_in F n h7 hro hn l Bs n₀ b off zs.length cap zs hreach hb J Jx hY W hc' hcs h0).mono ?_
    rintro e W' ⟨he, ⟨ys, rfl, hj⟩ | ⟨pre, ⟨k, hk, rfl⟩, hj⟩⟩
    · exact ⟨he, .inl ⟨_, RgS.upto_all zs, hj⟩⟩
    · exact ⟨he, .inr ⟨_, by rw [RgS.upto_take zs hk]; exact List.take_prefix _ _, hj⟩⟩
end Go.Proofs

namespace Go.Proofs
set_option linter.unusedSimpArgs false
set_option linter.unusedVariables false
set_option linter.unusedSectionVars false
open Go.RowKit Go.Shelf Go.Maps
attribute [local go_sem] Oper.semAt_some
theorem RgS.info3 : ∃ i, Try.prog.info? 44 = some i ∧ i.zero = some (.int .u32 0) ∧ i.size = 1 ∧ i.bytes = 4 := by
  have h : ((Try.prog.info? 44).map fun i => (i.zero, i.size, i.bytes)) = some (some (.int .u32 0), 1, 4) := by kernel_rfl
  obtain ⟨i, hi, e⟩ := Option.map_eq_some_iff.1 h
  simp only [Prod.mk.injEq] at e
  exact ⟨i, hi, e.1, e.2.1, e.2.2⟩
def RgS.enc (x : Int) : Value := .int .u32 x
/-- slices.AppendSeq of nothing and slices.Values: a row of the call's own that holds the slice's elements -/
structure RgS.At (w0 : World) (pre : List Int) (W : World) : Prop where
  box : ∃ v, W.heap[w0.heap.size]? = some (.cells #[v] 33 (0, 0)) ∧ W.ownsRow w0.heap.size 44 1 v pre.length (pre.map RgS.enc)
  below : Below w0.heap.size w0 W
theorem RgS.cell_of {W : World} {B : Nat} {v : Value} {t : TypeId} (h : W.heap[B]? = some (.cells #[v] t (0, 0))) : W.cell? ⟨B, 0, none⟩ = some v ∧ W.frozen? ⟨B, 0, none⟩ = false := by
  constructor <;> simp [World.cell?, World.frozen?, h]
theorem RgS.row_ne {W : World} {base : Nat} {v : Value} {k : Nat} {xs : List Value} (h : W.ownsRow base 44 1 v k xs) {j : Nat} {o : Obj} (hj : W.heap[j]? = some o) (hno : ∀ cur, o ≠ .cells cur 44 (0, 0)) : v.ownBlock = none ∨ v.ownBlock ≠ some j := by
  rcases h.2 with ⟨rfl, _⟩ | ⟨g, cap, cur, rfl, _, hgb, _⟩
  · exact .inl rfl
  · refine .inr fun e => ?_
    have e2 : g = j := by simpa [Value.ownBlock] using e
    subst e2
    rw [hgb] at hj
    exact hno cur (Option.some.inj hj).symm
theorem RgS.at_own (w0 : World) (B : Nat) (hB : w0.heap.size ≤ B) : OwnFrom B (RgS.At w0) := fun s W W' row h hg hr => by
  obtain ⟨v, hv, hrow⟩ := h.box
  have hr' : ∀ r, row = some r → ∃ o : Obj, W.heap[r]? = some o ∧ o.isCells = false := fun r e => (hr r e).2
  refine ⟨⟨v, (grownBy_keeps_cells hg hr' hv rfl).trans hv, hrow.kept hg ?_⟩, h.below.grown hg h.below.size (fun k e => Nat.le_trans hB (hr k e).1)⟩
  cases hrw : row with
  | none => exact Classical.em _
  | some r =>
    obtain ⟨o, ho, hc⟩ := hr' r hrw
    exact RgS.row_ne hrow ho (fun cur e => by subst e; cases hc)
set_option maxRecDepth 100000 in
set_option maxHeartbeats 2000000 in
theorem RgS.append_in (F : Fence) (n : Nat) (h65 : F.fn 65) (h57 : F.fn 57) (hro : F.round = none) (hn : 3 ≤ n) (Bs : Nat) (sv : Value) (zs : List Int) (hreach : zs.length * 8 ≤ 140737488351232) (w : World) (hBs : Bs < w.heap.size)
    (hc : w.cell? ⟨Bs, 0, none⟩ = some sv) (hI : RgS.Ints w.heap.size w sv zs) :
    CallsIn F n Try.prog 65 #[.slice none 0 0, .func (.func 57) #[] #[.pointer (some ⟨Bs, 0, none⟩)]] w fun e w' => ∃ v, e = .returned v ∧ w'.ownsRow w.heap.size 44 1 v zs.length (zs.map RgS.enc) ∧ Below w.heap.size w w' := by
  have h1 : 1 ≤ n := by omega
  refine callsIn_of_wp_marks Try.func65 rfl h65 ?_ hro
  simp only [Try.ntmps65, List.size_toArray, List.length_cons, List.length_nil, Nat.reduceAdd, Nat.reduceSub, Array.replicate_succ, Array.replicate_zero, List.push_toArray, List.append_toArray, List.nil_append, List.cons_append]
  gi_wp2
  have bN := World.alloc_heap_new w (.cells #[.slice none 0 0] 33)
  have hB0 : Below w.heap.size w (w.alloc (.cells #[.slice none 0 0] 33)) := (Below.refl _ w).alloc (Nat.le_refl _) _
  refine wpIn_rangeFunc_ownG hro h1 (gf := 57) (lb := #[.pointer (some ⟨Bs, 0, none⟩)]) rfl h57 (enters_of Try.func57 (by kernel_rfl) rfl)
    (RgS.values_stops F (n - 1) h57 hro (by omega) Bs w.heap.size sv zs hreach _ (by simp; omega) (by simp) ((hB0.cell (p := ⟨Bs, 0, none⟩) hBs).trans hc) (hI.below hB0)) belowK_t (belowK_b (by simp)) (Below.refl _ _) (fun _ => rfl)
    (RgS.At w) (fun _ _ _ => False) (RgS.at_own w _ (by simp)) (fun _ _ _ _ _ hs _ _ => hs)
    ⟨⟨_, bN, ⟨rfl, .inl ⟨rfl, rfl⟩⟩⟩, hB0⟩
    (fun x => { tmps := #[.slice none 0 0, .func (.func 57) #[] #[.pointer (some ⟨Bs, 0, none⟩)], .pointer (some ⟨w.heap.size, 0, none⟩), undef, .slice none 0 0, .int .u32 x, .func (.func 57) #[] #[.pointer (some ⟨Bs, 0, none⟩)], .int .u32 x, undef, undef, undef, undef, undef], defers := [] }) ?assign ?body ?done ?stop
  case assign =>
    intro l x W K hK
    gi_wp2
    exact hK
  case body =>
    rintro l pre x W ⟨⟨v, hv, hrow⟩, hB⟩ hlen
    obtain ⟨i0, hi, hz0, hz1, hz2⟩ := RgS.info3
    obtain ⟨hc2, hf2⟩ := RgS.cell_of hv
    have hBlt : w.heap.size < W.heap.size := (Array.getElem?_eq_some_iff.1 hv).1
    have hne : some w.heap.size ≠ v.ownBlock := by
      rcases RgS.row_ne hrow hv (fun cur e => by have := (Obj.cells.inj e).2.1; cases this) with e | e
      · rw [e]; simp
      · exact fun q => e q.symm
    have hnl : w.heap.size ≤ W.heap.size := hB.size
    gi_wp2_with (first
      | (gi_at_builtin; refine wpListIn_append_own _ rfl _ _ 33 rfl w.heap.size 44 i0 (.int .u32 0) 1 4 rfl hi hz0 hz1 hz2 rfl (by decide) _ _ _ rfl (hrow.alloc _) ⟨W.heap.size, 0, none⟩ 1 1 [RgS.enc x] rfl rfl (cell_one_new _ _ _) (by simp [Value.oneCell', RgS.enc]) (by simp only [maxLen]; omega) (by omega) (by simp; omega) ?_; intro v' w3 hown' hg3 hnil3
         have hg3' : (W.alloc (.cells #[RgS.enc x] 44)).grownBy w3 v.ownBlock := hg3
         have hv3 : w3.heap[w.heap.size]? = some (.cells #[v] 33 (0, 0)) := (hg3'.block w.heap.size (by simp; omega) hne).trans ((Below.heap_alloc _ _ w.heap.size hBlt).trans hv)
         obtain ⟨hc3, hf3⟩ := RgS.cell_of hv3
         obtain ⟨g', cap', cur', rfl, hbase', hgb', hr1, hr2, hr3, hr4⟩ : ∃ g' cap' cur', v' = .slice (some ⟨g', 0, none⟩) (pre.length + 1) cap' ∧ w.heap.size ≤ g' ∧ w3.heap[g']? = some (.cells cur' 44 (0, 0)) ∧ pre.length + 1 ≤ cap' ∧ cap' ≤ maxLen ∧ cur'.size = cap' * 1 ∧ cur'.toList.take ((pre.length + 1) * 1) = pre.map RgS.enc ++ [RgS.enc x] := by
           rcases hown'.2 with ⟨_, h0⟩ | h'
           · exact absurd h0 (by omega)
           · exact h'
         go_frame)
      | fail)
    obtain ⟨w4, hw4⟩ : ∃ w4, w3.setCell ⟨w.heap.size, 0, none⟩ (.slice (some ⟨g', 0, none⟩) (pre.length + 1) cap') = w4 := ⟨_, rfl⟩
    have hk4 : KeepsOthers w3 w4 := by rw [← hw4]; exact KeepsOthers.setCell _ _ _
    have hg4 : w3.grownBy w4 (some w.heap.size) := by rw [← hw4]; exact grownBy_setCell0_a _ _ _
    have hv4 : w4.heap[w.heap.size]? = some (.cells #[.slice (some ⟨g', 0, none⟩) (pre.length + 1) cap'] 33 (0, 0)) := by rw [← hw4]; exact heap_setCell_box_a _ hv3
    rw [hw4]
    have hr5 := hown'.kept hg4 (RgS.row_ne hown' hv3 (fun cur e => by have := (Obj.cells.inj e).2.1; cases this))
    have hko : KeepsOthers W w4 := ((KeepsOthers.alloc W _).trans (KeepsOthers.of_grownBy hg3' (fun j o e hj => by
      rcases (hrow.alloc (.cells #[RgS.enc x] 44)).2 with ⟨rfl, _⟩ | ⟨g, cap, cur, rfl, _, hgb, _⟩
      · cases e
      · have e2 : g = j := by simpa [Value.ownBlock] using e
        subst e2; rw [hgb] at hj; cases hj; rfl))).trans hk4
    have hb3 : Below w.heap.size W w3 := ((Below.refl w.heap.size W).alloc hnl _).grown hg3' (by simp; omega) (fun k e => (hrow.lt k e).1)
    have hb4 : Below w.heap.size W w4 := hb3.grown hg4 (Nat.le_trans hnl hb3.size) (fun k e => by cases e; exact Nat.le_refl _)
    exact ⟨hko.from _, hb4, ⟨⟨_, hv4, by simpa using hr5⟩, hB.trans hb4⟩⟩
  case done =>
    rintro D ys W hD rfl ⟨⟨v, hv, hrow⟩, hB⟩ hK
    obtain ⟨hc2, hf2⟩ := RgS.cell_of hv
    gi_wp2
    refine ⟨by simp, .inl ⟨_, _, rfl, run_takeDeferred hK, ?_⟩⟩
    exact ⟨_, results_tmp rfl _ _ _, v, rfl, hrow.kept (grownBy_putObj' _ _ _) (RgS.row_ne hrow hK (fun cur e => by cases e)), hB.trans (belowK_b (w := w) (Nat.le_refl _) W D _ _ (by simp at hD; omega) hK rfl rfl)⟩
  case stop =>
    rintro D c pre W _ _ h _
    exact h.elim
end Go.Proofs

namespace Go.Proofs.Ytmahghppojbeoaa
set_option linter.unusedSimpArgs false
set_option linter.unusedVariables false
set_option linter.unusedSectionVars false
open Go Go.RowKit Go.Tw
theorem enc_flat (D : List Int) : D.map Go.Proofs.RgS.enc = D.flatMap (Go.Tw.encI .u32) := by
  induction D with
  | nil => rfl
  | cons a r ih => simp only [List.map_cons, List.flatMap_cons, ih]; rfl
theorem append_ct (A : Option Addr) (m c : Nat) (zs : List Int) (Bs : Nat) (w : World) (hB : w.heap[Bs]? = some (.cells #[.slice A m c] 33 (0, 0))) (hm : zs.length = m) (hr : Rd w 1 (Go.Tw.encI .u32) A zs) (hl : m ≤ 1099511627776) :
    Calls Try.prog 65 #[.slice none 0 0, .func (.func 57) #[] #[.pointer (some ⟨Bs, 0, none⟩)]] w fun e w' => ∃ v, e = .returned v ∧ Fr w w' [] ∧ w'.ownsRow w.heap.size 44 1 v zs.length (zs.flatMap (Go.Tw.encI .u32)) := by
  subst hm
  have hc := (Go.Proofs.RgS.cell_of hB).1
  have hI : Go.Proofs.RgS.Ints w.heap.size w (.slice A zs.length c) zs := by
    by_cases hz : zs = []
    · subst hz; exact .inl ⟨A, c, rfl, rfl⟩
    · have hpos : 0 < zs.length := List.length_pos_iff.2 hz
      obtain ⟨x, hx⟩ := get_some (xs := zs) (i := 0) hpos
      obtain ⟨b, off, rfl, hcell⟩ := hr.at_ 0 x hx
      have hall : ∀ j, j < zs.length → w.cell? ⟨b, off + j, none⟩ = some (.int .u32 (zs[j]?.getD 0)) := fun j hj => by
        obtain ⟨y, hy⟩ := get_some (xs := zs) (i := j) hj
        obtain ⟨b2, o2, e, hc2⟩ := hr.at_ j y hy
        cases e
        have := hc2 0 (.int .u32 y) (by simp [Go.Tw.encI])
        rw [hy]
        simpa using this
      exact .inr ⟨b, off, c, rfl, World.block_lt_of_cell? w ⟨b, off + 0, none⟩ (hall 0 hpos), hall⟩
  refine (callsIn_wide (n := 6)).1 ((Go.Proofs.RgS.append_in Fence.wide 6 trivial trivial rfl (by omega) Bs _ zs (by omega) w (lt_of_heap hB) hc hI).mono ?_)
  rintro e w' ⟨v, rfl, hrow, hbel⟩
  exact ⟨v, rfl, Fr.of_below hbel (fun h_ => h_.elim), by rw [← enc_flat]; exact hrow⟩
end Go.Proofs.Ytmahghppojbeoaa

namespace Go.Proofs.Ytmahghppojbeoaa
set_option linter.unusedSimpArgs false
set_option linter.unusedVariables false
set_option linter.unusedSectionVars false
open Go Go.RowKit Go.Tw
theorem Len_ct (x : Int) (w : World) (h0 : 0 ≤ x) (h1 : x ≤ 18446744073709551615) : Calls Try.prog 67 #[.int .u64 x] w fun e w' => ∃ r, e = .returned (.int .i64 r) ∧ Fr w w' [] :=
  Calls.mono (Go.calls_of_every_depth fun D => Go.Proofs.AnySM.bits_LenInS (P := Try.prog) (ρ := Go.Proofs.SkKeys.sortA_ren) { Go.Proofs.SkKeys.sortA with } D x w h0 h1) fun _ _ ⟨h, h2⟩ => ⟨_, h, h2 ▸ Fr.refl _ _⟩
end Go.Proofs.Ytmahghppojbeoaa
