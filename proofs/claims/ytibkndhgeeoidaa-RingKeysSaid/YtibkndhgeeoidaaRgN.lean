/- slices.SortFunc at the ring's points. -/
import Derived.Test.YtibkndhgeeoidaaRgC
import Derived.Test.YtibkndhgeeoidaaRgM
import Derived.Shelf.SlSortCmp.NoneTotal
import Derived.Ground.SlsfProg
import Derived.Shelf.Lay
namespace Go.Proofs.Ytibkndhgeeoidaa
set_option linter.unusedSimpArgs false
set_option linter.unusedVariables false
set_option linter.unusedSectionVars false
open Go Go.RowKit Go.Tw
def ptC (p : Int × Int) : List Value := [.int .u64 p.1, .int .i64 p.2]
theorem ptC_len (p : Int × Int) : (ptC p).length = 2 := rfl
def cfP (a b : Int × Int) : Int := Cp.orI [Cp.cmpI a.1 b.1, Cp.cmpI a.2 b.2]
theorem cfP_lt (a b : Int × Int) : decide (cfP a b < 0) = decide (a.1 < b.1 ∨ a.1 = b.1 ∧ a.2 < b.2) := by
  rw [decide_eq_decide]
  unfold cfP
  simp only [Cp.orI, Cp.cmpI]
  (repeat' split) <;> omega
def leP (a b : Int × Int) : Bool := !decide (cfP b a < 0)
def ltP (a b : Int × Int) : Prop := a.1 < b.1 ∨ a.1 = b.1 ∧ a.2 < b.2
theorem leP_iff (a b : Int × Int) : leP a b = true ↔ ¬ ltP b a := by
  unfold leP ltP
  rw [cfP_lt, Bool.not_eq_true', decide_eq_false_iff_not]
theorem sortP_sorted (D : List (Int × Int)) : (D.mergeSort leP).Pairwise (fun a b => leP a b = true) := by
  refine List.pairwise_mergeSort ?_ ?_ _
  · intro a b c h1 h2
    rw [leP_iff] at *
    unfold ltP at *
    omega
  · intro a b
    simp only [Bool.or_eq_true, leP_iff]
    unfold ltP
    omega
end Go.Proofs.Ytibkndhgeeoidaa
namespace Go.Proofs
open Go.RowKit Go.Sort Go.Shelf Go.Lib Go.Proofs.Ytibkndhgeeoidaa
shelf_lay_g SlLaysF0.n6 Slsf 6 at Try 33 as PtSort.sortA
theorem PtSort.lt (a b : Int × Int) : ltOf cfP a b = decide (a.1 < b.1 ∨ a.1 = b.1 ∧ a.2 < b.2) := cfP_lt a b
theorem PtSort.swo : SWO (ltOf cfP) where
  irrefl x := by rw [PtSort.lt]; simp
  trans x y z h1 h2 := by rw [PtSort.lt, decide_eq_true_eq] at *; omega
  ntrans x y z h1 h2 := by rw [PtSort.lt, decide_eq_false_iff_not] at *; omega
theorem PtSort.tot (x y : Int × Int) (h1 : ltOf cfP x y = false) (h2 : ltOf cfP y x = false) : x = y := by
  rw [PtSort.lt, decide_eq_false_iff_not] at h1 h2
  refine Prod.ext ?_ ?_ <;> omega
theorem PtSort.cmps (blk off size : Nat) (w : World) : CmpLays Try.prog 34 #[] ptC 2 cfP blk off size w := fun _ _ _ _ x y => Cp.cmpP_lays x y _
theorem PtSort.flat {D : List (Int × Int)} : (flatK ptC 2 D.toArray).toList = D.flatMap ptC := by
  apply List.ext_getElem?
  intro t
  by_cases ht : t < D.length * 2
  · have hi : t / 2 < D.length := by omega
    have h1 : (flatK ptC 2 D.toArray).toList[t]? = some ((flatK ptC 2 D.toArray)[t]!) := by
      rw [Array.getElem?_toList, getElem!_pos _ t (by simpa using ht)]
      exact Array.getElem?_eq_getElem (by simpa using ht)
    rw [h1, get_flatK _ _ _ _ (by simpa using ht)]
    have h2 : D.toArray[t / 2]! = D[t / 2] := by rw [getElem!_pos D.toArray (t / 2) (by simpa using hi)]; simp
    rw [h2]
    have h3 : (ptC D[t / 2])[t % 2]? = some ((ptC D[t / 2])[t % 2]!) := by
      have : t % 2 < (ptC D[t / 2]).length := by rw [ptC_len]; omega
      rw [getElem!_pos (ptC D[t / 2]) (t % 2) this]; exact List.getElem?_eq_getElem this
    have h4 := Go.Tw.flat_get ptC_len D (t / 2) D[t / 2] (List.getElem?_eq_getElem hi) (t % 2) _ h3
    rw [show t / 2 * 2 + t % 2 = t by omega] at h4
    exact h4.symm
  · rw [List.getElem?_eq_none (by simp; omega), List.getElem?_eq_none (by rw [Go.Tw.flat_len ptC_len]; omega)]
theorem PtSort.heap {w : World} {g n : Nat} {os : Array Obj} {cur : Array Value} {e : TypeId} {fr : Nat × Nat} (d : Array Value) (hb : w.heap[g]? = some (.cells cur e fr)) :
    (grow (putRow id (Sort.ahead w n) g 0 d) os).heap[g]? = some (.cells (putCells id 0 d cur) e fr) := by
  have hg : g < w.heap.size := (Array.getElem?_eq_some_iff.1 hb).1
  rw [heap_grow_old _ _ (by simpa using hg)]
  simp [putRow, mapBlock, Sort.ahead, Array.getElem?_modify, hb, onCells]
theorem PtSort.fr {w : World} {g n : Nat} {os : Array Obj} (d : Array Value) : Go.Tw.Fr w (grow (putRow id (Sort.ahead w n) g 0 d) os) [g] := by
  refine ⟨rfl, rfl, rfl, by simp, fun k hk hne => ?_, fun _ => Nat.le_add_right _ _⟩
  rw [heap_grow_old _ _ (by simpa using hk)]
  have : g ≠ k := fun e => hne (by simp [e])
  simp [putRow, mapBlock, Sort.ahead, Array.getElem?_modify, this]
theorem PtSort.take (cur d : Array Value) (h : d.size ≤ cur.size) : (putCells id 0 d cur).toList.take d.size = d.toList := by
  apply List.ext_getElem?
  intro j
  by_cases hj : j < d.size
  · rw [List.getElem?_take_of_lt hj, Array.getElem?_toList]
    simp [putCells, hj, show j < cur.size by omega]
  · rw [List.getElem?_take_eq_none (by omega), List.getElem?_eq_none (by simp; omega)]
end Go.Proofs
namespace Go.Proofs.Ytibkndhgeeoidaa
open Go.RowKit Go.Sort Go.Shelf Go.Lib Go.Tw
theorem SortP_ct (A : Option Addr) (c : Nat) (D : List (Int × Int)) (w : World) (ho : w.ownsRow 0 74 2 (.slice A D.length c) D.length (D.flatMap ptC)) (hl : D.length < 4611686018427387904) : Calls Try.prog 33 #[.slice A D.length c, .func (.func 34) #[] #[]] w fun e w' => e = .returned (.tuple #[]) ∧ Fr w w' (blk (.slice A D.length c)) ∧ w'.ownsRow 0 74 2 (.slice A D.length c) D.length ((D.mergeSort leP).flatMap ptC) := by
  by_cases hD : D = []
  · subst hD
    refine Calls.mono (AnyF.slices_SortFunc_none { PtSort.sortA with } A c (.func (.func 34) #[] #[]) w) ?_
    rintro e w' ⟨rfl, rfl⟩
    exact ⟨rfl, .refl _ _, by simpa using ho⟩
  · have hpos : 0 < D.length := List.length_pos_iff.2 hD
    obtain ⟨g, cur, rfl, _, hb, hle, hmax, hsz, ht⟩ := own_blkd ho hpos
    have hH : HoldsK ptC 2 w g 0 D.toArray := by
      intro j hj
      have hj' : j < D.length * 2 := by simpa using hj
      refine ⟨?_, by simp [World.frozen?, hb]⟩
      have h1 : (flatK ptC 2 D.toArray).toList[j]? = some ((flatK ptC 2 D.toArray)[j]!) := by
        rw [Array.getElem?_toList, getElem!_pos _ j hj]; exact Array.getElem?_eq_getElem hj
      rw [PtSort.flat, ← ht, List.getElem?_take_of_lt hj', Array.getElem?_toList] at h1
      simp only [World.cell?, hb, Nat.zero_add, Option.isSome_none, Bool.false_eq_true, if_false, id]
      exact h1
    have hc := AnyQ.slices_SortFunc_total PtSort.sortA 2 (fun _ => by kernel_rfl) (fun _ => by kernel_rfl) ptC ptC_len (fun x v hv => by simp [ptC] at hv; rcases hv with rfl | rfl <;> rfl) cfP PtSort.swo 34 #[] g 0 c D.toArray w (enters_of Try.func34 (by kernel_rfl) rfl) (PtSort.cmps _ _ _ _) hH (lt_of_heap hb) (by simpa using hl) PtSort.tot
    have hs : D.toArray.size = D.length := by simp
    rw [hs] at hc
    refine Calls.mono hc ?_
    rintro e w' ⟨rfl, n, os, rfl⟩
    have hbk : blk (Value.slice (some ⟨g, 0, none⟩) D.length c) = [g] := by simp [blk, Value.ownBlock]
    have hle' : (D.toArray.toList.mergeSort fun x y => !(ltOf cfP) y x) = D.mergeSort leP := rfl
    rw [hbk, hle']
    refine ⟨rfl, PtSort.fr _, ?_⟩
    have hh := PtSort.heap (n := n) (os := os) (flatK ptC 2 (D.mergeSort leP).toArray) hb
    refine own_of_blk (Nat.zero_le _) hh hle hmax (by simp [putCells, hsz]) ?_
    have hf : (flatK ptC 2 (D.mergeSort leP).toArray).size = D.length * 2 := by simp
    rw [← hf, PtSort.take _ _ (by rw [hf, hsz]; exact Nat.mul_le_mul_right _ hle), PtSort.flat]
end Go.Proofs.Ytibkndhgeeoidaa
