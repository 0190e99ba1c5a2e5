/- The lists of ints that slices.Collect and slices.Sort make, in the walk's words. -/
import Derived.Test.YtibkndhgeeoidaaRgL
import Derived.Test.YtibkndhgeeoidaaTwUnr
import Derived.Shelf.SortM.Plain
import Derived.Shelf.SortM.SortNone
import Derived.Ground.SlgmProg
import Derived.Lib.SlKeysI
import Derived.Sort.OwnSorted
namespace Go.Proofs
set_option linter.unusedSimpArgs false
set_option linter.unusedVariables false
set_option linter.unusedSectionVars false
open Go.RowKit Go.Maps Go.Sort Go.Shelf
shelf_lay_g SlLaysM.n5 Slgm 5 at Try 52 as RgS.sort
end Go.Proofs
namespace Go.Proofs.Ytibkndhgeeoidaa
open Go Go.RowKit Go.Tw Go.Sort
def leI (x y : Int) : Bool := decide (x ≤ y)
def sortI (D : List Int) : List Int := D.mergeSort leI
theorem sortI_len (D : List Int) : (sortI D).length = D.length := List.length_mergeSort _
theorem encZ_flat (D : List Int) : D.map Go.encZ = D.flatMap (Go.Tw.encI .i64) := by
  induction D with
  | nil => rfl
  | cons a r ih => simp only [List.map_cons, List.flatMap_cons, ih]; rfl
theorem enc_flat (D : List Int) : D.map Go.Proofs.RgS.enc = D.flatMap (Go.Tw.encI .i64) := by
  induction D with
  | nil => rfl
  | cons a r ih => simp only [List.map_cons, List.flatMap_cons, ih]; rfl
theorem SortI_ct (A : Option Addr) (c : Nat) (D : List Int) (w : World) (ho : w.ownsRow 0 3 1 (.slice A D.length c) D.length (D.flatMap (Go.Tw.encI .i64))) (hl : D.length < 4611686018427387904) :
    Calls Try.prog 52 #[.slice A D.length c] w fun e w' => e = .returned (.tuple #[]) ∧ Fr w w' (blk (.slice A D.length c)) ∧ w'.ownsRow 0 3 1 (.slice A D.length c) D.length ((sortI D).flatMap (Go.Tw.encI .i64)) := by
  by_cases hD : D = []
  · subst hD
    refine Calls.mono (Go.Proofs.AnyM.slices_Sort_int_none Go.Proofs.RgS.sort A c w) ?_
    rintro e w' ⟨rfl, rfl⟩
    exact ⟨rfl, .refl _ _, by simpa [sortI] using ho⟩
  · have hpos : 0 < D.length := List.length_pos_iff.2 hD
    obtain ⟨g, cur, rfl, hb0, hb, hle, hmax, hsz, ht⟩ := own_blkd ho hpos
    have ht' : cur.toList.take D.length = D.map Go.encZ := by rw [encZ_flat, ← ht, Nat.mul_one]
    have hH : Holds Go.encZ w g 0 D.toArray := Go.Proofs.holds_of_block_i hb ht'
    refine Calls.mono (Go.Proofs.AnyM.slices_Sort_int Go.Proofs.RgS.sort g 0 c D w hH (lt_of_heap hb) hl) ?_
    rintro e w' ⟨rfl, n, os, rfl⟩
    refine ⟨rfl, fr_grown (Go.Proofs.grownBy_sorted_i _) rfl (fun _ => Nat.le_add_right _ _), ?_⟩
    have h := Go.Proofs.ownsRow_sorted_i (n := n) (os := os) (ss := D) (ts := sortI D) (sortI_len D) (Nat.zero_le g) hb hle hmax (by simpa using hsz)
    rw [encZ_flat] at h
    exact h
theorem append_ct (A : Option Addr) (m c : Nat) (zs : List Int) (Bs : Nat) (w : World) (hB : w.heap[Bs]? = some (.cells #[.slice A m c] 31 (0, 0))) (hm : zs.length = m) (hr : Rd w 1 (Go.Tw.encI .i64) A zs) (hl : m ≤ 1099511627776) :
    Calls Try.prog 67 #[.slice none 0 0, .func (.func 53) #[] #[.pointer (some ⟨Bs, 0, none⟩)]] w fun e w' => ∃ v, e = .returned v ∧ Fr w w' [] ∧ w'.ownsRow w.heap.size 3 1 v zs.length (zs.flatMap (Go.Tw.encI .i64)) := by
  subst hm
  have hc := (Go.Proofs.RgS.cell_of hB).1
  have hI : Go.Proofs.RgS.Ints w.heap.size w (.slice A zs.length c) zs := by
    by_cases hz : zs = []
    · subst hz; exact .inl ⟨A, c, rfl, rfl⟩
    · have hpos : 0 < zs.length := List.length_pos_iff.2 hz
      obtain ⟨x, hx⟩ := get_some (xs := zs) (i := 0) hpos
      obtain ⟨b, off, rfl, hcell⟩ := hr.at_ 0 x hx
      have hall : ∀ j, j < zs.length → w.cell? ⟨b, off + j, none⟩ = some (.int .i64 (zs[j]?.getD 0)) := fun j hj => by
        obtain ⟨y, hy⟩ := get_some (xs := zs) (i := j) hj
        obtain ⟨b2, o2, e, hc2⟩ := hr.at_ j y hy
        cases e
        have := hc2 0 (.int .i64 y) (by simp [Go.Tw.encI])
        rw [hy]
        simpa using this
      exact .inr ⟨b, off, c, rfl, World.block_lt_of_cell? w ⟨b, off + 0, none⟩ (hall 0 hpos), hall⟩
  refine (callsIn_wide (n := 6)).1 ((Go.Proofs.RgS.append_in Fence.wide 6 trivial trivial rfl (by omega) Bs _ zs (by omega) w (lt_of_heap hB) hc hI).mono ?_)
  rintro e w' ⟨v, rfl, hrow, hbel⟩
  exact ⟨v, rfl, Fr.of_below hbel (fun h_ => h_.elim), by rw [← enc_flat]; exact hrow⟩
end Go.Proofs.Ytibkndhgeeoidaa
