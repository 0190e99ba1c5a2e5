/- Contracts of functions of the program, each proved by a walk through its code; conditions stand in the statements. -/
import Derived.Test.YtimphmcoafapgaaFlI11
import Derived.Shelf.SlSortCmp.NoneTotal
import Derived.Ground.SlsfProg
import Derived.Shelf.Lay
namespace Go.Proofs
set_option linter.unusedSimpArgs false
set_option linter.unusedVariables false
set_option linter.unusedSectionVars false
open Go.RowKit Go.Sort Go.Shelf Go.Lib Go.Proofs.Ytimphmcoafapgaa
shelf_lay_g SlLaysF0.n6 Slsf 6 at Try 36 as FlSort.sortA
section
variable (D : List Ent)
abbrev FlSort.El := {x : Ent // x ∈ D}
def FlSort.cf (a b : FlSort.El D) : Int := cfE a.1 b.1
def FlSort.enc (a : FlSort.El D) : List Value := cellsE a.1
theorem FlSort.lt (a b : FlSort.El D) : ltOf (FlSort.cf D) a b = lessF a.1.flow b.1.flow := cfE_lt a.1 b.1
theorem FlSort.swo : SWO (ltOf (FlSort.cf D)) where
  irrefl x := by rw [FlSort.lt]; exact lessF_irr _
  trans x y z h1 h2 := by rw [FlSort.lt] at *; exact lessF_trans h1 h2
  ntrans x y z h1 h2 := by
    rw [FlSort.lt] at *
    have := leE_trans z.1 y.1 x.1 ((leE_iff _ _).2 h2) ((leE_iff _ _).2 h1)
    exact (leE_iff _ _).1 this
theorem FlSort.tot (hn : (D.map (·.flow)).Nodup) (x y : FlSort.El D) (h1 : ltOf (FlSort.cf D) x y = false) (h2 : ltOf (FlSort.cf D) y x = false) : x = y := by
  rw [FlSort.lt] at h1 h2
  exact Subtype.ext (flow_inj hn x.2 y.2 (lessF_tot h1 h2))
theorem FlSort.cmps [Inhabited (FlSort.El D)] (blk off size : Nat) (w : World) : CmpLays Try.prog 37 #[] (FlSort.enc D) 10 (FlSort.cf D) blk off size w := fun m os dk _ x y =>
  (cmpE_ct x.1 y.1 _).mono fun e w' ⟨he, hf⟩ => ⟨he, Go.Tw.fr_grow hf⟩
end
theorem FlSort.flat {β : Type} [Inhabited β] {enc : β → List Value} (hl : ∀ x, (enc x).length = 10) {D : List β} : (flatK enc 10 D.toArray).toList = D.flatMap enc := by
  apply List.ext_getElem?
  intro t
  by_cases ht : t < D.length * 10
  · have hi : t / 10 < D.length := by omega
    have h1 : (flatK enc 10 D.toArray).toList[t]? = some ((flatK enc 10 D.toArray)[t]!) := by
      rw [Array.getElem?_toList, getElem!_pos _ t (by simpa using ht)]
      exact Array.getElem?_eq_getElem (by simpa using ht)
    rw [h1, get_flatK _ _ _ _ (by simpa using ht)]
    have h2 : D.toArray[t / 10]! = D[t / 10] := by rw [getElem!_pos D.toArray (t / 10) (by simpa using hi)]; simp
    rw [h2]
    have h3 : (enc D[t / 10])[t % 10]? = some ((enc D[t / 10])[t % 10]!) := by
      have : t % 10 < (enc D[t / 10]).length := by rw [hl]; omega
      rw [getElem!_pos (enc D[t / 10]) (t % 10) this]; exact List.getElem?_eq_getElem this
    have h4 := Go.Tw.flat_get hl D (t / 10) D[t / 10] (List.getElem?_eq_getElem hi) (t % 10) _ h3
    rw [show t / 10 * 10 + t % 10 = t by omega] at h4
    exact h4.symm
  · rw [List.getElem?_eq_none (by simp; omega), List.getElem?_eq_none (by rw [Go.Tw.flat_len hl]; omega)]
theorem FlSort.heap {w : World} {g n : Nat} {os : Array Obj} {cur : Array Value} {e : TypeId} {fr : Nat × Nat} (d : Array Value) (hb : w.heap[g]? = some (.cells cur e fr)) :
    (grow (putRow id (Sort.ahead w n) g 0 d) os).heap[g]? = some (.cells (putCells id 0 d cur) e fr) := by
  have hg : g < w.heap.size := (Array.getElem?_eq_some_iff.1 hb).1
  rw [heap_grow_old _ _ (by simpa using hg)]
  simp [putRow, mapBlock, Sort.ahead, Array.getElem?_modify, hb, onCells]
theorem FlSort.fr {w : World} {g n : Nat} {os : Array Obj} (d : Array Value) : Go.Tw.Fr w (grow (putRow id (Sort.ahead w n) g 0 d) os) [g] := by
  refine ⟨rfl, rfl, rfl, by simp, fun k hk hne => ?_, fun _ => Nat.le_add_right _ _⟩
  rw [heap_grow_old _ _ (by simpa using hk)]
  have : g ≠ k := fun e => hne (by simp [e])
  simp [putRow, mapBlock, Sort.ahead, Array.getElem?_modify, this]
theorem FlSort.take (cur d : Array Value) (h : d.size ≤ cur.size) : (putCells id 0 d cur).toList.take d.size = d.toList := by
  apply List.ext_getElem?
  intro j
  by_cases hj : j < d.size
  · rw [List.getElem?_take_of_lt hj, Array.getElem?_toList]
    simp [putCells, hj, show j < cur.size by omega]
  · rw [List.getElem?_take_eq_none (by omega), List.getElem?_eq_none (by simp; omega)]
theorem FlSort.unat {D : List Ent} (L : List (FlSort.El D)) : L.flatMap (FlSort.enc D) = (L.map (·.1)).flatMap cellsE := by
  induction L with
  | nil => rfl
  | cons a r ih => rw [List.flatMap_cons, List.map_cons, List.flatMap_cons, ih]; rfl
theorem FlSort.sorted (D : List Ent) : (D.attach.mergeSort fun x y => !(ltOf (FlSort.cf D)) y x).map (·.1) = D.mergeSort leE := by
  rw [List.map_mergeSort (s := leE) (fun a _ b _ => by rw [FlSort.lt]; rfl)]
  simp
end Go.Proofs
namespace Go.Proofs.Ytimphmcoafapgaa
open Go.RowKit Go.Sort Go.Shelf Go.Lib Go.Tw
theorem SortE_ct (A : Option Addr) (c : Nat) (D : List Ent) (w : World) (hn : (D.map (·.flow)).Nodup) (ho : w.ownsRow 0 34 10 (.slice A D.length c) D.length (D.flatMap cellsE)) (hl : D.length < 4611686018427387904) : Calls Try.prog 36 #[.slice A D.length c, .func (.func 37) #[] #[]] w fun e w' => e = .returned (.tuple #[]) ∧ Fr w w' (blk (.slice A D.length c)) ∧ w'.ownsRow 0 34 10 (.slice A D.length c) D.length ((D.mergeSort leE).flatMap cellsE) := by
  by_cases hD : D = []
  · subst hD
    refine Calls.mono (AnyF.slices_SortFunc_none { FlSort.sortA with } A c (.func (.func 37) #[] #[]) w) ?_
    rintro e w' ⟨rfl, rfl⟩
    exact ⟨rfl, .refl _ _, by simpa using ho⟩
  · have hpos : 0 < D.length := List.length_pos_iff.2 hD
    haveI : Inhabited (FlSort.El D) := ⟨⟨D.head hD, List.head_mem hD⟩⟩
    have hat : D.attach.flatMap (FlSort.enc D) = D.flatMap cellsE := by rw [FlSort.unat]; simp
    have hal : D.attach.length = D.length := List.length_attach
    obtain ⟨g, cur, rfl, _, hb, hle, hmax, hsz, ht⟩ := own_blkd ho hpos
    have hH : HoldsK (FlSort.enc D) 10 w g 0 D.attach.toArray := by
      intro j hj
      have hj' : j < D.length * 10 := by simpa using hj
      refine ⟨?_, by simp [World.frozen?, hb]⟩
      have h1 : (flatK (FlSort.enc D) 10 D.attach.toArray).toList[j]? = some ((flatK (FlSort.enc D) 10 D.attach.toArray)[j]!) := by
        rw [Array.getElem?_toList, getElem!_pos _ j hj]; exact Array.getElem?_eq_getElem hj
      rw [FlSort.flat (enc := FlSort.enc D) (fun x => cellsE_len x.1), hat, ← ht, List.getElem?_take_of_lt hj', Array.getElem?_toList] at h1
      simp only [World.cell?, hb, Nat.zero_add, Option.isSome_none, Bool.false_eq_true, if_false, id]
      exact h1
    have hc := AnyQ.slices_SortFunc_total FlSort.sortA 10 (fun _ => by kernel_rfl) (fun _ => by kernel_rfl) (FlSort.enc D) (fun x => cellsE_len x.1) (fun x v hv => by simp [FlSort.enc, cellsE] at hv; rcases hv with rfl | rfl | rfl | rfl | rfl | rfl | rfl | rfl | rfl | rfl <;> rfl) (FlSort.cf D) (FlSort.swo D) 37 #[] g 0 c D.attach.toArray w (enters_of Try.func37 (by kernel_rfl) rfl) (FlSort.cmps D _ _ _ _) hH (lt_of_heap hb) (by simpa using hl) (FlSort.tot D hn)
    have hs : D.attach.toArray.size = D.length := by simp
    rw [hs] at hc
    refine Calls.mono hc ?_
    rintro e w' ⟨rfl, n, os, rfl⟩
    have hbk : blk (Value.slice (some ⟨g, 0, none⟩) D.length c) = [g] := by simp [blk, Value.ownBlock]
    rw [hbk]
    refine ⟨rfl, FlSort.fr _, ?_⟩
    have hfl : (flatK (FlSort.enc D) 10 (D.attach.toArray.toList.mergeSort fun x y => !(ltOf (FlSort.cf D)) y x).toArray).toList = (D.mergeSort leE).flatMap cellsE := by
      rw [FlSort.flat (enc := FlSort.enc D) (fun x => cellsE_len x.1), FlSort.unat]
      rw [show D.attach.toArray.toList = D.attach from rfl, FlSort.sorted]
    have hh := FlSort.heap (n := n) (os := os) (flatK (FlSort.enc D) 10 (D.attach.toArray.toList.mergeSort fun x y => !(ltOf (FlSort.cf D)) y x).toArray) hb
    refine own_of_blk (Nat.zero_le _) hh hle hmax (by simp [putCells, hsz]) ?_
    have hf : (flatK (FlSort.enc D) 10 (D.attach.toArray.toList.mergeSort fun x y => !(ltOf (FlSort.cf D)) y x).toArray).size = D.length * 10 := by simp
    rw [← hf, FlSort.take _ _ (by rw [hf, hsz]; exact Nat.mul_le_mul_right _ hle), hfl]
end Go.Proofs.Ytimphmcoafapgaa
