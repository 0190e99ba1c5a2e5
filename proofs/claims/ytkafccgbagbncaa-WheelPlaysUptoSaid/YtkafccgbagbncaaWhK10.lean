/- Contracts of functions of the program, each proved by a walk through its code; conditions stand in the statements. -/
import Derived.Test.YtkafccgbagbncaaWhC10
import Derived.Shelf.SlSortCmp.NoneTotal
import Derived.Ground.SlsfProg
import Derived.Shelf.Lay
namespace Go.Proofs.Ytkafccgbagbncaa
set_option linter.unusedSimpArgs false
set_option linter.unusedVariables false
set_option linter.unusedSectionVars false
open Go Go.RowKit Go.Tw
/-! ### what is due -/
def cfT (a b : Int × Int) : Int := orI [cmpI a.2 b.2, cmpI a.1 b.1]
theorem cfT_lt (a b : Int × Int) : decide (cfT a b < 0) = decide (a.2 < b.2 ∨ a.2 = b.2 ∧ a.1 < b.1) := by
  unfold cfT
  simp only [orI, cmpI]
  congr 1
  apply propext
  by_cases h1 : a.2 < b.2
  · simp [h1]
  · by_cases h2 : b.2 < a.2
    · simp [h1, h2]; omega
    · have e : a.2 = b.2 := by omega
      simp only [h1, h2, if_false]
      by_cases h3 : a.1 < b.1
      · simp [h3, e]
      · by_cases h4 : b.1 < a.1
        · simp [h3, h4, e]
        · simp [h3, h4]
def leT (a b : Int × Int) : Bool := !decide (cfT b a < 0)
def dueF (m : List (Int × Int)) (now : Int) : List (Int × Int) := m.filter fun t => decide (t.2 ≤ now)
def dueL (m : List (Int × Int)) (now : Int) : List (Int × Int) := (dueF m now).mergeSort leT
def dueK (m : List (Int × Int)) (now : Int) : List Int := (dueL m now).map (·.1)
def ltT (a b : Int × Int) : Prop := a.2 < b.2 ∨ a.2 = b.2 ∧ a.1 < b.1
theorem leT_iff (a b : Int × Int) : leT a b = true ↔ ¬ ltT b a := by
  unfold leT ltT
  rw [cfT_lt, Bool.not_eq_true', decide_eq_false_iff_not]
theorem mem_dueL {m : List (Int × Int)} {now : Int} {t : Int × Int} : t ∈ dueL m now ↔ t ∈ m ∧ t.2 ≤ now := by
  unfold dueL dueF
  rw [List.mem_mergeSort, List.mem_filter]; simp
theorem dueL_sorted (m : List (Int × Int)) (now : Int) : (dueL m now).Pairwise (fun a b => leT a b = true) := by
  unfold dueL
  refine List.pairwise_mergeSort ?_ ?_ _
  · intro a b c h1 h2
    rw [leT_iff] at *
    unfold ltT at *
    omega
  · intro a b
    simp only [Bool.or_eq_true, leT_iff]
    unfold ltT
    omega
theorem dueL_len (m : List (Int × Int)) (now : Int) : (dueL m now).length ≤ m.length := by
  unfold dueL dueF
  rw [List.length_mergeSort]; exact List.length_filter_le _ _
theorem nodup_m {m : List (Int × Int)} (h : (m.map (·.1)).Nodup) : m.Nodup := by
  induction m with
  | nil => exact List.nodup_nil
  | cons a r ih =>
    rw [List.map_cons, List.nodup_cons] at h
    rw [List.nodup_cons]
    exact ⟨fun hm => h.1 (List.mem_map.2 ⟨a, hm, rfl⟩), ih h.2⟩
theorem sort_uniq {D E : List (Int × Int)} (hp : D.Perm E) (h1 : D.Pairwise (fun a b => leT a b = true)) (h2 : E.Pairwise (fun a b => leT a b = true)) : D = E := by
  refine List.Perm.eq_of_pairwise (le := fun a b => leT a b = true) (fun a b _ _ ha hb => ?_) h1 h2 hp
  rw [leT_iff] at ha hb
  unfold ltT at ha hb
  refine Prod.ext ?_ ?_ <;> omega
theorem perm_of {D E : List (Int × Int)} (h1 : D.Nodup) (h2 : E.Nodup) (h : ∀ t, t ∈ D ↔ t ∈ E) : D.Perm E := by
  rw [List.perm_ext_iff_of_nodup h1 h2]; exact h
theorem sort_due {m D : List (Int × Int)} {now : Int} (hk : (m.map (·.1)).Nodup) (h1 : D.Nodup) (h : ∀ t, t ∈ D ↔ t ∈ m ∧ t.2 ≤ now) : D.mergeSort leT = dueL m now := by
  have tr : ∀ a b c : Int × Int, leT a b = true → leT b c = true → leT a c = true := by
    intro a b c h1 h2
    rw [leT_iff] at *
    unfold ltT at *
    omega
  have to : ∀ a b : Int × Int, (leT a b || leT b a) = true := by
    intro a b
    simp only [Bool.or_eq_true, leT_iff]
    unfold ltT
    omega
  refine sort_uniq ?_ (List.pairwise_mergeSort tr to _) (dueL_sorted m now)
  refine (List.mergeSort_perm _ _).trans ((perm_of h1 ((nodup_m hk).filter _) fun t => ?_).trans (List.mergeSort_perm _ _).symm)
  rw [h t, List.mem_filter]; simp
/-! the scan -/
def rowT (L : List TRow) (i : Nat) : List (Int × Int) := match L[i]? with
  | some r => r.ts
  | none => []
def inT (now : Int) (ts : List (Int × Int)) : List (Int × Int) := ts.filter fun t => decide (t.2 ≤ now)
def scanL (L : List TRow) (N : Nat) (hand now : Int) : Nat → List (Int × Int)
  | 0 => []
  | k + 1 => scanL L N hand now k ++ inT now (rowT L (slotN N (hand + k)))
theorem rowT_some {L : List TRow} {i : Nat} {r : TRow} (h : L[i]? = some r) : rowT L i = r.ts := by unfold rowT; rw [h]
theorem mem_scan {L : List TRow} {N : Nat} {hand now : Int} {K : Nat} {t : Int × Int} : t ∈ scanL L N hand now K ↔ ∃ i, i < K ∧ t ∈ rowT L (slotN N (hand + (i : Int))) ∧ t.2 ≤ now := by
  induction K with
  | zero => simp [scanL]
  | succ k ih =>
    unfold scanL
    rw [List.mem_append, ih]
    unfold inT
    rw [List.mem_filter]
    constructor
    · rintro (⟨i, h1, h2⟩ | ⟨h1, h2⟩)
      · exact ⟨i, by omega, h2⟩
      · exact ⟨k, by omega, h1, by simpa using h2⟩
    · rintro ⟨i, h1, h2, h3⟩
      by_cases e : i = k
      · subst e; exact .inr ⟨h2, by simpa using h3⟩
      · exact .inl ⟨i, by omega, h2, h3⟩
theorem slot_inj {N : Nat} {hand : Int} {i j : Nat} (h0 : 0 ≤ hand) (hi : i < N) (hj : j < N) (h : slotN N (hand + (i : Int)) = slotN N (hand + (j : Int))) : i = j := by
  unfold slotN at h
  obtain ⟨q, rfl⟩ := Int.eq_ofNat_of_zero_le h0
  have e1 : ((q : Int) + (i : Int)).toNat = q + i := by omega
  have e2 : ((q : Int) + (j : Int)).toNat = q + j := by omega
  rw [e1, e2] at h
  have h1 := Nat.div_add_mod (q + i) N
  have h2 := Nat.div_add_mod (q + j) N
  rw [h] at h1
  generalize (q + i) / N = a at h1
  generalize (q + j) / N = b at h2
  generalize (q + j) % N = c at h1 h2
  rcases Nat.lt_trichotomy a b with hab | hab | hab
  · have : N * (a + 1) ≤ N * b := Nat.mul_le_mul_left _ hab
    rw [Nat.mul_add, Nat.mul_one] at this
    omega
  · subst hab; omega
  · have : N * (b + 1) ≤ N * a := Nat.mul_le_mul_left _ hab
    rw [Nat.mul_add, Nat.mul_one] at this
    omega
theorem rowT_mem {N : Nat} {L : List TRow} {m : List (Int × Int)} (h : wOk N L m) {i : Nat} {t : Int × Int} : t ∈ rowT L i ↔ t ∈ m ∧ slotN N t.2 = i := by
  unfold rowT
  cases hr : L[i]? with
  | some r => exact (h.row i r hr).2 t
  | none =>
    constructor
    · intro hm; cases hm
    · rintro ⟨_, h2⟩
      have h3 := slot_lt h t.2
      rw [h2] at h3
      rw [List.getElem?_eq_getElem h3] at hr; cases hr
theorem rowT_nodup {N : Nat} {L : List TRow} {m : List (Int × Int)} (h : wOk N L m) (i : Nat) : (rowT L i).Nodup := by
  unfold rowT
  cases hr : L[i]? with
  | some r => exact (h.row i r hr).1
  | none => exact List.nodup_nil
theorem scan_nodup {N : Nat} {L : List TRow} {m : List (Int × Int)} (h : wOk N L m) {hand now : Int} (h0 : 0 ≤ hand) : ∀ {K : Nat}, K ≤ N → (scanL L N hand now K).Nodup
  | 0, _ => List.nodup_nil
  | k + 1, hK => by
    unfold scanL
    rw [List.nodup_append]
    refine ⟨scan_nodup h h0 (by omega), (rowT_nodup h _).filter _, fun a ha b hb e => ?_⟩
    subst e
    obtain ⟨i, hi, h1, _⟩ := mem_scan.1 ha
    unfold inT at hb
    rw [List.mem_filter] at hb
    have e1 := ((rowT_mem h).1 h1).2
    have e2 := ((rowT_mem h).1 hb.1).2
    have := slot_inj h0 (show i < N by omega) (show k < N by omega) (e1.symm.trans e2)
    omega
theorem scan_mem {N : Nat} {L : List TRow} {m : List (Int × Int)} (h : wOk N L m) {hand now : Int} (h0 : 0 ≤ hand) (hh : ∀ t ∈ m, hand ≤ t.2) (hn : hand ≤ now) {K : Nat} (hK : (K : Int) = min (now - hand) ((N : Int) - 1) + 1) (t : Int × Int) : t ∈ scanL L N hand now K ↔ t ∈ m ∧ t.2 ≤ now := by
  rw [mem_scan]
  have hN := h.n
  constructor
  · rintro ⟨i, _, h2, h3⟩; exact ⟨((rowT_mem h).1 h2).1, h3⟩
  · rintro ⟨h1, h2⟩
    have h3 := hh t h1
    obtain ⟨q, hq⟩ := Int.eq_ofNat_of_zero_le h0
    obtain ⟨d, hd⟩ := Int.eq_ofNat_of_zero_le (show 0 ≤ t.2 - hand by omega)
    have hlt : d % N < N := Nat.mod_lt _ (by omega)
    refine ⟨d % N, ?_, (rowT_mem h).2 ⟨h1, ?_⟩, h2⟩
    · by_cases e : d < N
      · rw [Nat.mod_eq_of_lt e]; omega
      · omega
    · unfold slotN
      have e1 : t.2.toNat = q + d := by omega
      have e2 : (hand + ((d % N : Nat) : Int)).toNat = q + d % N := by omega
      rw [e1, e2, Nat.add_mod q (d % N), Nat.mod_mod, ← Nat.add_mod]
theorem inT_snoc {now : Int} {ts : List (Int × Int)} {j : Nat} {e : Int × Int} (he : ts[j]? = some e) : inT now (ts.take (j + 1)) = inT now (ts.take j) ++ (if e.2 ≤ now then [e] else []) := by
  obtain ⟨hj, rfl⟩ := List.getElem?_eq_some_iff.1 he
  unfold inT
  rw [List.take_succ_eq_append_getElem hj, List.filter_append]
  by_cases h : ts[j].2 ≤ now <;> simp [h]
theorem scan_len {N : Nat} {L : List TRow} {m : List (Int × Int)} (h : wOk N L m) {hand now : Int} (h0 : 0 ≤ hand) {K : Nat} (hK : K ≤ N) : (scanL L N hand now K).length ≤ m.length :=
  nodup_sub_len (scan_nodup h h0 hK) fun t ht => by
    obtain ⟨i, _, h1, _⟩ := mem_scan.1 ht
    exact ((rowT_mem h).1 h1).1
theorem inT_len (now : Int) (ts : List (Int × Int)) : (inT now ts).length ≤ ts.length := List.length_filter_le _ _
/-! what stays -/
theorem mem_canL {m : List (Int × Int)} (h : (m.map (·.1)).Nodup) (ks : List Int) (t : Int × Int) : t ∈ canL m ks ↔ t ∈ m ∧ t.1 ∉ ks := by
  induction ks generalizing m with
  | nil => simp [canL]
  | cons k r ih =>
    have := ih (delL_keys m k h)
    rw [show canL m (k :: r) = canL (delL m k) r from rfl, this, mem_del h]
    simp only [List.mem_cons, not_or]
    constructor
    · rintro ⟨⟨a, b⟩, c⟩; exact ⟨a, b, c⟩
    · rintro ⟨a, b, c⟩; exact ⟨⟨a, b⟩, c⟩
theorem mem_rest {m : List (Int × Int)} (h : (m.map (·.1)).Nodup) {now : Int} {t : Int × Int} : t ∈ canL m (dueK m now) ↔ t ∈ m ∧ now < t.2 := by
  rw [mem_canL h]
  unfold dueK
  constructor
  · rintro ⟨h1, h2⟩
    refine ⟨h1, ?_⟩
    apply Int.not_le.1
    intro h3
    exact h2 (List.mem_map.2 ⟨t, mem_dueL.2 ⟨h1, h3⟩, rfl⟩)
  · rintro ⟨h1, h2⟩
    refine ⟨h1, fun h3 => ?_⟩
    obtain ⟨u, hu, he⟩ := List.mem_map.1 h3
    obtain ⟨h4, h5⟩ := mem_dueL.1 hu
    have := key_uniq h h4 h1 he
    subst this
    omega
theorem due_none {m : List (Int × Int)} {now : Int} (h : ∀ t ∈ m, now < t.2) : dueL m now = [] := by
  unfold dueL dueF
  rw [List.filter_eq_nil_iff.2 (fun t ht => by have := h t ht; simp; omega)]
  simp
theorem can_map {m : List (Int × Int)} {D : List (Int × Int)} {i : Nat} {e : Int × Int} (h : D[i]? = some e) : canL m ((D.take (i + 1)).map (·.1)) = delL (canL m ((D.take i).map (·.1))) e.1 := by
  obtain ⟨hi, rfl⟩ := List.getElem?_eq_some_iff.1 h
  rw [List.take_succ_eq_append_getElem hi, List.map_append, canL, List.foldl_append]; rfl
theorem key_map {D : List (Int × Int)} {i : Nat} {e : Int × Int} (h : D[i]? = some e) : (D.take (i + 1)).map (·.1) = (D.take i).map (·.1) ++ [e.1] := by
  obtain ⟨hi, rfl⟩ := List.getElem?_eq_some_iff.1 h
  rw [List.take_succ_eq_append_getElem hi, List.map_append]; rfl
theorem scan_step {L : List TRow} {N i : Nat} {hand now : Int} {r : TRow} (h : L[slotN N (hand + (i : Int))]? = some r) : scanL L N hand now (i + 1) = scanL L N hand now i ++ inT now r.ts := by
  show scanL L N hand now i ++ inT now (rowT L (slotN N (hand + (i : Int)))) = _
  rw [rowT_some h]
def dueH (hand now : Int) : Int := if now < hand then hand else min now 1099511627776
theorem dueK_len (m : List (Int × Int)) (now : Int) : (dueK m now).length ≤ m.length := by unfold dueK; rw [List.length_map]; exact dueL_len m now
end Go.Proofs.Ytkafccgbagbncaa
namespace Go.Proofs
open Go.RowKit Go.Sort Go.Shelf Go.Lib Go.Proofs.Ytkafccgbagbncaa
shelf_lay_g SlLaysF0.n6 Slsf 6 at Try 27 as WhSort.sortA
theorem WhSort.lt (a b : Int × Int) : ltOf cfT a b = decide (a.2 < b.2 ∨ a.2 = b.2 ∧ a.1 < b.1) := cfT_lt a b
theorem WhSort.swo : SWO (ltOf cfT) where
  irrefl x := by rw [WhSort.lt]; simp
  trans x y z h1 h2 := by rw [WhSort.lt, decide_eq_true_eq] at *; omega
  ntrans x y z h1 h2 := by rw [WhSort.lt, decide_eq_false_iff_not] at *; omega
theorem WhSort.tot (x y : Int × Int) (h1 : ltOf cfT x y = false) (h2 : ltOf cfT y x = false) : x = y := by
  rw [WhSort.lt, decide_eq_false_iff_not] at h1 h2
  refine Prod.ext ?_ ?_ <;> omega
theorem WhSort.cmps (blk off size : Nat) (w : World) : CmpLays Try.prog 28 #[] tmC 2 cfT blk off size w := fun m os dk _ x y =>
  (cmpT_ct x y _).mono fun e w' ⟨he, hf⟩ => ⟨he, Go.Tw.fr_grow hf⟩
theorem WhSort.flat {D : List (Int × Int)} : (flatK tmC 2 D.toArray).toList = D.flatMap tmC := by
  apply List.ext_getElem?
  intro t
  by_cases ht : t < D.length * 2
  · have hi : t / 2 < D.length := by omega
    have h1 : (flatK tmC 2 D.toArray).toList[t]? = some ((flatK tmC 2 D.toArray)[t]!) := by
      rw [Array.getElem?_toList, getElem!_pos _ t (by simpa using ht)]
      exact Array.getElem?_eq_getElem (by simpa using ht)
    rw [h1, get_flatK _ _ _ _ (by simpa using ht)]
    have h2 : D.toArray[t / 2]! = D[t / 2] := by rw [getElem!_pos D.toArray (t / 2) (by simpa using hi)]; simp
    rw [h2]
    have h3 : (tmC D[t / 2])[t % 2]? = some ((tmC D[t / 2])[t % 2]!) := by
      have : t % 2 < (tmC D[t / 2]).length := by rw [tmC_len]; omega
      rw [getElem!_pos (tmC D[t / 2]) (t % 2) this]; exact List.getElem?_eq_getElem this
    have h4 := Go.Tw.flat_get tmC_len D (t / 2) D[t / 2] (List.getElem?_eq_getElem hi) (t % 2) _ h3
    rw [show t / 2 * 2 + t % 2 = t by omega] at h4
    exact h4.symm
  · rw [List.getElem?_eq_none (by simp; omega), List.getElem?_eq_none (by rw [Go.Tw.flat_len tmC_len]; omega)]
theorem WhSort.heap {w : World} {g n : Nat} {os : Array Obj} {cur : Array Value} {e : TypeId} {fr : Nat × Nat} (d : Array Value) (hb : w.heap[g]? = some (.cells cur e fr)) :
    (grow (putRow id (Sort.ahead w n) g 0 d) os).heap[g]? = some (.cells (putCells id 0 d cur) e fr) := by
  have hg : g < w.heap.size := (Array.getElem?_eq_some_iff.1 hb).1
  rw [heap_grow_old _ _ (by simpa using hg)]
  simp [putRow, mapBlock, Sort.ahead, Array.getElem?_modify, hb, onCells]
theorem WhSort.fr {w : World} {g n : Nat} {os : Array Obj} (d : Array Value) : Go.Tw.Fr w (grow (putRow id (Sort.ahead w n) g 0 d) os) [g] := by
  refine ⟨rfl, rfl, rfl, by simp, fun k hk hne => ?_, fun _ => Nat.le_add_right _ _⟩
  rw [heap_grow_old _ _ (by simpa using hk)]
  have : g ≠ k := fun e => hne (by simp [e])
  simp [putRow, mapBlock, Sort.ahead, Array.getElem?_modify, this]
theorem WhSort.take (cur d : Array Value) (h : d.size ≤ cur.size) : (putCells id 0 d cur).toList.take d.size = d.toList := by
  apply List.ext_getElem?
  intro j
  by_cases hj : j < d.size
  · rw [List.getElem?_take_of_lt hj, Array.getElem?_toList]
    simp [putCells, hj, show j < cur.size by omega]
  · rw [List.getElem?_take_eq_none (by omega), List.getElem?_eq_none (by simp; omega)]
end Go.Proofs
namespace Go.Proofs.Ytkafccgbagbncaa
open Go.RowKit Go.Sort Go.Shelf Go.Lib Go.Tw
theorem SortT_ct (A : Option Addr) (c : Nat) (D : List (Int × Int)) (w : World) (ho : w.ownsRow 0 67 2 (.slice A D.length c) D.length (D.flatMap tmC)) (hl : D.length < 4611686018427387904) : Calls Try.prog 27 #[.slice A D.length c, .func (.func 28) #[] #[]] w fun e w' => e = .returned (.tuple #[]) ∧ Fr w w' (blk (.slice A D.length c)) ∧ w'.ownsRow 0 67 2 (.slice A D.length c) D.length ((D.mergeSort leT).flatMap tmC) := by
  by_cases hD : D = []
  · subst hD
    refine Calls.mono (AnyF.slices_SortFunc_none { WhSort.sortA with } A c (.func (.func 28) #[] #[]) w) ?_
    rintro e w' ⟨rfl, rfl⟩
    exact ⟨rfl, .refl _ _, by simpa using ho⟩
  · have hpos : 0 < D.length := List.length_pos_iff.2 hD
    obtain ⟨g, cur, rfl, _, hb, hle, hmax, hsz, ht⟩ := own_blkd ho hpos
    have hH : HoldsK tmC 2 w g 0 D.toArray := by
      intro j hj
      have hj' : j < D.length * 2 := by simpa using hj
      refine ⟨?_, by simp [World.frozen?, hb]⟩
      have h1 : (flatK tmC 2 D.toArray).toList[j]? = some ((flatK tmC 2 D.toArray)[j]!) := by
        rw [Array.getElem?_toList, getElem!_pos _ j hj]; exact Array.getElem?_eq_getElem hj
      rw [WhSort.flat, ← ht, List.getElem?_take_of_lt hj', Array.getElem?_toList] at h1
      simp only [World.cell?, hb, Nat.zero_add, Option.isSome_none, Bool.false_eq_true, if_false, id]
      exact h1
    have hc := AnyQ.slices_SortFunc_total WhSort.sortA 2 (fun _ => by kernel_rfl) (fun _ => by kernel_rfl) tmC tmC_len (fun x v hv => by simp [tmC] at hv; rcases hv with rfl | rfl <;> rfl) cfT WhSort.swo 28 #[] g 0 c D.toArray w (enters_of Try.func28 (by kernel_rfl) rfl) (WhSort.cmps _ _ _ _) hH (lt_of_heap hb) (by simpa using hl) WhSort.tot
    have hs : D.toArray.size = D.length := by simp
    rw [hs] at hc
    refine Calls.mono hc ?_
    rintro e w' ⟨rfl, n, os, rfl⟩
    have hbk : blk (Value.slice (some ⟨g, 0, none⟩) D.length c) = [g] := by simp [blk, Value.ownBlock]
    have hle' : (D.toArray.toList.mergeSort fun x y => !(ltOf cfT) y x) = D.mergeSort leT := rfl
    rw [hbk, hle']
    refine ⟨rfl, WhSort.fr _, ?_⟩
    have hh := WhSort.heap (n := n) (os := os) (flatK tmC 2 (D.mergeSort leT).toArray) hb
    refine own_of_blk (Nat.zero_le _) hh hle hmax (by simp [putCells, hsz]) ?_
    have hf : (flatK tmC 2 (D.mergeSort leT).toArray).size = D.length * 2 := by simp
    rw [← hf, WhSort.take _ _ (by rw [hf, hsz]; exact Nat.mul_le_mul_right _ hle), WhSort.flat]
end Go.Proofs.Ytkafccgbagbncaa
