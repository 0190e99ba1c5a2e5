/- Contracts of functions of the program, each proved by a walk through its code; conditions stand in the statements. -/
import Derived.Test.YtfligklljkcbfaaGreatDoorStA16
import Derived.Test.YtfligklljkcbfaaGreatDoorTwDel
import Derived.Test.YtfligklljkcbfaaGreatDoorTwAl
import Derived.Test.YtfligklljkcbfaaGreatDoorTwCut
import Derived.Test.YtfligklljkcbfaaGreatDoorTwClr
import Derived.Sort.AssemblyPlain
namespace Go.Proofs.YtfligklljkcbfaaGreatDoor
set_option linter.unusedSimpArgs false
set_option linter.unusedVariables false
set_option linter.unusedSectionVars false
open Go Go.RowKit Go.Tw
set_option linter.unusedVariables false
set_option maxRecDepth 20000
open Go.Sort
/-- two loads that may come in either order -/
theorem two_loads {P : Program} {n : Nat} {ops : Array Oper} {Q : Exit → Act → World → Prop} {S : World → Prop} {fuel : Nat} {listed : Array Bool} {E : Env} {w : World} (i j : Nat) (mi mj : Sem Value) (di dj : Nat) (vi vj : Value) (hR : Region.ready .any ops listed = [i, j]) (hqi : opAtE n ops i E = some (some di, Go.Tw.valOf mi)) (hqj : opAtE n ops j E = some (some dj, Go.Tw.valOf mj)) (hri : mi.run P w = .ok vi w) (hrj : mj.run P w = .ok vj w) (hS : S w) (hR1 : Region.ready .any ops (listed.setIfInBounds i true) = [j]) (hR2 : Region.ready .any ops (listed.setIfInBounds j true) = [i]) (hqj' : opAtE n ops j ((di, vi) :: E) = some (some dj, Go.Tw.valOf mj)) (hqi' : opAtE n ops i ((dj, vj) :: E) = some (some di, Go.Tw.valOf mi)) (hne : di ≠ dj) (hl : (listed.setIfInBounds j true).setIfInBounds i true = (listed.setIfInBounds i true).setIfInBounds j true) (h : WD P n ops Q S fuel ((listed.setIfInBounds i true).setIfInBounds j true) ((dj, vj) :: (di, vi) :: E) w) : WD P n ops Q S (fuel + 2) listed E w :=
  WD.all2 i j hR (WO.sem i mi di vi rfl hqi hri hS (WD.sem j mj dj vj hR1 hqj' hrj hS h))
    (WO.sem j mj dj vj rfl hqj hrj hS (WD.sem i mi di vi hR2 hqi' hri hS (by
      rw [hl]
      refine WD.weaken (fun t v ht => ?_) h
      have hb : ∀ x y : Nat, Nat.beq x y = decide (x = y) := fun x y => by rw [Bool.eq_iff_iff]; simp
      simp only [Go.Tw.get, hb] at ht ⊢
      by_cases e1 : di = t
      · have e2 : ¬ dj = t := fun e2 => hne (e1.trans e2.symm)
        simpa [e1, e2] using ht
      · by_cases e2 : dj = t <;> simpa [e1, e2] using ht)))
/-! ### the sort at addresses: what the kit's plain layer says, on lists -/
abbrev aOf (L : List Int) : Array Int := L.toArray
theorem aGet {L : List Int} {i : Nat} {e : Int} (h : L[i]? = some e) : (aOf L)[i]! = e := by
  obtain ⟨hi, rfl⟩ := List.getElem?_eq_some_iff.1 h
  simp [aOf, hi]
theorem aSwp {L : List Int} {i j : Nat} {x y : Int} (hx : L[i]? = some x) (hy : L[j]? = some y) : aOf ((L.set i y).set j x) = swp (aOf L) i j := by
  unfold swp
  rw [aGet hx, aGet hy]
  simp [aOf]
theorem set2_len (L : List Int) (i j : Nat) (x y : Int) : ((L.set i y).set j x).length = L.length := by simp
theorem aSize (L : List Int) : (aOf L).size = L.length := by simp [aOf]
theorem ins_stop1 {a j : Nat} {d : Array Int} (h : ¬ a < j) : insInner ltInt a j d = d := by
  cases j with
  | zero => rfl
  | succ j => unfold insInner; rw [if_neg]; simp; intro h2; omega
theorem ins_stop2 {a j : Nat} {L : List Int} {x y : Int} (hj : 0 < j) (hx : L[j]? = some x) (hy : L[j - 1]? = some y) (h : decide (x < y) = false) : insInner ltInt a j (aOf L) = aOf L := by
  obtain ⟨k, rfl⟩ : ∃ k, j = k + 1 := ⟨j - 1, by omega⟩
  rw [Nat.add_sub_cancel] at hy
  unfold insInner; rw [aGet hx, aGet hy, if_neg]
  simp only [ltInt, h, Bool.and_false, Bool.false_eq_true, not_false_iff]
theorem ins_go {a j : Nat} {L : List Int} {x y : Int} (h0 : a < j) (hx : L[j]? = some x) (hy : L[j - 1]? = some y) (h : decide (x < y) = true) : insInner ltInt a j (aOf L) = insInner ltInt a (j - 1) (aOf ((L.set j y).set (j - 1) x)) := by
  rw [aSwp hx hy]
  obtain ⟨k, rfl⟩ : ∃ k, j = k + 1 := ⟨j - 1, by omega⟩
  rw [Nat.add_sub_cancel] at hy ⊢
  conv => lhs; unfold insInner
  rw [aGet hx, aGet hy, if_pos]
  simp only [ltInt, h, Bool.and_true, decide_eq_true_eq]; omega
theorem outer_go {a b i : Nat} {d : Array Int} (h : i < b) : insOuter ltInt a b i d = insOuter ltInt a b (i + 1) (insInner ltInt a i d) := by
  conv => lhs; unfold insOuter
  rw [if_pos h]
theorem outer_stop {a b i : Nat} {d : Array Int} (h : ¬ i < b) : insOuter ltInt a b i d = d := by unfold insOuter; rw [if_neg h]
theorem rev_go {i j : Nat} {L : List Int} {x y : Int} (h : i < j) (hx : L[i]? = some x) (hy : L[j]? = some y) : reverseLoop i j (aOf L) = reverseLoop (i + 1) (j - 1) (aOf ((L.set i y).set j x)) := by
  conv => lhs; unfold reverseLoop
  rw [if_pos h, aSwp hx hy]
theorem rev_stop {i j : Nat} {d : Array Int} (h : ¬ i < j) : reverseLoop i j d = d := by unfold reverseLoop; rw [if_neg h]
theorem sift_stop {hi f r : Nat} {d : Array Int} (h : hi ≤ 2 * r + 1) : siftDown ltInt hi f r d = d := by unfold siftDown; rw [dif_pos h]
theorem sift_c2 {hi f r : Nat} {L : List Int} {x1 x2 x0 : Int} (h : 2 * r + 2 < hi) (h1 : L[f + (2 * r + 1)]? = some x1) (h2 : L[f + (2 * r + 2)]? = some x2) (h0 : L[f + r]? = some x0) (hc : decide (x1 < x2) = true) : siftDown ltInt hi f r (aOf L) = if decide (x0 < x2) = true then siftDown ltInt hi f (2 * r + 2) (aOf ((L.set (f + r) x2).set (f + (2 * r + 2)) x0)) else aOf L := by
  conv => lhs; unfold siftDown
  have h2' : L[f + (2 * r + 1) + 1]? = some x2 := h2
  rw [dif_neg (by omega), aGet h1, aGet h2', aGet h2, aGet h0, if_pos (by simp only [ltInt, hc, Bool.and_true, decide_eq_true_eq]; omega), aSwp h0 h2]
  by_cases q : decide (x0 < x2) = true
  · rw [if_neg (by simp [ltInt] at q ⊢; exact q), dif_pos h, if_pos q]
  · rw [if_pos (by simp [ltInt] at q ⊢; exact q), if_neg q]
theorem sift_c1 {hi f r : Nat} {L : List Int} {x1 x0 : Int} (h : 2 * r + 1 < hi) (h1 : L[f + (2 * r + 1)]? = some x1) (h0 : L[f + r]? = some x0) (hc : 2 * r + 2 < hi → ∀ x2, L[f + (2 * r + 2)]? = some x2 → decide (x1 < x2) = false) (hl : f + hi ≤ L.length) : siftDown ltInt hi f r (aOf L) = if decide (x0 < x1) = true then siftDown ltInt hi f (2 * r + 1) (aOf ((L.set (f + r) x1).set (f + (2 * r + 1)) x0)) else aOf L := by
  conv => lhs; unfold siftDown
  rw [dif_neg (by omega), aGet h1, aGet h0, if_neg, aSwp h0 h1]
  · by_cases q : decide (x0 < x1) = true
    · rw [if_neg (by simp [ltInt] at q ⊢; exact q), if_pos q]
    · rw [if_pos (by simp [ltInt] at q ⊢; exact q), if_neg q]
  · intro q
    simp only [Bool.and_eq_true, decide_eq_true_eq] at q
    have hlt : f + (2 * r + 2) < L.length := by omega
    have h2 : L[f + (2 * r + 1) + 1]? = some L[f + (2 * r + 2)] := List.getElem?_eq_getElem hlt
    have := hc (by omega) _ h2
    rw [aGet h2] at q
    have q2 := q.2; unfold ltInt at q2; rw [this] at q2; cases q2
theorem hb_go {hi f k : Nat} {d : Array Int} (h : 0 < k) : heapBuild ltInt hi f k d = heapBuild ltInt hi f (k - 1) (siftDown ltInt hi f (k - 1) d) := by
  obtain ⟨q, rfl⟩ : ∃ q, k = q + 1 := ⟨k - 1, by omega⟩
  rfl
theorem hp_go {f k : Nat} {d : Array Int} (h : 0 < k) : heapPop ltInt f k d = heapPop ltInt f (k - 1) (siftDown ltInt (k - 1) f 0 (swp d f (f + (k - 1)))) := by
  obtain ⟨q, rfl⟩ : ∃ q, k = q + 1 := ⟨k - 1, by omega⟩
  rfl
/-! partition -/
def upP (d : Array Int) (a : Nat) : Int → Bool := fun x => ltInt x d[a]!
def dnP (d : Array Int) (a : Nat) : Int → Bool := fun x => !ltInt x d[a]!
theorem su_go {p : Int → Bool} {L : List Int} {j i : Nat} {x : Int} (h : i ≤ j) (hx : L[i]? = some x) (hp : p x = true) : scanUp p (aOf L) j i = scanUp p (aOf L) j (i + 1) := by
  conv => lhs; unfold scanUp
  rw [aGet hx, if_pos (by simp [h, hp])]
theorem su_stop1 {p : Int → Bool} {d : Array Int} {j i : Nat} (h : ¬ i ≤ j) : scanUp p d j i = i := by unfold scanUp; rw [if_neg (by simp [h])]
theorem su_stop2 {p : Int → Bool} {L : List Int} {j i : Nat} {x : Int} (hx : L[i]? = some x) (hp : p x = false) : scanUp p (aOf L) j i = i := by unfold scanUp; rw [aGet hx, if_neg (by simp [hp])]
theorem sd_go {p : Int → Bool} {L : List Int} {j i : Nat} {x : Int} (h : i ≤ j) (h0 : 0 < j) (hx : L[j]? = some x) (hp : p x = true) : scanDown p (aOf L) i j = scanDown p (aOf L) i (j - 1) := by
  obtain ⟨k, rfl⟩ : ∃ k, j = k + 1 := ⟨j - 1, by omega⟩
  conv => lhs; unfold scanDown
  rw [aGet hx, if_pos (by simp [h, hp])]; rfl
theorem sd_stop1 {p : Int → Bool} {d : Array Int} {j i : Nat} (h : ¬ i ≤ j) : scanDown p d i j = j := by
  cases j with
  | zero => rfl
  | succ k => unfold scanDown; rw [if_neg (by simp [h])]
theorem sd_stop2 {p : Int → Bool} {L : List Int} {j i : Nat} {x : Int} (hx : L[j]? = some x) (hp : p x = false) : scanDown p (aOf L) i j = j := by
  cases j with
  | zero => rfl
  | succ k => unfold scanDown; rw [aGet hx, if_neg (by simp [hp])]
theorem upP_is {L : List Int} {a : Nat} {x pv : Int} (h : L[a]? = some pv) : upP (aOf L) a x = decide (x < pv) := by unfold upP; rw [aGet h]; rfl
theorem dnP_is {L : List Int} {a : Nat} {x pv : Int} (h : L[a]? = some pv) : dnP (aOf L) a x = !decide (x < pv) := by unfold dnP; rw [aGet h]; rfl
/-- one round of the partition, from what the two scans found -/
theorem part_stop {a i j i2 j2 : Nat} {d : Array Int} (h1 : scanUp (upP d a) d j i = i2) (h2 : scanDown (dnP d a) d i2 j = j2) (h : j2 < i2) : partLoop ltInt a i j d = (j2, d) := by
  rw [partLoop_eq]; unfold upP at h1; unfold dnP at h2; rw [h1, h2, if_pos h]
theorem part_go {a i j i2 j2 : Nat} {L : List Int} {x y : Int} (h1 : scanUp (upP (aOf L) a) (aOf L) j i = i2) (h2 : scanDown (dnP (aOf L) a) (aOf L) i2 j = j2) (h : ¬ j2 < i2) (hx : L[i2]? = some x) (hy : L[j2]? = some y) : partLoop ltInt a i j (aOf L) = partLoop ltInt a (i2 + 1) (j2 - 1) (aOf ((L.set i2 y).set j2 x)) := by
  rw [partLoop_eq]; unfold upP at h1; unfold dnP at h2; rw [h1, h2, if_neg (by omega), aSwp hx hy]
def upE (d : Array Int) (a : Nat) : Int → Bool := fun x => !ltInt d[a]! x
def dnE (d : Array Int) (a : Nat) : Int → Bool := fun x => ltInt d[a]! x
theorem upE_is {L : List Int} {a : Nat} {x pv : Int} (h : L[a]? = some pv) : upE (aOf L) a x = !decide (pv < x) := by unfold upE; rw [aGet h]; rfl
theorem dnE_is {L : List Int} {a : Nat} {x pv : Int} (h : L[a]? = some pv) : dnE (aOf L) a x = decide (pv < x) := by unfold dnE; rw [aGet h]; rfl
theorem parE_stop {a i j i2 j2 : Nat} {d : Array Int} (h1 : scanUp (upE d a) d j i = i2) (h2 : scanDown (dnE d a) d i2 j = j2) (h : j2 < i2) : partEqLoop ltInt a i j d = (i2, d) := by
  rw [partEqLoop_eq]; unfold upE at h1; unfold dnE at h2; rw [h1, h2, if_pos h]
theorem parE_go {a i j i2 j2 : Nat} {L : List Int} {x y : Int} (h1 : scanUp (upE (aOf L) a) (aOf L) j i = i2) (h2 : scanDown (dnE (aOf L) a) (aOf L) i2 j = j2) (h : ¬ j2 < i2) (hx : L[i2]? = some x) (hy : L[j2]? = some y) : partEqLoop ltInt a i j (aOf L) = partEqLoop ltInt a (i2 + 1) (j2 - 1) (aOf ((L.set i2 y).set j2 x)) := by
  rw [partEqLoop_eq]; unfold dnE at h2; unfold upE at h1; rw [h1, h2, if_neg (by omega), aSwp hx hy]
/-! the partial insertion sort -/
theorem ss_go {L : List Int} {b i : Nat} {x y : Int} (h : i < b) (hx : L[i]? = some x) (hy : L[i - 1]? = some y) (hn : decide (x < y) = false) : scanSorted ltInt (aOf L) b i = scanSorted ltInt (aOf L) b (i + 1) := by
  conv => lhs; unfold scanSorted
  rw [aGet hx, aGet hy, if_pos (by simp only [ltInt, hn]; simp [h])]
theorem ss_stop1 {d : Array Int} {b i : Nat} (h : ¬ i < b) : scanSorted ltInt d b i = i := by unfold scanSorted; rw [if_neg (by simp [h])]
theorem ss_stop2 {L : List Int} {b i : Nat} {x y : Int} (hx : L[i]? = some x) (hy : L[i - 1]? = some y) (hn : decide (x < y) = true) : scanSorted ltInt (aOf L) b i = i := by
  unfold scanSorted; rw [aGet hx, aGet hy, if_neg (by simp only [ltInt, hn]; simp)]
theorem sdn_go {L : List Int} {j : Nat} {x y : Int} (h : 0 < j) (hx : L[j]? = some x) (hy : L[j - 1]? = some y) (hn : decide (x < y) = true) : shiftDown ltInt j (aOf L) = shiftDown ltInt (j - 1) (aOf ((L.set j y).set (j - 1) x)) := by
  rw [aSwp hx hy]
  obtain ⟨k, rfl⟩ : ∃ k, j = k + 1 := ⟨j - 1, by omega⟩
  rw [Nat.add_sub_cancel] at hy ⊢
  conv => lhs; unfold shiftDown
  rw [aGet hx, aGet hy, if_neg (by simp only [ltInt, hn]; simp)]
theorem sdn_stop {L : List Int} {j : Nat} {x y : Int} (h : 0 < j) (hx : L[j]? = some x) (hy : L[j - 1]? = some y) (hn : decide (x < y) = false) : shiftDown ltInt j (aOf L) = aOf L := by
  obtain ⟨k, rfl⟩ : ∃ k, j = k + 1 := ⟨j - 1, by omega⟩
  rw [Nat.add_sub_cancel] at hy
  unfold shiftDown
  rw [aGet hx, aGet hy, if_pos (by simp only [ltInt, hn]; simp)]
theorem sdn_zero {j : Nat} {d : Array Int} (h : ¬ 1 ≤ j) : shiftDown ltInt j d = d := by
  obtain rfl : j = 0 := by omega
  rfl
theorem sup_go {L : List Int} {b j : Nat} {x y : Int} (h : j < b) (hx : L[j]? = some x) (hy : L[j - 1]? = some y) (hn : decide (x < y) = true) : shiftUp ltInt b j (aOf L) = shiftUp ltInt b (j + 1) (aOf ((L.set j y).set (j - 1) x)) := by
  conv => lhs; unfold shiftUp
  rw [aSwp hx hy, aGet hx, aGet hy, if_pos h, if_neg (by simp only [ltInt, hn]; simp)]
theorem sup_stop1 {d : Array Int} {b j : Nat} (h : ¬ j < b) : shiftUp ltInt b j d = d := by unfold shiftUp; rw [if_neg h]
theorem sup_stop2 {L : List Int} {b j : Nat} {x y : Int} (hx : L[j]? = some x) (hy : L[j - 1]? = some y) (hn : decide (x < y) = false) : shiftUp ltInt b j (aOf L) = aOf L := by
  unfold shiftUp
  rw [aGet hx, aGet hy]
  by_cases h : j < b
  · rw [if_pos h, if_pos (by simp only [ltInt, hn]; simp)]
  · rw [if_neg h]
def pin2 (a i : Nat) (d : Array Int) : Array Int := if 2 ≤ i - a then shiftDown ltInt (i - 1) d else d
def pin3 (b i : Nat) (d : Array Int) : Array Int := if 2 ≤ b - i then shiftUp ltInt b (i + 1) d else d
theorem pin_sorted {a b k i : Nat} {d : Array Int} (hk : k < 5) (h : scanSorted ltInt d b i = b) : partialIns ltInt a b (5 - k) i d = (d, true) := by
  obtain ⟨s, e⟩ : ∃ s, 5 - k = s + 1 := ⟨4 - k, by omega⟩
  rw [e]; unfold partialIns; simp only [h, if_true]
theorem pin_short {a b k i i2 : Nat} {d : Array Int} (hk : k < 5) (h : scanSorted ltInt d b i = i2) (h1 : i2 ≠ b) (h2 : b - a < 50) : partialIns ltInt a b (5 - k) i d = (d, false) := by
  obtain ⟨s, e⟩ : ∃ s, 5 - k = s + 1 := ⟨4 - k, by omega⟩
  rw [e]; unfold partialIns; simp only [h, if_neg h1, if_pos h2]
theorem pin_go {a b k i i2 : Nat} {d : Array Int} (hk : k < 5) (h : scanSorted ltInt d b i = i2) (h1 : i2 ≠ b) (h2 : ¬ b - a < 50) : partialIns ltInt a b (5 - k) i d = partialIns ltInt a b (5 - (k + 1)) i2 (pin3 b i2 (pin2 a i2 (swp d i2 (i2 - 1)))) := by
  obtain ⟨s, e, e2⟩ : ∃ s, 5 - k = s + 1 ∧ 5 - (k + 1) = s := ⟨4 - k, by omega, by omega⟩
  rw [e, e2]; conv => lhs; unfold partialIns
  simp only [h, if_neg h1, if_neg h2]; rfl
theorem pin_end {a b i : Nat} {d : Array Int} : partialIns ltInt a b (5 - 5) i d = (d, false) := rfl
theorem perm_swp {xs L : List Int} {a b i j : Nat} {x y : Int} (h : PermIn a b (aOf xs) (aOf L)) (hx : L[i]? = some x) (hy : L[j]? = some y) (h1 : a ≤ i) (h2 : i < b) (h3 : a ≤ j) (h4 : j < b) (hb : b ≤ L.length) : PermIn a b (aOf xs) (aOf ((L.set i y).set j x)) := by
  rw [aSwp hx hy]
  exact permIn_trans _ _ _ _ _ h (swp_permIn _ _ _ _ _ h1 h2 h3 h4 (by simpa [aOf] using hb))
theorem isNaN_ct (x : Int) (w : World) : Calls Tryz.prog 94 #[U4 x] w fun e w' => e = .returned (.bool false) ∧ Fr w w' [] := by
 refine enterD (n := 6) Tryz.func94 rfl rfl (Nat.le_of_ble_eq_true rfl) ?_
 intro Q0 hN hret hret'
 have hC := Cx.start w
 refine WCs (fun K1 hK2 => WCg (WLq 1 [(2, .bool false)] (WLd rfl (QXn (hK2 _ _ (WCs (fun K3 hK4 => WCg (WLz 4 [(2, .bool (x != x))] (WLd rfl (QXn (hK4 _ _ (WC.ret ?_))))))))))))
 refine (hret _ _ _ rfl ?_).1
 exact ⟨by show Ending.returned (.bool _) = _; simp, hC.fr⟩

theorem Less_ct (x y : Int) (w : World) : Calls Tryz.prog 103 #[U4 x, U4 y] w fun e w' => e = .returned (.bool (decide (x < y))) ∧ Fr w w' [] := by
 refine enterD (n := 17) Tryz.func103 rfl rfl (Nat.le_of_ble_eq_true rfl) ?_
 intro Q0 hN hret hret'
 have hC := Cx.start w
 refine WCs (fun K1 hK2 => WCg (WLq 1 [(4, .bool false)] (WLd rfl (QXn (hK2 _ _ (WCs (fun K3 hK4 => WCg (WLq 1 [(5, U4 x)] (WLk (isNaN_ct x w) ?_)))))))))
 rintro _ w6 ⟨rfl, hF5⟩
 refine ⟨_, rfl, ?_⟩
 have hC7 := hC.call hF5
 refine WLz 11 [(4, .bool (decide (x < y)))] (WLd rfl (QXn (hK4 _ _ (WC.ret ?_))))
 refine (hret _ _ _ rfl ?_).1
 exact ⟨rfl, hC7.fr⟩

set_option maxHeartbeats 1000000 in
theorem ins_ct (A : Option Addr) (c : Nat) (xs : List Int) (a b : Nat)  (w : World) (hown : w.ownsRow 0 40 1 (.slice A xs.length c) xs.length (xs.flatMap (Go.Tw.encI .u32))) (hlen : xs.length ≤ 1099511627776) (hab : a ≤ b) (hb : b ≤ xs.length) : Calls Tryz.prog 97 #[.slice A xs.length c, I6 (a : Int), I6 (b : Int)] w fun e w' => ∃ ys : List Int, e = .returned (.tuple #[]) ∧ Fr w w' (blk (.slice A xs.length c)) ∧ w'.ownsRow 0 40 1 (.slice A xs.length c) xs.length (ys.flatMap (Go.Tw.encI .u32)) ∧ aOf ys = insertionSort ltInt (aOf xs) a b := by
 refine enterD (n := 49) Tryz.func97 rfl rfl (Nat.le_of_ble_eq_true rfl) ?_
 intro Q0 hN hret hret'
 have hcc_ := own_le hown
 have hC := Cx.start1 w (own_lt hown)
 have hLs_ := own_count (Go.Tw.encI_len .u32) (by decide) hown
 refine WCs (fun K1 hK2 => WCg (WLz 2 [(9, I6 (IntKind.i64.wrap ((a : Int) + 1)))] (WLt (show (I6 (IntKind.i64.wrap ((a : Int) + 1)) : Value) = I6 ((a : Int) + 1) from by rw [wrap_in_i64 ((a : Int) + 1) (by omega) (by omega)]) (WLq 1 [(6, I6 ((a : Int) + 1))] (WLd rfl (QXn (hK2 _ _ (WC.block ?_))))))))
 refine WC.loop (fun m_ E_ w_ => ∃ (i : Nat) (L : List Int), m_ = b - i ∧ E_ = [(0, .slice A xs.length c), (1, I6 (a : Int)), (2, I6 (b : Int)), (6, I6 (i : Int))] ∧ Cx w (blk (.slice A xs.length c)) w_ [] [blk (.slice A xs.length c)] ∧ World.ownsRow w_ 0 40 1 (.slice A xs.length c) xs.length (L.flatMap (Go.Tw.encI .u32)) ∧ ((a + 1 ≤ i ∧ i ≤ b + 1) ∧ L.length = xs.length ∧ insOuter ltInt a b i (aOf L) = insertionSort ltInt (aOf xs) a b)) ⟨_, _, ⟨a + 1, xs, rfl, rfl, hC, hown, ⟨Nat.le_refl _, by omega⟩, rfl, rfl⟩, sub_of ⟨rfl, rfl, rfl, rfl, trivial⟩⟩ (fun m6 E_ w7 K3 hK4 hI5 => ?_)
 obtain ⟨i, L, rfl, rfl, hC8, hrow, ⟨hi0, hi1⟩, hL, hins⟩ := hI5
 refine WCs (fun K9 aA => WCs (fun a3 aB => WCg (WLz 3 [(12, .bool (decide ((i : Int) < (b : Int))))] (WLd rfl (QXn (aB _ _ (WCa 12 (decide ((i : Int) < (b : Int))) rfl (fun aj => ?_) (fun aj => ?_))))))))
 ·
  have aW : (i : Int) < (b : Int) := by have q_ := of_decide_eq_true aj; omega
  refine WCt rfl (WC.skip (QXn (aA _ _ (WCs (fun a4 aq => WC.block (WCs (fun a5 aC => ?_)))))))
  refine WCg (WLz 2 [(7, I6 (i : Int))] (WLd rfl (QXn (aC _ _ (WC.block (WC.loop (fun m_ E_ w_ => ∃ (j : Nat) (L2 : List Int), m_ = j + 1 ∧ E_ = [(0, .slice A xs.length c), (1, I6 (a : Int)), (2, I6 (b : Int)), (6, I6 (i : Int)), (7, I6 (j : Int))] ∧ Cx w (blk (.slice A xs.length c)) w_ [] [blk (.slice A xs.length c)] ∧ World.ownsRow w_ 0 40 1 (.slice A xs.length c) xs.length (L2.flatMap (Go.Tw.encI .u32)) ∧ (j ≤ i ∧ L2.length = L.length ∧ insInner ltInt a j (aOf L2) = insInner ltInt a i (aOf L))) ⟨_, _, ⟨i, L, rfl, rfl, hC8, hrow, Nat.le_refl _, rfl, rfl⟩, sub_of ⟨rfl, rfl, rfl, rfl, rfl, trivial⟩⟩ (fun m21 E_ a6 a7 aD aE => ?_)))))))
  obtain ⟨j, L2, rfl, rfl, aF, hrow2, hj, hL2, hinn⟩ := aE
  refine WCs (fun a8 aG => WCs (fun a9 ar => WC.drawC aF [] (by kernel_rfl) (fun aX aH au aa => ?_)))
  have ac := own_fr hrow2 aH (by simp)
  refine WDx 4 [(0, 16, I6 (j : Int)), (1, 17, I6 (a : Int)), (2, 18, .bool (decide ((j : Int) > (a : Int)))), (3, 19, .bool (decide ((j : Int) > (a : Int))))] aa (WDa 19 (decide ((j : Int) > (a : Int))) rfl (fun ak => ?_) (fun ak => ?_))
  ·
   have aY : (a : Int) < (j : Int) := by have q_ := of_decide_eq_true ak; omega
   refine WDx 2 [(4, 20, .slice A xs.length c), (5, 21, I6 (j : Int))] aa ?_
   have aZ := own_count (Go.Tw.encI_len _) (by decide) ac
   obtain ⟨af, ad⟩ := get_some (xs := L2) (i := j) (by omega)
   obtain ⟨b36, ae⟩ := own_addr (by decide) (Go.Tw.encI_len _) ac ad
   refine WDi (NPt (NPt (NPt (NPb (NPb (NPt (NPt (NPb hN)))))))) 6 A xs.length c 22 .i64 (j : Int) b36 0 j 1 (by kernel_rfl) (by kernel_rfl) ae (by omega) (by omega) j (by first | (simp; done) | omega) aa (WDx 3 [(8, 24, .slice A xs.length c), (9, 25, I6 (j : Int)), (10, 26, I6 (IntKind.i64.wrap ((j : Int) - 1)))] aa (WD.recast (show (I6 (IntKind.i64.wrap ((j : Int) - 1)) : Value) = I6 ((j - 1 : Nat) : Int) from by rw [wrap_in_i64 _ (by omega) (by omega)]; congr 1; omega) ?_))
   have a0 := own_count (Go.Tw.encI_len _) (by decide) ac
   obtain ⟨ag, ah⟩ := get_some (xs := L2) (i := (j - 1)) (by omega)
   obtain ⟨b41, ai⟩ := own_addr (by decide) (Go.Tw.encI_len _) ac ah
   refine WDi (NPt (NPt (NPt (NPb (NPb (NPt (NPt (NPb hN)))))))) 11 A xs.length c 27 .i64 ((j - 1 : Nat) : Int) b41 0 (j - 1) 1 (by kernel_rfl) (by kernel_rfl) ai (by omega) (by omega) (j - 1) (by first | (simp; done) | omega) aa (WDm 7 40 (P0 b36 j) (U4 af) 23 (fun _ hS_ => run_load1 rfl (by simpa [Nat.add_assoc] using Rd.cell (own_rd (own_fr ac hS_ (by simp)) (Go.Tw.encI_len _) (by decide)) ae ad 0 _ rfl)) aa (WDm 12 40 (P0 b41 (j - 1)) (U4 ag) 28 (fun _ hS_ => run_load1 rfl (by simpa [Nat.add_assoc] using Rd.cell (own_rd (own_fr ac hS_ (by simp)) (Go.Tw.encI_len _) (by decide)) ai ah 0 _ rfl)) aa (WDc 13 (Less_ct af ag aX) ?_)))
   rintro _ ba ⟨rfl, al⟩
   have av := aa.trans al (by simp)
   refine ⟨_, rfl, av, ?_⟩
   have aw := au.call al
   have ax := own_fr ac al (by simp)
   refine WDq 14 30 (.bool (decide (af < ag))) av (WDd (QXn (ar _ _ (WCa 30 (decide (af < ag)) rfl (fun am => ?_) (fun am => ?_)))))
   ·
    refine WCt rfl (WC.skip (QXn (aG _ _ (WCs (fun bb aI => WC.block (WC.drawC aw (blk (.slice A xs.length c)) (by kernel_rfl) (fun bc aJ aK ab => ?_)))))))
    have an := own_fr ax aJ (by simp)
    refine WDx 5 [(0, 33, .slice A xs.length c), (1, 34, I6 (j : Int)), (2, 35, .slice A xs.length c), (3, 36, I6 (j : Int)), (4, 37, I6 (IntKind.i64.wrap ((j : Int) - 1)))] ab (WD.recast (show (I6 (IntKind.i64.wrap ((j : Int) - 1)) : Value) = I6 ((j - 1 : Nat) : Int) from by rw [wrap_in_i64 _ (by omega) (by omega)]; congr 1; omega) (WDx 3 [(5, 38, .slice A xs.length c), (6, 39, I6 (j : Int)), (7, 40, I6 (IntKind.i64.wrap ((j : Int) - 1)))] ab (WD.recast (show (I6 (IntKind.i64.wrap ((j : Int) - 1)) : Value) = I6 ((j - 1 : Nat) : Int) from by rw [wrap_in_i64 _ (by omega) (by omega)]; congr 1; omega) (WDi (NPb (NPt (NPt (NPb (NPb (NPt (NPt (NPb hN)))))))) 8 A xs.length c 41 .i64 ((j - 1 : Nat) : Int) b41 0 (j - 1) 1 (by kernel_rfl) (by kernel_rfl) ai (by omega) (by omega) (j - 1) (by first | (simp; done) | omega) ab (WDx 2 [(10, 43, .slice A xs.length c), (11, 44, I6 (j : Int))] ab ?_)))))
    refine WDi (NPb (NPt (NPt (NPb (NPb (NPt (NPt (NPb hN)))))))) 12 A xs.length c 45 .i64 (j : Int) b36 0 j 1 (by kernel_rfl) (by kernel_rfl) ae (by omega) (by omega) j (by first | (simp; done) | omega) ab ?_
    refine two_loads 9 13 (Instr.loadAt 40 (P0 b41 (j - 1))) (Instr.loadAt 40 (P0 b36 j)) 42 46 (U4 ag) (U4 af) (by kernel_rfl) (by kernel_rfl) (by kernel_rfl) (run_load1 rfl (by simpa [Nat.add_assoc] using Rd.cell (own_rd an (Go.Tw.encI_len _) (by decide)) ai ah 0 _ rfl)) (run_load1 rfl (by simpa [Nat.add_assoc] using Rd.cell (own_rd an (Go.Tw.encI_len _) (by decide)) ae ad 0 _ rfl)) ab (by kernel_rfl) (by kernel_rfl) (by kernel_rfl) (by kernel_rfl) (by decide) (by kernel_rfl) ?_
    refine WDi (NPb (NPt (NPt (NPb (NPb (NPt (NPt (NPb hN)))))))) 14 A xs.length c 47 .i64 (j : Int) b36 0 j 1 (by kernel_rfl) (by kernel_rfl) ae (by omega) (by omega) j (by first | (simp; done) | omega) ab ?_
    obtain ⟨bd, aL, aM, ao, aN⟩ := stoE_run Tryz.prog (Go.Tw.encI_len _) aK 0 ae rfl an j 0 (x := af) ad ag [U4 ag] rfl 40 (U4 ag) (j) rfl rfl rfl (by first | rfl | simp [Nat.add_assoc])
    have ap := ab.trans aM (fun x_ hx_ => .inl hx_)
    refine WDu 15 aL ap ?_
    have a1 := own_count (Go.Tw.encI_len _) (by decide) ao
    obtain ⟨a2, ay⟩ := get_some (xs := L2.set j ag) (i := (j - 1)) (by omega)
    obtain ⟨b77, az⟩ := own_addr (by decide) (Go.Tw.encI_len _) ao ay
    refine WDi (NPb (NPt (NPt (NPb (NPb (NPt (NPt (NPb hN)))))))) 16 A xs.length c 48 .i64 ((j - 1 : Nat) : Int) b77 0 (j - 1) 1 (by kernel_rfl) (by kernel_rfl) az (by omega) (by omega) (j - 1) (by first | (simp; done) | omega) ap ?_
    obtain ⟨be, aO, aP, aQ, aR⟩ := stoE_run Tryz.prog (Go.Tw.encI_len _) aN 0 az rfl ao (j - 1) 0 (x := a2) ay af [U4 af] rfl 40 (U4 af) ((j - 1)) rfl rfl rfl (by first | rfl | simp [Nat.add_assoc])
    have aS := ap.trans aP (fun x_ hx_ => .inl hx_)
    refine WDu 17 aO aS (WDd (QXb (QXn (aI _ _ (WCg (WLz 2 [(32, I6 (IntKind.i64.wrap ((j : Int) - 1)))] ?_))))))
    refine WLt (show (I6 (IntKind.i64.wrap ((j : Int) - 1)) : Value) = I6 ((j - 1 : Nat) : Int) from by rw [wrap_in_i64 _ (by omega) (by omega)]; congr 1; omega) (WLq 1 [(7, I6 ((j - 1 : Nat) : Int))] (WLd rfl (QXn ?_)))
    have aT := aR.pick [] [0] rfl rfl
    refine fun a_ ha_ => aD _ _ _ ?_ ⟨j - 1, (L2.set j ag).set (j - 1) af, rfl, rfl, aT, aQ, by omega, (set2_len _ _ _ _ _).trans hL2, by rw [← hinn]; exact (ins_go (by omega) ad ah am).symm⟩ a_ (ha_.weaken (sub_of ⟨rfl, rfl, rfl, rfl, rfl, trivial⟩))
    omega
   ·
    refine WCf rfl (WC.exit (QXe (QXe (QX.block_hit (QXb ?_)))))
    refine QXn (aq _ _ (WCg (WLz 2 [(14, I6 (IntKind.i64.wrap ((i : Int) + 1)))] (WLt (show (I6 (IntKind.i64.wrap ((i : Int) + 1)) : Value) = I6 ((i : Int) + 1) from by rw [wrap_in_i64 ((i : Int) + 1) (by omega) (by omega)]) (WLq 1 [(6, I6 ((i : Int) + 1))] (WLd rfl ?_))))))
    refine QXn ?_
    have aU := aw.pick [] [0] rfl rfl
    refine fun a_ ha_ => hK4 _ _ _ ?_ ⟨i + 1, L2, rfl, rfl, aU, ax, ⟨by omega, by omega⟩, hL2.trans hL, by rw [← hins, outer_go (d := aOf L) (by omega), ← hinn]; rw [ins_stop2 (a := a) (by omega) ad ah am]⟩ a_ (ha_.weaken (sub_of ⟨rfl, rfl, rfl, rfl, trivial⟩))
    omega
  ·
   have aY : (j : Int) ≤ (a : Int) := by have q_ := of_decide_eq_false ak; omega
   refine WDx 11 [(4, 20, undef), (5, 21, undef), (6, 22, undef), (7, 23, undef), (8, 24, undef), (9, 25, undef), (10, 26, undef), (11, 27, undef), (12, 28, undef), (13, 29, undef), (14, 30, .bool false)] aa (WDd (QXn (ar _ _ (WCf rfl (WC.exit (QXe ?_))))))
   refine QXe (QX.block_hit (QXb (QXn (aq _ _ (WCg (WLz 2 [(14, I6 (IntKind.i64.wrap ((i : Int) + 1)))] ?_))))))
   refine WLt (show (I6 (IntKind.i64.wrap ((i : Int) + 1)) : Value) = I6 ((i : Int) + 1) from by rw [wrap_in_i64 ((i : Int) + 1) (by omega) (by omega)]) (WLq 1 [(6, I6 ((i : Int) + 1))] (WLd rfl (QXn ?_)))
   have aV := au.pick [] [0] rfl rfl
   refine fun a_ ha_ => hK4 _ _ _ ?_ ⟨i + 1, L2, rfl, rfl, aV, ac, ⟨by omega, by omega⟩, hL2.trans hL, by rw [← hins, outer_go (d := aOf L) (by omega), ← hinn]; rw [ins_stop1 (a := a) (j := j) (d := aOf L2) (by omega)]⟩ a_ (ha_.weaken (sub_of ⟨rfl, rfl, rfl, rfl, trivial⟩))
   omega
 ·
  have aW : (b : Int) ≤ (i : Int) := by have q_ := of_decide_eq_false aj; omega
  refine WCf rfl (WC.exit (QXe (QXe (QX.block_hit ?_))))
  refine (hret _ _ _ rfl ?_).2
  exact ⟨L, rfl, hC8.fr, hrow, by rw [← hins, outer_stop (by omega)]⟩

set_option maxHeartbeats 1000000 in
theorem rev_ct (A : Option Addr) (c : Nat) (xs : List Int) (a b : Nat)  (w : World) (hown : w.ownsRow 0 40 1 (.slice A xs.length c) xs.length (xs.flatMap (Go.Tw.encI .u32))) (hlen : xs.length ≤ 1099511627776) (hab : a < b) (hb : b ≤ xs.length) : Calls Tryz.prog 101 #[.slice A xs.length c, I6 (a : Int), I6 (b : Int)] w fun e w' => ∃ ys : List Int, e = .returned (.tuple #[]) ∧ Fr w w' (blk (.slice A xs.length c)) ∧ w'.ownsRow 0 40 1 (.slice A xs.length c) xs.length (ys.flatMap (Go.Tw.encI .u32)) ∧ aOf ys = reverseRange (aOf xs) a b := by
 refine enterD (n := 32) Tryz.func101 rfl rfl (Nat.le_of_ble_eq_true rfl) ?_
 intro Q0 hN hret hret'
 have hcc_ := own_le hown
 have hC := Cx.start1 w (own_lt hown)
 have hLs_ := own_count (Go.Tw.encI_len .u32) (by decide) hown
 refine WCs (fun K1 hK2 => WCg (WLz 2 [(6, I6 (a : Int))] (WLd rfl (QXn (hK2 _ _ (WCs (fun K3 hK4 => WCg (WLz 2 [(10, I6 (IntKind.i64.wrap ((b : Int) - 1)))] ?_))))))))
 refine WLt (show (I6 (IntKind.i64.wrap ((b : Int) - 1)) : Value) = I6 ((b - 1 : Nat) : Int) from by rw [wrap_in_i64 _ (by omega) (by omega)]; congr 1; omega) (WLq 1 [(7, I6 ((b - 1 : Nat) : Int))] (WLd rfl (QXn (hK4 _ _ (WC.block (WC.loop (fun m_ E_ w_ => ∃ (i j : Nat) (L : List Int), m_ = j - i ∧ E_ = [(0, .slice A xs.length c), (1, I6 (a : Int)), (2, I6 (b : Int)), (6, I6 (i : Int)), (7, I6 (j : Int))] ∧ Cx w (blk (.slice A xs.length c)) w_ [] [blk (.slice A xs.length c)] ∧ World.ownsRow w_ 0 40 1 (.slice A xs.length c) xs.length (L.flatMap (Go.Tw.encI .u32)) ∧ ((a ≤ i ∧ j < b) ∧ L.length = xs.length ∧ reverseLoop i j (aOf L) = reverseRange (aOf xs) a b)) ⟨_, _, ⟨a, b - 1, xs, rfl, rfl, hC, hown, ⟨Nat.le_refl _, by omega⟩, rfl, rfl⟩, sub_of ⟨rfl, rfl, rfl, rfl, rfl, trivial⟩⟩ (fun m8 E_ w9 K5 hK6 hI7 => ?_)))))))
 obtain ⟨i, j, L, rfl, rfl, ak, hrow, ⟨hi, hj⟩, hL, hins⟩ := hI7
 refine WCs (fun aK ao => WCs (fun aL ap => WCg (WLz 3 [(13, .bool (decide ((i : Int) < (j : Int))))] (WLd rfl (QXn (ap _ _ (WCa 13 (decide ((i : Int) < (j : Int))) rfl (fun ae => ?_) (fun ae => ?_))))))))
 ·
  have aF : (i : Int) < (j : Int) := by have q_ := of_decide_eq_true ae; omega
  refine WCt rfl (WC.skip (QXn (ao _ _ (WC.block (WCs (fun aM aq => WC.drawC ak (blk (.slice A xs.length c)) (by kernel_rfl) (fun aN ar au aa => ?_)))))))
  have ab := own_fr hrow ar (by simp)
  refine WDx 6 [(0, 14, .slice A xs.length c), (1, 15, I6 (i : Int)), (2, 16, .slice A xs.length c), (3, 17, I6 (j : Int)), (4, 18, .slice A xs.length c), (5, 19, I6 (j : Int))] aa ?_
  have aG := own_count (Go.Tw.encI_len _) (by decide) ab
  obtain ⟨af, ag⟩ := get_some (xs := L) (i := j) (by omega)
  obtain ⟨b25, al⟩ := own_addr (by decide) (Go.Tw.encI_len _) ab ag
  refine WDi (NPt (NPb (NPt (NPb hN)))) 6 A xs.length c 20 .i64 (j : Int) b25 0 j 1 (by kernel_rfl) (by kernel_rfl) al (by omega) (by omega) j (by first | (simp; done) | omega) aa (WDx 2 [(8, 22, .slice A xs.length c), (9, 23, I6 (i : Int))] aa ?_)
  have aH := own_count (Go.Tw.encI_len _) (by decide) ab
  obtain ⟨ah, ac⟩ := get_some (xs := L) (i := i) (by omega)
  obtain ⟨b30, ad⟩ := own_addr (by decide) (Go.Tw.encI_len _) ab ac
  refine WDi (NPt (NPb (NPt (NPb hN)))) 10 A xs.length c 24 .i64 (i : Int) b30 0 i 1 (by kernel_rfl) (by kernel_rfl) ad (by omega) (by omega) i (by first | (simp; done) | omega) aa ?_
  refine two_loads 7 11 (Instr.loadAt 40 (P0 b25 j)) (Instr.loadAt 40 (P0 b30 i)) 21 25 (U4 af) (U4 ah) (by kernel_rfl) (by kernel_rfl) (by kernel_rfl) (run_load1 rfl (by simpa [Nat.add_assoc] using Rd.cell (own_rd ab (Go.Tw.encI_len _) (by decide)) al ag 0 _ rfl)) (run_load1 rfl (by simpa [Nat.add_assoc] using Rd.cell (own_rd ab (Go.Tw.encI_len _) (by decide)) ad ac 0 _ rfl)) aa (by kernel_rfl) (by kernel_rfl) (by kernel_rfl) (by kernel_rfl) (by decide) (by kernel_rfl) ?_
  refine WDi (NPt (NPb (NPt (NPb hN)))) 12 A xs.length c 26 .i64 (i : Int) b30 0 i 1 (by kernel_rfl) (by kernel_rfl) ad (by omega) (by omega) i (by first | (simp; done) | omega) aa ?_
  obtain ⟨aO, av, aw, ai, ax⟩ := stoE_run Tryz.prog (Go.Tw.encI_len _) au 0 ad rfl ab i 0 (x := ah) ac af [U4 af] rfl 40 (U4 af) (i) rfl rfl rfl (by first | rfl | simp [Nat.add_assoc])
  have aj := aa.trans aw (fun x_ hx_ => .inl hx_)
  refine WDu 13 av aj ?_
  have aI := own_count (Go.Tw.encI_len _) (by decide) ai
  obtain ⟨aJ, am⟩ := get_some (xs := L.set i af) (i := j) (by omega)
  obtain ⟨b45, an⟩ := own_addr (by decide) (Go.Tw.encI_len _) ai am
  refine WDi (NPt (NPb (NPt (NPb hN)))) 14 A xs.length c 27 .i64 (j : Int) b45 0 j 1 (by kernel_rfl) (by kernel_rfl) an (by omega) (by omega) j (by first | (simp; done) | omega) aj ?_
  obtain ⟨aP, ay, az, aA, aB⟩ := stoE_run Tryz.prog (Go.Tw.encI_len _) ax 0 an rfl ai j 0 (x := aJ) am ah [U4 ah] rfl 40 (U4 ah) (j) rfl rfl rfl (by first | rfl | simp [Nat.add_assoc])
  have aC := aj.trans az (fun x_ hx_ => .inl hx_)
  refine WDu 15 ay aC (WDd (QXn (aq _ _ (WCs (fun aQ aD => WCg (WLz 2 [(29, I6 (IntKind.i64.wrap ((i : Int) + 1)))] ?_))))))
  refine WLt (show (I6 (IntKind.i64.wrap ((i : Int) + 1)) : Value) = I6 ((i : Int) + 1) from by rw [wrap_in_i64 ((i : Int) + 1) (by omega) (by omega)]) (WLq 1 [(6, I6 ((i : Int) + 1))] (WLd rfl (QXn (aD _ _ (WCg (WLz 2 [(31, I6 (IntKind.i64.wrap ((j : Int) - 1)))] (WLt (show (I6 (IntKind.i64.wrap ((j : Int) - 1)) : Value) = I6 ((j - 1 : Nat) : Int) from by rw [wrap_in_i64 _ (by omega) (by omega)]; congr 1; omega) (WLq 1 [(7, I6 ((j - 1 : Nat) : Int))] ?_))))))))
  refine WLd rfl (QXb (QXn ?_))
  have aE := aB.pick [] [0] rfl rfl
  refine fun a_ ha_ => hK6 _ _ _ ?_ ⟨i + 1, j - 1, (L.set i af).set j ah, rfl, rfl, aE, aA, ⟨by omega, by omega⟩, (set2_len _ _ _ _ _).trans hL, by rw [← hins]; exact (rev_go (by omega) ac ag).symm⟩ a_ (ha_.weaken (sub_of ⟨rfl, rfl, rfl, rfl, rfl, trivial⟩))
  omega
 ·
  have aF : (j : Int) ≤ (i : Int) := by have q_ := of_decide_eq_false ae; omega
  refine WCf rfl (WC.exit (QXe (QXe (QX.block_hit ?_))))
  refine (hret _ _ _ rfl ?_).2
  exact ⟨L, rfl, ak.fr, hrow, by rw [← hins, rev_stop (by omega)]⟩

end Go.Proofs.YtfligklljkcbfaaGreatDoor
