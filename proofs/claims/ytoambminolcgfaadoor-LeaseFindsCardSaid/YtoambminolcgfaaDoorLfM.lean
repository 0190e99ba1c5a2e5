/- Contracts of functions of the program, each proved by a walk through its code; conditions stand in the statements. -/
import Derived.Test.YtoambminolcgfaaDoorLfL
namespace Go.Proofs.YtoambminolcgfaaDoor
set_option linter.unusedSimpArgs false
set_option linter.unusedVariables false
set_option linter.unusedSectionVars false
open Go Go.RowKit Go.Tw
set_option linter.unusedVariables false
theorem goodL_of {l : Lease} (h1 : isHome l.dip = true) (h2 : isVip l.vip = true) (h3 : 1024 ≤ l.first ∧ l.first ≤ 65528 ∧ (l.first - 1024) % 8 = 0) (h4 : 0 ≤ l.exp ∧ l.exp ≤ 1099511627840) : goodL l = true := by simp [goodL, goodBlock, h1, h2, h3, h4]
theorem lentAt_of {l : Lease} {vip now : Int} {n : Nat} (h1 : l.vip = vip) (h2 : now ≤ l.exp) (h3 : blkN l = n) : lentAt vip now n l = true := by simp [lentAt, livesB, h1, h2, h3]
theorem ofP_no {l : Lease} {dip n : Int} (h : l.dip ≠ dip) : ofP dip n l = false := by simp [ofP, h]
theorem full_blk (now : Int) (i : Nat) : blkN (⟨16843009, 1024 + 8 * (i : Int), 167837696, now + 5⟩ : Lease) = i := by unfold blkN; show ((1024 + 8 * (i : Int) - 1024) / 8).toNat = i; omega
def fullAt (now : Int) (i : Nat) : Lease := ⟨16843009, 1024 + 8 * (i : Int), 167837696, now + 5⟩
def fullL (now : Int) (k : Nat) : List Lease := (List.range k).map (fullAt now)
theorem fullL_len (now : Int) (k : Nat) : (fullL now k).length = k := by simp [fullL]
theorem fullL_succ (now : Int) (k : Nat) : fullL now (k + 1) = fullL now k ++ [fullAt now k] := by simp [fullL, List.range_succ]
theorem fullL_get {now : Int} {k i : Nat} {x : Lease} (h : (fullL now k)[i]? = some x) : i < k ∧ x = fullAt now i := by
  unfold fullL at h
  rw [List.getElem?_map] at h
  obtain ⟨a, ha, rfl⟩ := Option.map_eq_some_iff.1 h
  obtain ⟨h1, h2⟩ := List.getElem?_eq_some_iff.1 ha
  simp at h1 h2
  subst h2
  exact ⟨h1, rfl⟩
theorem fullL_at {now : Int} {k i : Nat} (h : i < k) : (fullL now k)[i]? = some (fullAt now i) := by
  unfold fullL
  rw [List.getElem?_map, List.getElem?_range h]; rfl
theorem fullL_mem {now : Int} {k : Nat} {x : Lease} : x ∈ fullL now k ↔ ∃ i, i < k ∧ fullAt now i = x := by simp [fullL]
theorem full_good {now : Int} (h0 : 0 ≤ now) (h1 : now ≤ 1073741824) {i : Nat} (hi : i < 8064) : goodL (fullAt now i) = true := by
  exact goodL_of (l := fullAt now i) (show isHome 167837696 = true by decide) (show isVip 16843009 = true by decide) (by simp only [fullAt]; omega) (by simp only [fullAt]; omega)
theorem full_ok {now : Int} (h0 : 0 ≤ now) (h1 : now ≤ 1073741824) {i : Nat} (hi : i < 8064) : okL (fullAt now i) := by
  simp only [okL, fullAt]; omega
theorem full_lt {now : Int} {i j : Nat} (h : i < j) : ltL (fullAt now i) (fullAt now j) = true := by
  rw [ltL_iff]; right; simp only [fullAt]; exact ⟨trivial, by omega⟩
theorem full_sorted (now : Int) (k : Nat) : sortedL (fullL now k) := by
  unfold sortedL
  rw [List.pairwise_iff_getElem]
  intro i j hi hj hij
  have h1 := (fullL_get (List.getElem?_eq_getElem hi)).2
  have h2 := (fullL_get (List.getElem?_eq_getElem hj)).2
  rw [h1, h2]; exact full_lt hij
theorem full_check {now : Int} (h0 : 0 ≤ now) (h1 : now ≤ 1073741824) : checkL (fullL now 8064) = true :=
  checkL_iff.2 ⟨fun x hx => by obtain ⟨i, hi, rfl⟩ := fullL_mem.1 hx; exact full_good h0 h1 hi, full_sorted _ _⟩
theorem full_of (now dip n : Int) (k : Nat) (hd : dip ≠ 167837696) : (fullL now k).filter (ofP dip n) = [] := by
  rw [List.filter_eq_nil_iff]
  intro x hx
  obtain ⟨i, _, rfl⟩ := fullL_mem.1 hx
  rw [ofP_no (l := fullAt now i) (fun e => hd e.symm)]; decide
theorem full_lent {now : Int} {i : Nat} (hi : i < 8064) : lentB (fullL now 8064) 16843009 now i = true := by
  unfold lentB
  rw [List.any_eq_true]
  refine ⟨fullAt now i, fullL_mem.2 ⟨i, hi, rfl⟩, lentAt_of rfl (by simp only [fullAt]; omega) (full_blk now i)⟩
theorem full_none (now : Int) : freeN (fullL now 8064) 16843009 now = none := free_none fun n hn => full_lent (by omega)
theorem good_ask : goodL ⟨16843009, 1024, 167837697, 0⟩ = true := by decide
theorem full_grE {now : Int} (h0 : 0 ≤ now) (h1 : now ≤ 1073741824) : grE (fullL now 8064) 16843009 167837697 now = 5 := by
  have ht : goodTime now = true := by simp only [goodTime, Bool.and_eq_true, decide_eq_true_eq]; omega
  unfold grE
  rw [full_check h0 h1, good_ask, ht, full_of _ _ _ _ (by decide), full_none]
  rfl
/-- behind the leases' end: the first block is free -/
theorem late_free (now : Int) : freeN (fullL now 8064) 16843009 (now + 6) = some 0 := by
  unfold freeN
  rw [List.find?_range_eq_some]
  refine ⟨?_, List.mem_range.2 (by omega), fun j hj => absurd hj (Nat.not_lt_zero j)⟩
  have : lentB (fullL now 8064) 16843009 (now + 6) 0 = false := by
    unfold lentB
    rw [List.any_eq_false]
    intro x hx
    obtain ⟨i, _, rfl⟩ := fullL_mem.1 hx
    have : livesB (fullAt now i) (now + 6) = false := by simp only [livesB, fullAt]; exact decide_eq_false (by omega)
    simp [lentAt, this]
  rw [this]; rfl
theorem late_grE {now : Int} (h0 : 0 ≤ now) (h1 : now ≤ 1073741824) : grE (fullL now 8064) 16843009 167837697 (now + 6) = 0 := by
  have ht : goodTime (now + 6) = true := by simp only [goodTime, Bool.and_eq_true, decide_eq_true_eq]; omega
  unfold grE
  rw [full_check h0 h1, good_ask, ht, full_of _ _ _ _ (by decide), late_free]
  rfl
def lateL (now : Int) : Lease := ⟨16843009, 1024, 167837697, now + 6 + 64⟩
theorem late_grL {now : Int} (h0 : 0 ≤ now) (h1 : now ≤ 1073741824) : grL (fullL now 8064) 16843009 167837697 (now + 6) = lateL now := by
  have hf : freeF (fullL now 8064) 16843009 (now + 6) = 1024 := by unfold freeF; rw [late_free]; rfl
  unfold grL; rw [if_pos (late_grE h0 h1), hf]; rfl
theorem late_grX {now : Int} (h0 : 0 ≤ now) (h1 : now ≤ 1073741824) : grX (fullL now 8064) 16843009 167837697 (now + 6) = (fullL now 8064).set 0 (lateL now) := by
  unfold grX
  rw [if_pos (late_grE h0 h1), late_grL h0 h1]
  have hb : bsPost (fullL now 8064) (lateL now) 0 := ⟨Nat.zero_le _, fun q x hq => by omega, fun q x _ hx => by
    obtain ⟨_, rfl⟩ := fullL_get hx
    cases hc : ltL (fullAt now q) (lateL now)
    · rfl
    · exfalso; rw [ltL_iff] at hc; simp only [fullAt, lateL] at hc; omega⟩
  have hf : foundAt (fullL now 8064) (lateL now) 0 = true := by
    unfold foundAt
    have h0 : (fullL now 8064)[0]? = some (fullAt now 0) := fullL_at (by omega)
    rw [h0]
    exact decide_eq_true ⟨rfl, rfl⟩
  exact (ins_found (full_sorted _ _) hb hf).2.symm
/-- without one of them -/
def holeL (now : Int) (k : Nat) : List Lease := (fullL now 8064).take k ++ (fullL now 8064).drop (k + 1)
theorem hole_len (now : Int) {k : Nat} (hk : k < 8064) : (holeL now k).length = 8063 := by
  simp only [holeL, List.length_append, List.length_take, List.length_drop, fullL_len]; omega
theorem hole_sub (now : Int) (k : Nat) : (holeL now k).Sublist (fullL now 8064) := by
  have h := List.take_append_drop k (fullL now 8064)
  have h2 : ((fullL now 8064).drop (k + 1)).Sublist ((fullL now 8064).drop k) := by
    have e : (fullL now 8064).drop (k + 1) = ((fullL now 8064).drop k).drop 1 := by rw [List.drop_drop]
    rw [e]; exact List.drop_sublist _ _
  have h3 : ((fullL now 8064).take k ++ (fullL now 8064).drop (k + 1)).Sublist ((fullL now 8064).take k ++ (fullL now 8064).drop k) := List.Sublist.append (List.Sublist.refl _) h2
  rw [h] at h3; exact h3
theorem hole_mem {now : Int} {k : Nat} {x : Lease} (h : x ∈ holeL now k) : ∃ i, i < 8064 ∧ i ≠ k ∧ fullAt now i = x := by
  simp only [holeL, List.mem_append] at h
  rcases h with h | h
  · obtain ⟨i, hi⟩ := List.getElem?_of_mem h
    rw [List.getElem?_take] at hi
    split at hi
    · obtain ⟨h1, rfl⟩ := fullL_get hi; exact ⟨i, h1, by omega, rfl⟩
    · cases hi
  · obtain ⟨i, hi⟩ := List.getElem?_of_mem h
    rw [List.getElem?_drop] at hi
    obtain ⟨h1, rfl⟩ := fullL_get hi
    exact ⟨k + 1 + i, h1, by omega, rfl⟩
theorem hole_has {now : Int} {k i : Nat} (hi : i < 8064) (hne : i ≠ k) (hk : k < 8064) : fullAt now i ∈ holeL now k := by
  simp only [holeL, List.mem_append]
  by_cases h : i < k
  · left; exact List.mem_of_getElem? (i := i) (by rw [List.getElem?_take, if_pos h]; exact fullL_at hi)
  · right; exact List.mem_of_getElem? (i := i - (k + 1)) (by rw [List.getElem?_drop, show k + 1 + (i - (k + 1)) = i from by omega]; exact fullL_at hi)
theorem hole_sorted (now : Int) (k : Nat) : sortedL (holeL now k) := (full_sorted now 8064).sublist (hole_sub now k)
theorem hole_good {now : Int} (h0 : 0 ≤ now) (h1 : now ≤ 1073741824) (k : Nat) : ∀ x ∈ holeL now k, goodL x = true := fun x hx => by
  obtain ⟨i, hi, _, rfl⟩ := hole_mem hx; exact full_good h0 h1 hi
theorem hole_check {now : Int} (h0 : 0 ≤ now) (h1 : now ≤ 1073741824) (k : Nat) : checkL (holeL now k) = true := checkL_iff.2 ⟨hole_good h0 h1 k, hole_sorted now k⟩
theorem hole_free {now : Int} {k : Nat} (hk : k < 8064) : freeN (holeL now k) 16843009 now = some k := by
  unfold freeN
  rw [List.find?_range_eq_some]
  refine ⟨?_, List.mem_range.2 hk, fun j hj => ?_⟩
  · have : lentB (holeL now k) 16843009 now k = false := by
      unfold lentB
      rw [List.any_eq_false]
      intro x hx
      obtain ⟨i, hi, hne, rfl⟩ := hole_mem hx
      have : blkN (fullAt now i) = i := by simp only [blkN, fullAt]; omega
      simp [lentAt, this, hne]
    rw [this]; rfl
  · have : lentB (holeL now k) 16843009 now j = true := by
      unfold lentB
      rw [List.any_eq_true]
      refine ⟨fullAt now j, hole_has (by omega) (by omega) hk, lentAt_of rfl (by simp only [fullAt]; omega) (full_blk now j)⟩
    rw [this]; rfl
theorem hole_of (now dip n : Int) (k : Nat) (hd : dip ≠ 167837696) : (holeL now k).filter (ofP dip n) = [] := by
  rw [List.filter_eq_nil_iff]
  intro x hx
  obtain ⟨i, _, _, rfl⟩ := hole_mem hx
  rw [ofP_no (l := fullAt now i) (fun e => hd e.symm)]; decide
theorem hole_grE {now : Int} (h0 : 0 ≤ now) (h1 : now ≤ 1073741824) {k : Nat} (hk : k < 8064) : grE (holeL now k) 16843009 167837697 now = 0 := by
  have ht : goodTime now = true := by simp only [goodTime, Bool.and_eq_true, decide_eq_true_eq]; omega
  unfold grE
  rw [hole_check h0 h1, good_ask, ht, hole_of _ _ _ _ (by decide), hole_free hk]
  rfl
def holeG (now : Int) (k : Nat) : Lease := ⟨16843009, 1024 + 8 * (k : Int), 167837697, now + 64⟩
theorem hole_grL {now : Int} (h0 : 0 ≤ now) (h1 : now ≤ 1073741824) {k : Nat} (hk : k < 8064) : grL (holeL now k) 16843009 167837697 now = holeG now k := by
  have hf : freeF (holeL now k) 16843009 now = 1024 + 8 * (k : Int) := by unfold freeF; rw [hole_free hk]
  unfold grL; rw [if_pos (hole_grE h0 h1 hk), hf]; rfl
theorem hole_grX {now : Int} (h0 : 0 ≤ now) (h1 : now ≤ 1073741824) {k : Nat} (hk : k < 8064) : grX (holeL now k) 16843009 167837697 now = insL (holeL now k) (holeG now k) := by
  unfold grX
  rw [if_pos (hole_grE h0 h1 hk), hole_grL h0 h1 hk]
theorem sorted_ins {xs : List Lease} {l : Lease} (hs : sortedL xs) : sortedL (insL xs l) := by
  unfold sortedL insL
  rw [List.pairwise_append]
  refine ⟨hs.sublist List.filter_sublist, List.pairwise_cons.2 ⟨fun y hy => (List.mem_filter.1 hy).2, hs.sublist List.filter_sublist⟩, fun a ha b hb => ?_⟩
  have h1 : ltL a l = true := by simpa using (List.mem_filter.1 ha).2
  rcases List.mem_cons.1 hb with rfl | hb
  · exact h1
  · exact ltL_trans h1 (by simpa using (List.mem_filter.1 hb).2)
theorem check_ins {xs : List Lease} {l : Lease} (h : checkL xs = true) (hl : goodL l = true) : checkL (insL xs l) = true := by
  obtain ⟨h1, h2⟩ := checkL_iff.1 h
  exact checkL_iff.2 ⟨fun x hx => by rcases mem_insL hx with h3 | rfl; exact h1 x h3; exact hl, sorted_ins h2⟩
theorem len_ins_new {xs : List Lease} {l : Lease} (h : ∀ x ∈ xs, ¬ (x.vip = l.vip ∧ x.first = l.first)) : (insL xs l).length = xs.length + 1 := by
  have key : (xs.filter (ltL · l)).length + (xs.filter (ltL l ·)).length = xs.length := by
    induction xs with
    | nil => simp
    | cons x r ih =>
      have ih := ih (fun y hy => h y (by simp [hy]))
      have hx := h x (by simp)
      cases hc : ltL x l
      · have h2 := ltL_tri hc hx
        simp [List.filter_cons, hc, h2]; omega
      · have h2 := ltL_asym hc
        simp [List.filter_cons, hc, h2]; omega
  simp only [insL, List.length_append, List.length_cons]; omega
theorem hole_ins_len (now : Int) {k : Nat} (hk : k < 8064) : (insL (holeL now k) (holeG now k)).length = 8064 := by
  rw [len_ins_new (fun x hx => ?_), hole_len now hk]
  obtain ⟨i, _, hne, rfl⟩ := hole_mem hx
  simp only [fullAt, holeG]; omega
theorem hole_good_G {now : Int} (h0 : 0 ≤ now) (h1 : now ≤ 1073741824) {k : Nat} (hk : k < 8064) : goodL (holeG now k) = true := by
  exact goodL_of (l := holeG now k) (show isHome 167837697 = true by decide) (show isVip 16843009 = true by decide) (by simp only [holeG]; omega) (by simp only [holeG]; omega)
theorem hole_ins_check {now : Int} (h0 : 0 ≤ now) (h1 : now ≤ 1073741824) {k : Nat} (hk : k < 8064) : checkL (insL (holeL now k) (holeG now k)) = true := check_ins (hole_check h0 h1 k) (hole_good_G h0 h1 hk)
theorem hole_eq {now : Int} {k kk : Nat} (hk : k = 8064) : ([] ++ (fullL now k).take kk) ++ ((fullL now k).take k).drop (kk + 1) = holeL now kk := by
  subst hk
  have e : (fullL now 8064).take 8064 = fullL now 8064 := List.take_of_length_le (by rw [fullL_len]; exact Nat.le_refl _)
  rw [e, List.nil_append]; rfl
theorem ok_of_good {x : Lease} {now : Int} {i : Nat} (h0 : 0 ≤ now) (h1 : now ≤ 1073741824) (hi : i < 8064) : okL (fullAt now i) := full_ok h0 h1 hi
theorem full_okL {now : Int} {k : Nat} (h0 : 0 ≤ now) (h1 : now ≤ 1073741824) (hk : k = 8064) : ∀ l ∈ fullL now k, okL l := fun l hl => by
  obtain ⟨i, hi, rfl⟩ := fullL_mem.1 hl; exact full_ok h0 h1 (by omega)
theorem hole_okL {now : Int} {kk : Nat} (h0 : 0 ≤ now) (h1 : now ≤ 1073741824) : ∀ l ∈ holeL now kk, okL l := fun l hl => by
  obtain ⟨i, hi, _, rfl⟩ := hole_mem hl; exact full_ok h0 h1 hi
theorem insH_okL {now : Int} {kk : Nat} (h0 : 0 ≤ now) (h1 : now ≤ 1073741824) (hk : kk < 8064) : ∀ l ∈ insL (holeL now kk) (holeG now kk), okL l := fun l hl => by
  rcases mem_insL hl with h | rfl
  · exact hole_okL h0 h1 l h
  · simp only [okL, holeG]; omega
theorem set0_get {now : Int} {x : Lease} (h : ((fullL now 8064).set 0 (lateL now))[0]? = some x) : x = lateL now := by
  rw [List.getElem?_set_self (by rw [fullL_len]; omega)] at h
  simpa using h.symm
theorem LeaseFull_ct (vip other now : Int) (w : World) (hvip : 0 ≤ vip ∧ vip ≤ 4294967295) (hnow : -9223372036854775808 ≤ now ∧ now ≤ 9223372036854775807) (hg : Rd w 1 (encI .u8) (some ⟨0, 0, none⟩) dbTab) : Calls Tryd.prog 3 #[.int .u32 vip, .int .u32 other, .int .i64 now] w fun e w' => e = .returned (.bool true) ∧ Fr w w' [] := by
  refine enterD (n := 122) Tryd.func3 rfl rfl (Nat.le_of_ble_eq_true rfl) ?_
  intro Q0 hN hret hret'
  obtain ⟨kk, hkk⟩ : ∃ kk : Nat, (kk : Int) = 17 + vip % 8000 := ⟨(17 + vip % 8000).toNat, by omega⟩
  have hkk2 : kk < 8064 := by omega
  have hC := Cx.start w
  refine WC.seq (fun K1 hK2 => ?_)
  refine WC.region ?_
  refine WL.runs 1 [(6, .bool false)] (fun _ => by kernel_rfl) ?_
  refine WL.done rfl ?_
  refine QX.then_normal (hK2 _ _ ?_)
  refine WC.seq (fun K3 hK4 => ?_)
  refine WC.seq (fun K5 hK6 => ?_)
  refine WC.region ?_
  refine WL.call rfl rfl rfl rfl rfl (by kernel_rfl) (alive_ct w (Rd.fr hg hC.fr)) ?_
  rintro _ w8 ⟨rfl, hF7⟩
  refine ⟨_, rfl, ?_⟩
  have hC9 := hC.call hF7
  refine WL.runs 1 [(17, .bool false)] (fun _ => by kernel_rfl) ?_
  refine WL.done rfl ?_
  refine QX.then_normal (hK6 _ _ ?_)
  refine WC.cond_false rfl ?_
  refine WC.skip ?_
  refine QX.then_normal (hK4 _ _ ?_)
  refine WC.seq (fun K10 hK11 => ?_)
  refine WC.seq (fun K12 hK13 => ?_)
  refine WC.region ?_
  refine WL.runs 3 [(20, .bool (decide (now < 0))), (19, .bool (decide (now < 0))), (18, .int .i64 now)] (fun _ => by kernel_rfl) ?_
  refine WL.test_at 20 (decide (now < 0)) rfl (fun t14b => ?_) (fun t14b => ?_)
  · -- now < 0: true
    have t14 : now < 0 := by have q_ := of_decide_eq_true t14b; omega
    refine WL.runs 3 [(23, .bool true), (22, undef), (21, undef)] (fun _ => by kernel_rfl) ?_
    refine WL.done rfl ?_
    refine QX.then_normal (hK13 _ _ ?_)
    refine WC.cond_true rfl ?_
    refine WC.seq (fun K15 hK16 => ?_)
    refine WC.region ?_
    refine WL.runs 1 [(6, .bool true)] (fun _ => by kernel_rfl) ?_
    refine WL.done rfl ?_
    refine QX.then_normal (hK16 _ _ ?_)
    refine WC.ret ?_
    refine QX.then_ret ?_
    refine (hret _ _ _ rfl ?_).1
    clear hN hret hret' hK16 hK13 hK11 hK6 hK4 hK2
    exact ⟨rfl, hC9.fr⟩
  · -- now < 0: false
    have t14 : (0 : Int) ≤ now := by have q_ := of_decide_eq_false t14b; omega
    refine WL.runs 3 [(23, .bool (decide (now > 1073741824))), (22, .bool (decide (now > 1073741824))), (21, .int .i64 now)] (fun _ => by kernel_rfl) ?_
    refine WL.done rfl ?_
    refine QX.then_normal (hK13 _ _ ?_)
    refine WC.test_at 23 (decide (now > 1073741824)) rfl (fun t17b => ?_) (fun t17b => ?_)
    · -- now > 1073741824: true
      have t17 : (1073741824 : Int) < now := by have q_ := of_decide_eq_true t17b; omega
      refine WC.cond_true rfl ?_
      refine WC.seq (fun K18 hK19 => ?_)
      refine WC.region ?_
      refine WL.runs 1 [(6, .bool true)] (fun _ => by kernel_rfl) ?_
      refine WL.done rfl ?_
      refine QX.then_normal (hK19 _ _ ?_)
      refine WC.ret ?_
      refine QX.then_ret ?_
      refine (hret _ _ _ rfl ?_).1
      clear hN hret hret' hK19 hK13 hK11 hK6 hK4 hK2
      exact ⟨rfl, hC9.fr⟩
    · -- now > 1073741824: false
      have t17 : now ≤ 1073741824 := by have q_ := of_decide_eq_false t17b; omega
      refine WC.cond_false rfl ?_
      refine WC.skip ?_
      refine QX.then_normal (hK11 _ _ ?_)
      refine WC.seq (fun K20 hK21 => ?_)
      refine WC.region ?_
      refine WL.newM hC9 (fun b => .slice (some ⟨b, 0, none⟩) 0 0) (.cells #[] 27) 24 (fun _ => by kernel_rfl) (fun g22 w23 hb26 hF24 hC25 => ?_)
      refine WL.runs 1 [(7, .slice (some ⟨g22, 0, none⟩) 0 0)] (fun _ => by kernel_rfl) ?_
      refine WL.done rfl ?_
      refine QX.then_normal (hK21 _ _ ?_)
      refine WC.seq (fun K27 hK28 => ?_)
      refine WC.seq (fun K29 hK30 => ?_)
      refine WC.region ?_
      refine WL.runs 1 [(8, .int .i64 1024)] (fun _ => by kernel_rfl) ?_
      refine WL.done rfl ?_
      refine QX.then_normal (hK30 _ _ ?_)
      refine WC.block ?_
      have hn0 : 0 ≤ now := by omega
      have hn1 : now ≤ 1073741824 := by omega
      have ho32 : World.ownsRow w23 0 27 4 (.slice (some ⟨g22, 0, none⟩) 0 0) 0 [] := own_of_blk (Nat.zero_le _) (hC25.get 0 rfl) (Nat.le_refl _) (Nat.zero_le _) (by simp) rfl
      have hC31 := hC25.toF 0 rfl
      refine WC.loop (fun m_ E_ w_ => ∃ (k : Nat) (A5 : Option Addr) (c5 : Nat), m_ = 8064 - k ∧ E_ = [(0, .int .u32 vip), (1, .int .u32 other), (2, .int .i64 now), (6, .bool false), (7, .slice A5 k c5), (8, .int .i64 (1024 + 8 * (k : Int))), (16, .bool true), (17, .bool false), (18, .int .i64 now), (19, .bool (decide (now < 0))), (20, .bool false), (21, .int .i64 now), (22, .bool (decide (now > 1073741824))), (23, .bool false), (24, .slice (some ⟨g22, 0, none⟩) 0 0)] ∧ Cx w [] w_ [] [blk (.slice A5 k c5)] ∧ World.ownsRow w_ 0 27 4 (.slice A5 k c5) k ((fullL now k).flatMap encL) ∧ (k ≤ 8064)) ⟨_, _, ⟨0, some ⟨g22, 0, none⟩, 0, rfl, rfl, hC31, (by simpa [fullL] using ho32), Nat.zero_le _⟩, sub_of ⟨rfl, rfl, rfl, rfl, rfl, rfl, rfl, rfl, rfl, rfl, rfl, rfl, rfl, rfl, rfl, trivial⟩⟩ (fun m36 E_ w37 K33 hK34 hI35 => ?_)
      obtain ⟨k, A5, c5, rfl, rfl, hC38, hrow, hk⟩ := hI35
      refine WC.seq (fun K39 hK40 => ?_)
      refine WC.seq (fun K41 hK42 => ?_)
      refine WC.region ?_
      refine WL.runs 2 [(26, .bool (decide ((1024 + 8 * (k : Int)) < 65536))), (25, .int .i64 (1024 + 8 * (k : Int)))] (fun _ => by kernel_rfl) ?_
      refine WL.done rfl ?_
      refine QX.then_normal (hK42 _ _ ?_)
      refine WC.test_at 26 (decide ((1024 + 8 * (k : Int)) < 65536)) rfl (fun t43b => ?_) (fun t43b => ?_)
      · -- (1024 + 8 * (k : Int)) < 65536: true
        have t43 : (1024 + 8 * (k : Int)) < 65536 := by have q_ := of_decide_eq_true t43b; omega
        refine WC.cond_true rfl ?_
        refine WC.skip ?_
        refine QX.then_normal (hK40 _ _ ?_)
        refine WC.seq (fun K44 hK45 => ?_)
        refine WC.block ?_
        refine WC.region ?_
        refine WL.runs 4 [(32, .int .i64 (IntKind.i64.wrap (now + 5))), (31, .int .i64 now), (30, .int .i64 (1024 + 8 * (k : Int))), (29, .slice A5 k c5)] (fun _ => by kernel_rfl) ?_
        refine WL.recast (show (.int .i64 (IntKind.i64.wrap (now + 5)) : Value) = .int .i64 (now + 5) from by rw [wrap_in_i64 (now + 5) (by first | omega | (simp [fullL_len]; done) | (simp [fullL_len]; omega)) (by first | omega | (simp [fullL_len]; done) | (simp [fullL_len]; omega))]) ?_
        refine WL.runs 1 [(33, .agg #[.int .u32 16843009, .int .i64 (1024 + 8 * (k : Int)), .int .u32 167837696, .int .i64 (now + 5)])] (fun _ => by kernel_rfl) ?_
        refine WL.newM hC38 (fun b => .slice (some ⟨b, 0, none⟩) 1 1) (.cells #[.int .u32 16843009, .int .i64 (1024 + 8 * (k : Int)), .int .u32 167837696, .int .i64 (now + 5)] 27) 34 (fun _ => by kernel_rfl) (fun g46 w47 hb50 hF48 hC49 => ?_)
        have ho51 := own_fr hrow hF48 (by simp)
        obtain ⟨v52, w53, hr54, ho55, hF56, hC57, hnil58, hsub59⟩ := app_run Tryd.prog hC49 0 (v := .slice A5 k c5) rfl 25 25 27 4 32 k 1 1 (some ⟨g46, 0, none⟩) rfl ho51 [.int .u32 16843009, .int .i64 (1024 + 8 * (k : Int)), .int .u32 167837696, .int .i64 (now + 5)] rfl (srcOk.blk 1 (hC49.get 0 rfl)) rfl (by simp only [maxLen]; omega) (by omega)
        have ho63 := own_snoc (enc := encL) (ys := (fullL now k)) (⟨16843009, (1024 + 8 * (k : Int)), 167837696, now + 5⟩ : Lease) ho55
        obtain ⟨A60, c61, rfl, hle62⟩ := own_form ho63
        refine WL.sem (Builtin.append_ #[25, 25] 25 #[.slice A5 k c5, .slice (some ⟨g46, 0, none⟩) 1 1]) 35 (.slice A60 (k + 1) c61) (by kernel_rfl) hr54 ?_
        refine WL.runs 1 [(7, .slice A60 (k + 1) c61)] (fun _ => by kernel_rfl) ?_
        refine WL.done rfl ?_
        refine QX.block_normal ?_
        refine QX.then_normal (hK45 _ _ ?_)
        refine WC.region ?_
        refine WL.runs 2 [(28, .int .i64 (IntKind.i64.wrap ((1024 + 8 * (k : Int)) + 8))), (27, .int .i64 (1024 + 8 * (k : Int)))] (fun _ => by kernel_rfl) ?_
        refine WL.recast (show (.int .i64 (IntKind.i64.wrap ((1024 + 8 * (k : Int)) + 8)) : Value) = .int .i64 (1024 + 8 * ((k + 1 : Nat) : Int)) from by rw [wrap_in_i64 _ (by omega) (by omega)]; first | (congr 1; done) | (congr 1; omega)) ?_
        refine WL.runs 1 [(8, .int .i64 (1024 + 8 * ((k + 1 : Nat) : Int)))] (fun _ => by kernel_rfl) ?_
        refine WL.done rfl ?_
        refine QX.then_normal ?_
        have hC64 := hC57.pick [] [0] rfl rfl
        refine fun a_ ha_ => hK34 _ _ _ ?_ ⟨k + 1, A60, c61, rfl, rfl, hC64, by rw [fullL_succ]; exact ho63, by omega⟩ a_ (ha_.weaken (sub_of ⟨rfl, rfl, rfl, rfl, rfl, rfl, rfl, rfl, rfl, rfl, rfl, rfl, rfl, rfl, rfl, trivial⟩))
        omega
      · -- (1024 + 8 * (k : Int)) < 65536: false
        have t43 : (65536 : Int) ≤ (1024 + 8 * (k : Int)) := by have q_ := of_decide_eq_false t43b; omega
        refine WC.cond_false rfl ?_
        have hk8 : k = 8064 := by omega
        refine WC.exit ?_
        refine QX.then_exit ?_
        refine QX.then_exit ?_
        refine QX.block_hit ?_
        refine QX.then_normal (hK28 _ _ ?_)
        refine WC.seq (fun K65 hK66 => ?_)
        refine WC.region ?_
        refine WL.runs 2 [(38, .int .i64 now), (37, .slice A5 k c5)] (fun _ => by kernel_rfl) ?_
        have hx67 : (fullL now k) = fullL now 8064 := by rw [hk8]
        have hc_ := own_count encL_len (by decide) hrow
        have hgr68 := Grant_is A5 c5 (fullL now k) 16843009 167837697 (now) w37 (own_rd hrow encL_len (by decide)) (by rw [hx67]; exact full_okL hn0 hn1 rfl) (by omega) (by decide) (by decide) (Rd.fr hg hC38.fr) (⟨0, 0, 0, 0⟩ : Lease) ([] : List Lease) 5 (by rw [hx67]; exact full_grE hn0 hn1) (by rw [hx67]; exact grL_err (by rw [full_grE hn0 hn1]; decide)) (by rw [hx67]; exact grX_err (by rw [full_grE hn0 hn1]; decide))
        rw [hc_] at hgr68
        refine WL.call rfl rfl rfl rfl rfl (by kernel_rfl) (hgr68) ?_
        rintro _ w71 ⟨v_, rfl, hF70, ho69⟩
        have hC72 := hC38.callN hF70 (own_ge ho69) (own_lt ho69)
        obtain ⟨A73, c74, rfl, hle75⟩ := own_form ho69
        have ho77 := own_base (b' := 0) ho69 (fun _ _ => Nat.zero_le _)
        refine ⟨_, rfl, ?_⟩
        have ho78 := own_fr hrow hF70 (by simp)
        refine WL.runs 4 [(42, .iface 32 (.int .i64 5)), (41, .agg #[.int .u32 0, .int .i64 0, .int .u32 0, .int .i64 0]), (40, .slice A73 (([] : List Lease).length) c74), (36, .tuple #[.slice A73 (([] : List Lease).length) c74, .agg #[.int .u32 0, .int .i64 0, .int .u32 0, .int .i64 0], .iface 32 (.int .i64 5)])] (fun _ => by kernel_rfl) ?_
        refine WL.newM hC72 (fun b => .pointer (some ⟨b, 0, none⟩)) (.cells #[.int .u32 0, .int .i64 0, .int .u32 0, .int .i64 0] 27) 10 (fun _ => by kernel_rfl) (fun g80 w81 hb84 hF82 hC83 => ?_)
        have ho85 := own_fr ho78 hF82 (by simp)
        have ho86 := own_fr ho77 hF82 (by simp)
        refine WL.runs 1 [(9, .slice A73 (([] : List Lease).length) c74)] (fun _ => by kernel_rfl) ?_
        refine WL.storeM hC83 0 27 g80 0 (.agg #[.int .u32 0, .int .i64 0, .int .u32 0, .int .i64 0]) (by kernel_rfl) rfl rfl (fun w87 hF89 hC90 => ?_)
        have ho91 := own_fr ho85 hF89 (hC83.apartM 0 0 rfl rfl)
        have ho92 := own_fr ho86 hF89 (hC83.apartM 1 0 rfl rfl)
        refine WL.runs 1 [(11, .iface 32 (.int .i64 5))] (fun _ => by kernel_rfl) ?_
        refine WL.done rfl ?_
        refine QX.then_normal (hK66 _ _ ?_)
        refine WC.seq (fun K93 hK94 => ?_)
        refine WC.seq (fun K95 hK96 => ?_)
        refine WC.region ?_
        refine WL.runs 8 [(50, .bool ((k : Int) != 8064)), (49, .bool ((k : Int) != 8064)), (48, .int .i64 (k : Int)), (47, .slice A5 k c5), (46, .bool false), (45, .bool false), (44, .iface 32 (.int .i64 5)), (43, .iface 32 (.int .i64 5))] (fun _ => by kernel_rfl) ?_
        refine WL.done rfl ?_
        refine QX.then_normal (hK96 _ _ ?_)
        refine WC.know 50 (.bool ((k : Int) != 8064)) (.bool false) rfl (congrArg Value.bool (by simp; omega)) ?_
        refine WC.cond_false rfl ?_
        refine WC.skip ?_
        refine QX.then_normal (hK94 _ _ ?_)
        refine WC.seq (fun K97 hK98 => ?_)
        refine WC.region ?_
        refine WL.runs 3 [(54, .int .i64 (IntKind.i64.wrap (now + 6))), (53, .int .i64 now), (52, .slice A5 k c5)] (fun _ => by kernel_rfl) ?_
        refine WL.recast (show (.int .i64 (IntKind.i64.wrap (now + 6)) : Value) = .int .i64 (now + 6) from by rw [wrap_in_i64 (now + 6) (by first | omega | (simp [fullL_len]; done) | (simp [fullL_len]; omega)) (by first | omega | (simp [fullL_len]; done) | (simp [fullL_len]; omega))]) ?_
        have hx99 : (fullL now k) = fullL now 8064 := by rw [hk8]
        have hc_ := own_count encL_len (by decide) ho91
        have hgr100 := Grant_is A5 c5 (fullL now k) 16843009 167837697 (now + 6) w87 (own_rd ho91 encL_len (by decide)) (by rw [hx99]; exact full_okL hn0 hn1 rfl) (by omega) (by decide) (by decide) (Rd.fr hg hC90.fr) (⟨16843009, 1024, 167837697, now + 6 + 64⟩ : Lease) ((fullL now 8064).set 0 (lateL now)) 0 (by rw [hx99]; exact late_grE hn0 hn1) (by rw [hx99]; exact late_grL hn0 hn1) (by rw [hx99]; exact late_grX hn0 hn1)
        rw [hc_] at hgr100
        refine WL.call rfl rfl rfl rfl rfl (by kernel_rfl) (hgr100) ?_
        rintro _ w103 ⟨v_, rfl, hF102, ho101⟩
        have hC104 := hC90.callN hF102 (own_ge ho101) (own_lt ho101)
        obtain ⟨A105, c106, rfl, hle107⟩ := own_form ho101
        have ho109 := own_base (b' := 0) ho101 (fun _ _ => Nat.zero_le _)
        refine ⟨_, rfl, ?_⟩
        have ho110 := own_fr ho91 hF102 (by simp)
        have ho111 := own_fr ho92 hF102 (by simp)
        refine WL.runs 4 [(58, .nilIface), (57, .agg #[.int .u32 16843009, .int .i64 1024, .int .u32 167837697, .int .i64 (now + 6 + 64)]), (56, .slice A105 (((fullL now 8064).set 0 (lateL now)).length) c106), (51, .tuple #[.slice A105 (((fullL now 8064).set 0 (lateL now)).length) c106, .agg #[.int .u32 16843009, .int .i64 1024, .int .u32 167837697, .int .i64 (now + 6 + 64)], .nilIface])] (fun _ => by kernel_rfl) ?_
        refine WL.newM hC104 (fun b => .pointer (some ⟨b, 0, none⟩)) (.cells #[.int .u32 0, .int .i64 0, .int .u32 0, .int .i64 0] 27) 13 (fun _ => by kernel_rfl) (fun g113 w114 hb117 hF115 hC116 => ?_)
        have ho118 := own_fr ho110 hF115 (by simp)
        have ho119 := own_fr ho111 hF115 (by simp)
        have ho120 := own_fr ho109 hF115 (by simp)
        refine WL.runs 1 [(12, .slice A105 (((fullL now 8064).set 0 (lateL now)).length) c106)] (fun _ => by kernel_rfl) ?_
        refine WL.storeM hC116 1 27 g113 0 (.agg #[.int .u32 16843009, .int .i64 1024, .int .u32 167837697, .int .i64 (now + 6 + 64)]) (by kernel_rfl) rfl rfl (fun w121 hF123 hC124 => ?_)
        have ho125 := own_fr ho118 hF123 (hC116.apartM 0 1 rfl rfl)
        have ho126 := own_fr ho119 hF123 (hC116.apartM 1 1 rfl rfl)
        have ho127 := own_fr ho120 hF123 (hC116.apartM 2 1 rfl rfl)
        refine WL.runs 1 [(11, .nilIface)] (fun _ => by kernel_rfl) ?_
        refine WL.done rfl ?_
        refine QX.then_normal (hK98 _ _ ?_)
        refine WC.seq (fun K128 hK129 => ?_)
        refine WC.seq (fun K130 hK131 => ?_)
        refine WC.drawC hC124 [] (by kernel_rfl) (fun w132 hF133 hC134 hS135 => ?_)
        have ho136 := own_fr ho125 hF133 (by simp)
        have ho137 := own_fr ho126 hF133 (by simp)
        have ho138 := own_fr ho127 hF133 (by simp)
        refine WD.pure (NoPanic.then (NoPanic.then hN)) 0 59 (.nilIface) (by kernel_rfl) (fun _ => by kernel_rfl) hS135 ?_
        refine WD.pure (NoPanic.then (NoPanic.then hN)) 1 60 (.bool false) (by kernel_rfl) (fun _ => by kernel_rfl) hS135 ?_
        refine WD.pure (NoPanic.then (NoPanic.then hN)) 2 61 (.bool false) (by kernel_rfl) (fun _ => by kernel_rfl) hS135 ?_
        refine WD.pure (NoPanic.then (NoPanic.then hN)) 3 62 (.pointer (some ⟨g113, 1, none⟩)) (by kernel_rfl) (fun _ => by kernel_rfl) hS135 ?_
        refine WD.load (NoPanic.then (NoPanic.then hN)) 4 3 (.pointer (some ⟨g113, 1, none⟩)) (.int .i64 1024) 63 (by kernel_rfl) (by kernel_rfl) (fun _ hS_ => run_ld (Fr.has hS_ (hC134.get 1 rfl) (by simp)) rfl) hS135 ?_
        refine WD.pure (NoPanic.then (NoPanic.then hN)) 5 64 (.bool false) (by kernel_rfl) (fun _ => by kernel_rfl) hS135 ?_
        refine WD.pure (NoPanic.then (NoPanic.then hN)) 6 65 (.bool false) (by kernel_rfl) (fun _ => by kernel_rfl) hS135 ?_
        refine WD.pure (NoPanic.then (NoPanic.then hN)) 7 66 (.bool false) (by kernel_rfl) (fun _ => by kernel_rfl) hS135 ?_
        refine WD.pure (NoPanic.then (NoPanic.then hN)) 8 67 (.slice A105 (((fullL now 8064).set 0 (lateL now)).length) c106) (by kernel_rfl) (fun _ => by kernel_rfl) hS135 ?_
        refine WD.pure (NoPanic.then (NoPanic.then hN)) 9 68 (.int .i64 (((fullL now 8064).set 0 (lateL now)).length : Int)) (by kernel_rfl) (fun _ => by kernel_rfl) hS135 ?_
        refine WD.pure (NoPanic.then (NoPanic.then hN)) 10 69 (.bool ((((fullL now 8064).set 0 (lateL now)).length : Int) != 8064)) (by kernel_rfl) (fun _ => by kernel_rfl) hS135 ?_
        refine WD.pure (NoPanic.then (NoPanic.then hN)) 11 70 (.bool ((((fullL now 8064).set 0 (lateL now)).length : Int) != 8064)) (by kernel_rfl) (fun _ => by kernel_rfl) hS135 ?_
        refine WD.pure (NoPanic.then (NoPanic.then hN)) 12 71 (.bool ((((fullL now 8064).set 0 (lateL now)).length : Int) != 8064)) (by kernel_rfl) (fun _ => by kernel_rfl) hS135 ?_
        refine WD.know 71 (.bool ((((fullL now 8064).set 0 (lateL now)).length : Int) != 8064)) (.bool false) rfl (congrArg Value.bool (by simp [fullL_len])) ?_
        refine WD.pure (NoPanic.then (NoPanic.then hN)) 13 72 (.slice A105 (((fullL now 8064).set 0 (lateL now)).length) c106) (by kernel_rfl) (fun _ => by kernel_rfl) hS135 ?_
        have hn143 := own_count encL_len (by decide) ho138
        obtain ⟨e139, he140⟩ := get_some (xs := ((fullL now 8064).set 0 (lateL now))) (i := 0) (by first | omega | (simp [fullL_len]; done) | (simp [fullL_len]; omega))
        obtain ⟨b141, hA142⟩ := own_addr (by decide) encL_len ho138 he140
        refine WD.index (NoPanic.then (NoPanic.then hN)) 14 A105 (((fullL now 8064).set 0 (lateL now)).length) c106 73 .i64 0 b141 0 0 4 (by kernel_rfl) (by kernel_rfl) hA142 (by first | omega | (simp [fullL_len]; done) | (simp [fullL_len]; omega)) (by first | omega | (simp [fullL_len]; done) | (simp [fullL_len]; omega)) 0 (by first | (simp; done) | omega) hS135 ?_
        refine WD.load (NoPanic.then (NoPanic.then hN)) 15 27 (.pointer (some ⟨b141, 0, none⟩)) (.agg #[.int .u32 e139.vip, .int .i64 e139.first, .int .u32 e139.dip, .int .i64 e139.exp]) 74 (by kernel_rfl) (by kernel_rfl) (fun _ hS_ => run_rdN (l := [.int .u32 e139.vip, .int .i64 e139.first, .int .u32 e139.dip, .int .i64 e139.exp]) rfl rfl (fun j u hu => by have hq_ := Rd.cell (own_rd (own_fr ho138 hS_ (by simp)) encL_len (by decide)) hA142 he140 j u hu; simpa [Nat.add_assoc] using hq_)) hS135 ?_
        refine WD.load (NoPanic.then (NoPanic.then hN)) 16 27 (.pointer (some ⟨g113, 0, none⟩)) (.agg #[.int .u32 16843009, .int .i64 1024, .int .u32 167837697, .int .i64 (now + 6 + 64)]) 75 (by kernel_rfl) (by kernel_rfl) (fun _ hS_ => run_ld (Fr.has hS_ (hC134.get 1 rfl) (by simp)) rfl) hS135 ?_
        have hr144 : ∀ w_, Sem.run Tryd.prog (do eqGuard .neq 27 (Operand.tmp 74) (Operand.tmp 75) (.agg #[.int .u32 e139.vip, .int .i64 e139.first, .int .u32 e139.dip, .int .i64 e139.exp]) (.agg #[.int .u32 16843009, .int .i64 1024, .int .u32 167837697, .int .i64 (now + 6 + 64)]); binOp .neq 27 (.agg #[.int .u32 e139.vip, .int .i64 e139.first, .int .u32 e139.dip, .int .i64 e139.exp]) (.agg #[.int .u32 16843009, .int .i64 1024, .int .u32 167837697, .int .i64 (now + 6 + 64)])) w_ = .ok (.bool (!(e139.vip == (16843009 : Int) && (e139.first == (1024 : Int) && (e139.dip == (167837697 : Int) && (e139.exp == (now + 6 + 64) && true)))))) w_ := fun w_ => (run_neq_S (by kernel_rfl))
        refine WD.semP (NoPanic.then (NoPanic.then hN)) 17 (do eqGuard .neq 27 (Operand.tmp 74) (Operand.tmp 75) (.agg #[.int .u32 e139.vip, .int .i64 e139.first, .int .u32 e139.dip, .int .i64 e139.exp]) (.agg #[.int .u32 16843009, .int .i64 1024, .int .u32 167837697, .int .i64 (now + 6 + 64)]); binOp .neq 27 (.agg #[.int .u32 e139.vip, .int .i64 e139.first, .int .u32 e139.dip, .int .i64 e139.exp]) (.agg #[.int .u32 16843009, .int .i64 1024, .int .u32 167837697, .int .i64 (now + 6 + 64)])) 76 (.bool (!(e139.vip == (16843009 : Int) && (e139.first == (1024 : Int) && (e139.dip == (167837697 : Int) && (e139.exp == (now + 6 + 64) && true)))))) (by kernel_rfl) (by kernel_rfl) (fun _ _ => hr144 _) hS135 ?_
        refine WD.pure (NoPanic.then (NoPanic.then hN)) 18 77 (.bool (!(e139.vip == (16843009 : Int) && (e139.first == (1024 : Int) && (e139.dip == (167837697 : Int) && (e139.exp == (now + 6 + 64) && true)))))) (by kernel_rfl) (fun _ => by kernel_rfl) hS135 ?_
        refine WD.done (by kernel_rfl) ?_
        refine QX.then_normal (hK131 _ _ ?_)
        refine WC.know 77 (.bool (!(e139.vip == (16843009 : Int) && (e139.first == (1024 : Int) && (e139.dip == (167837697 : Int) && (e139.exp == (now + 6 + 64) && true)))))) (.bool false) rfl (congrArg Value.bool (by rw [set0_get he140]; simp [lateL])) ?_
        refine WC.cond_false rfl ?_
        refine WC.skip ?_
        refine QX.then_normal (hK129 _ _ ?_)
        refine WC.seq (fun K145 hK146 => ?_)
        refine WC.region ?_
        refine WL.runs 2 [(79, .int .u64 (IntKind.u64.wrap (vip))), (78, .int .u32 vip)] (fun _ => by kernel_rfl) ?_
        refine WL.recast (show (.int .u64 (IntKind.u64.wrap (vip)) : Value) = .int .u64 vip from by rw [wrap_in_u64 (vip) (by first | omega | (simp [fullL_len]; done) | (simp [fullL_len]; omega)) (by first | omega | (simp [fullL_len]; done) | (simp [fullL_len]; omega))]) ?_
        refine WL.runs 1 [(80, .int .u64 (Int.tmod vip 8000))] (fun _ => by kernel_rfl) ?_
        refine WL.recast (show (.int .u64 (Int.tmod vip 8000) : Value) = .int .u64 (vip % 8000) from by rw [Int.tmod_eq_emod_of_nonneg (by omega)]) ?_
        refine WL.runs 1 [(81, .int .i64 (IntKind.i64.wrap (vip % 8000)))] (fun _ => by kernel_rfl) ?_
        refine WL.recast (show (.int .i64 (IntKind.i64.wrap (vip % 8000)) : Value) = .int .i64 (vip % 8000) from by rw [wrap_in_i64 (vip % 8000) (by first | omega | (simp [fullL_len]; done) | (simp [fullL_len]; omega)) (by first | omega | (simp [fullL_len]; done) | (simp [fullL_len]; omega))]) ?_
        refine WL.runs 1 [(82, .int .i64 (IntKind.i64.wrap (17 + (vip % 8000))))] (fun _ => by kernel_rfl) ?_
        refine WL.recast (show (.int .i64 (IntKind.i64.wrap (17 + (vip % 8000))) : Value) = .int .i64 (kk : Int) from by rw [wrap_in_i64 _ (by omega) (by omega), hkk]) ?_
        refine WL.runs 1 [(14, .int .i64 (kk : Int))] (fun _ => by kernel_rfl) ?_
        refine WL.done rfl ?_
        refine QX.then_normal (hK146 _ _ ?_)
        refine WC.seq (fun K147 hK148 => ?_)
        refine WC.drawC hC134 [] (by kernel_rfl) (fun w149 hF150 hC151 hS152 => ?_)
        have ho153 := own_fr ho136 hF150 (by simp)
        have ho154 := own_fr ho137 hF150 (by simp)
        have ho155 := own_fr ho138 hF150 (by simp)
        refine WD.pure (NoPanic.then hN) 1 84 (.slice A5 k c5) (by kernel_rfl) (fun _ => by kernel_rfl) hS152 ?_
        refine WD.pure (NoPanic.then hN) 2 85 (.int .i64 (kk : Int)) (by kernel_rfl) (fun _ => by kernel_rfl) hS152 ?_
        have hle_ := own_le ho153
        have hb156 : kk ≤ c5 := by first | omega | (simp [fullL_len]; done) | (simp [fullL_len]; omega)
        refine WD.slc (NoPanic.then hN) 3 25 27 4 A5 A5 k c5 0 kk kk c5 none (some (.int .i64 (kk : Int))) 86 (by kernel_rfl) (by kernel_rfl) (by kernel_rfl) bnd.no (bnd.yes (by first | omega | (simp [fullL_len]; done) | (simp [fullL_len]; omega))) (by first | omega | (simp [fullL_len]; done) | (simp [fullL_len]; omega)) hb156 (slcAt_pre _ _ _) (by first | rfl | omega) (by first | rfl | omega) hS152 ?_
        have ho157 := own_takeE (m := kk) encL_len ho153 (by first | omega | (simp [fullL_len]; done) | (simp [fullL_len]; omega))
        refine WD.pure (NoPanic.then hN) 5 88 (.slice A5 k c5) (by kernel_rfl) (fun _ => by kernel_rfl) hS152 ?_
        refine WD.pure (NoPanic.then hN) 6 89 (.int .i64 (kk : Int)) (by kernel_rfl) (fun _ => by kernel_rfl) hS152 ?_
        refine WD.pure (NoPanic.then hN) 7 90 (.int .i64 (IntKind.i64.wrap ((kk : Int) + 1))) (by kernel_rfl) (fun _ => by kernel_rfl) hS152 ?_
        refine WD.recast (show (.int .i64 (IntKind.i64.wrap ((kk : Int) + 1)) : Value) = .int .i64 ((kk : Int) + 1) from by rw [wrap_in_i64 ((kk : Int) + 1) (by first | omega | (simp [fullL_len]; done) | (simp [fullL_len]; omega)) (by first | omega | (simp [fullL_len]; done) | (simp [fullL_len]; omega))]) ?_
        obtain ⟨A159, hA160⟩ : ∃ A_, slcAt A5 (kk + 1) c5 4 = A_ := ⟨_, rfl⟩
        have hle_ := own_le ho153
        have hb161 : k ≤ c5 := by first | omega | (simp [fullL_len]; done) | (simp [fullL_len]; omega)
        refine WD.slc (NoPanic.then hN) 8 25 27 4 A5 A159 k c5 (kk + 1) k (k - (kk + 1)) (c5 - (kk + 1)) (some (.int .i64 ((kk : Int) + 1))) none 91 (by kernel_rfl) (by kernel_rfl) (by kernel_rfl) (bnd.yes (by first | omega | (simp [fullL_len]; done) | (simp [fullL_len]; omega))) bnd.no (by first | omega | (simp [fullL_len]; done) | (simp [fullL_len]; omega)) hb161 hA160 (by first | rfl | omega) (by first | rfl | omega) hS152 ?_
        refine WD.new 0 (fun b => .slice (some ⟨b, 0, none⟩) 0 0) (.cells #[] 27) (by kernel_rfl) rfl rfl rfl rfl rfl (fun _ => by kernel_rfl) (fun g162 w163 hb166 hl167 hF164 ho168 => ?_)
        have hC165 := hC151.callB hF164 hb166 ho168
        have hS169 := hS152.trans hF164 (by simp)
        refine ⟨hS169, ?_⟩
        have ho170 := own_fr ho153 hF164 (by simp)
        have ho171 := own_fr ho154 hF164 (by simp)
        have ho172 := own_fr ho155 hF164 (by simp)
        have ho173 := own_fr ho157 hF164 (by simp)
        have ho175 : World.ownsRow w163 0 27 4 (.slice (some ⟨g162, 0, none⟩) 0 0) 0 [] := own_of_blk (Nat.zero_le _) (hC165.get 2 rfl) (Nat.le_refl _) (Nat.zero_le _) (by simp) rfl
        have hC174 := hC165.toF 2 rfl
        obtain ⟨v177, w178, hr179, ho180, hF181, hC182, hnil183, hsub184⟩ := app_run Tryd.prog hC174 3 (v := .slice (some ⟨g162, 0, none⟩) 0 0) rfl 25 25 27 4 32 0 kk c5 A5 rfl ho175 (((fullL now k).take kk).flatMap encL) (flat_len_n encL_len (own_count encL_len (by decide) ho173)) (Rd.src_n (own_rd ho173 encL_len (by decide)) encL_len (by decide) (own_count encL_len (by decide) ho173)) (flat_one encL_one _) (by simp only [maxLen]; omega) (by omega)
        have ho188 := own_app (enc := encL) (ys := []) (zs := (fullL now k).take kk) ho180
        obtain ⟨A185, c186, rfl, hle187⟩ := own_form ho188
        have hge189 : ∀ x_ ∈ blk (.slice (some ⟨g162, 0, none⟩) 0 0), w149.heap.size ≤ x_ := by first | (simp [blk, Value.ownBlock, *]; done) | (intro x_ hx_; simp [blk, Value.ownBlock] at hx_; omega)
        have hge190 : ∀ x_ ∈ blk (.slice A185 (0 + kk) c186), w149.heap.size ≤ x_ := fun x_ hx_ => (hsub184 x_ hx_).elim (hge189 x_) (fun h_ => Nat.le_trans hS169.size h_)
        have hS191 := hS169.trans hF181 (fun x_ hx_ => .inr (hge189 x_ hx_))
        refine WD.sem 4 (Builtin.append_ #[25, 25] 25 #[.slice (some ⟨g162, 0, none⟩) 0 0, .slice A5 kk c5]) 87 (.slice A185 (0 + kk) c186) (by kernel_rfl) (by kernel_rfl) hr179 hS191 ?_
        have ho192 := own_fr ho170 hF181 (hC174.disj 0 3 rfl rfl (by decide))
        have ho193 := own_fr ho171 hF181 (hC174.disj 1 3 rfl rfl (by decide))
        have ho194 := own_fr ho172 hF181 (hC174.disj 2 3 rfl rfl (by decide))
        have ho195 := own_fr ho173 hF181 (blk_al (n1 := k) (c1 := c5) (hC174.disj 0 3 rfl rfl (by decide)))
        obtain ⟨v196, w197, hr198, ho199, hF200, hC201, hnil202, hsub203⟩ := app_run Tryd.prog hC182 3 (v := .slice A185 (0 + kk) c186) rfl 25 25 27 4 32 (0 + kk) (k - (kk + 1)) (c5 - (kk + 1)) A159 rfl ho188 ((((fullL now k).take k).drop (kk + 1)).flatMap encL) (flat_len_n encL_len (by have h_ := own_count encL_len (by decide) ho192; simp only [List.length_drop, List.length_take]; omega)) (Rd.src_n (Rd.slc (own_rd ho192 encL_len (by decide)) (kk + 1) k c5 hb161 hA160) encL_len (by decide) (by have h_ := own_count encL_len (by decide) ho192; simp only [List.length_drop, List.length_take]; omega)) (flat_one encL_one _) (by simp only [maxLen]; omega) (by omega)
        have ho207 := own_app (enc := encL) (ys := [] ++ ((fullL now k).take kk)) (zs := ((fullL now k).take k).drop (kk + 1)) ho199
        obtain ⟨A204, c205, rfl, hle206⟩ := own_form ho207
        have hge208 : ∀ x_ ∈ blk (.slice A204 (0 + kk + (k - (kk + 1))) c205), w149.heap.size ≤ x_ := fun x_ hx_ => (hsub203 x_ hx_).elim (hge190 x_) (fun h_ => Nat.le_trans hS191.size h_)
        have hS209 := hS191.trans hF200 (fun x_ hx_ => .inr (hge190 x_ hx_))
        refine WD.sem 9 (Builtin.append_ #[25, 25] 25 #[.slice A185 (0 + kk) c186, .slice A159 (k - (kk + 1)) (c5 - (kk + 1))]) 92 (.slice A204 (0 + kk + (k - (kk + 1))) c205) (by kernel_rfl) (by kernel_rfl) hr198 hS209 ?_
        have ho210 := own_fr ho192 hF200 (hC182.disj 0 3 rfl rfl (by decide))
        have ho211 := own_fr ho193 hF200 (hC182.disj 1 3 rfl rfl (by decide))
        have ho212 := own_fr ho194 hF200 (hC182.disj 2 3 rfl rfl (by decide))
        have ho213 := own_fr ho195 hF200 (blk_al (n1 := k) (c1 := c5) (hC182.disj 0 3 rfl rfl (by decide)))
        refine WD.pure (NoPanic.then hN) 10 15 (.slice A204 (0 + kk + (k - (kk + 1))) c205) (by kernel_rfl) (fun _ => by kernel_rfl) hS209 ?_
        refine WD.done (by kernel_rfl) ?_
        refine QX.then_normal (hK148 _ _ ?_)
        refine WC.seq (fun K214 hK215 => ?_)
        refine WC.region ?_
        refine WL.runs 2 [(95, .int .i64 now), (94, .slice A204 (0 + kk + (k - (kk + 1))) c205)] (fun _ => by kernel_rfl) ?_
        have hx216 : [] ++ ((fullL now k).take kk) ++ (((fullL now k).take k).drop (kk + 1)) = holeL now kk := hole_eq hk8
        have hc_ := own_count encL_len (by decide) ho207
        have hgr217 := Grant_is A204 c205 ([] ++ ((fullL now k).take kk) ++ (((fullL now k).take k).drop (kk + 1))) 16843009 167837697 (now) w197 (own_rd ho207 encL_len (by decide)) (by rw [hx216]; exact hole_okL hn0 hn1) (by omega) (by decide) (by decide) (Rd.fr hg hC201.fr) (⟨16843009, 1024 + 8 * (kk : Int), 167837697, now + 64⟩ : Lease) (insL (holeL now kk) (holeG now kk)) 0 (by rw [hx216]; exact hole_grE hn0 hn1 hkk2) (by rw [hx216]; exact hole_grL hn0 hn1 hkk2) (by rw [hx216]; exact hole_grX hn0 hn1 hkk2)
        rw [hc_] at hgr217
        refine WL.call rfl rfl rfl rfl rfl (by kernel_rfl) (hgr217) ?_
        rintro _ w220 ⟨v_, rfl, hF219, ho218⟩
        have hC221 := hC201.callN hF219 (own_ge ho218) (own_lt ho218)
        obtain ⟨A222, c223, rfl, hle224⟩ := own_form ho218
        have ho226 := own_base (b' := 0) ho218 (fun _ _ => Nat.zero_le _)
        refine ⟨_, rfl, ?_⟩
        have ho227 := own_fr ho210 hF219 (by simp)
        have ho228 := own_fr ho211 hF219 (by simp)
        have ho229 := own_fr ho212 hF219 (by simp)
        have ho230 := own_fr ho213 hF219 (by simp)
        have ho231 := own_fr ho207 hF219 (by simp)
        refine WL.runs 5 [(12, .slice A222 ((insL (holeL now kk) (holeG now kk)).length) c223), (99, .nilIface), (98, .agg #[.int .u32 16843009, .int .i64 (1024 + 8 * (kk : Int)), .int .u32 167837697, .int .i64 (now + 64)]), (97, .slice A222 ((insL (holeL now kk) (holeG now kk)).length) c223), (93, .tuple #[.slice A222 ((insL (holeL now kk) (holeG now kk)).length) c223, .agg #[.int .u32 16843009, .int .i64 (1024 + 8 * (kk : Int)), .int .u32 167837697, .int .i64 (now + 64)], .nilIface])] (fun _ => by kernel_rfl) ?_
        refine WL.storeM hC221 1 27 g113 0 (.agg #[.int .u32 16843009, .int .i64 (1024 + 8 * (kk : Int)), .int .u32 167837697, .int .i64 (now + 64)]) (by kernel_rfl) rfl rfl (fun w233 hF235 hC236 => ?_)
        have ho237 := own_fr ho227 hF235 (hC221.apartM 0 1 rfl rfl)
        have ho238 := own_fr ho228 hF235 (hC221.apartM 1 1 rfl rfl)
        have ho239 := own_fr ho229 hF235 (hC221.apartM 2 1 rfl rfl)
        have ho240 := own_fr ho230 hF235 (blk_al (n1 := k) (c1 := c5) (hC221.apartM 0 1 rfl rfl))
        have ho241 := own_fr ho231 hF235 (hC221.apartM 3 1 rfl rfl)
        have ho242 := own_fr ho226 hF235 (hC221.apartM 4 1 rfl rfl)
        refine WL.runs 1 [(11, .nilIface)] (fun _ => by kernel_rfl) ?_
        refine WL.done rfl ?_
        refine QX.then_normal (hK215 _ _ ?_)
        refine WC.seq (fun K243 hK244 => ?_)
        refine WC.drawC hC236 [] (by kernel_rfl) (fun w245 hF246 hC247 hS248 => ?_)
        have ho249 := own_fr ho237 hF246 (by simp)
        have ho250 := own_fr ho238 hF246 (by simp)
        have ho251 := own_fr ho239 hF246 (by simp)
        have ho252 := own_fr ho240 hF246 (by simp)
        have ho253 := own_fr ho241 hF246 (by simp)
        have ho254 := own_fr ho242 hF246 (by simp)
        refine WD.pure (NoPanic.then hN) 0 100 (.nilIface) (by kernel_rfl) (fun _ => by kernel_rfl) hS248 ?_
        refine WD.pure (NoPanic.then hN) 1 101 (.bool true) (by kernel_rfl) (fun _ => by kernel_rfl) hS248 ?_
        refine WD.pure (NoPanic.then hN) 2 102 (.bool true) (by kernel_rfl) (fun _ => by kernel_rfl) hS248 ?_
        refine WD.pure (NoPanic.then hN) 3 103 (.pointer (some ⟨g113, 1, none⟩)) (by kernel_rfl) (fun _ => by kernel_rfl) hS248 ?_
        refine WD.pure (NoPanic.then hN) 5 105 (.slice A5 k c5) (by kernel_rfl) (fun _ => by kernel_rfl) hS248 ?_
        refine WD.pure (NoPanic.then hN) 6 106 (.int .i64 (kk : Int)) (by kernel_rfl) (fun _ => by kernel_rfl) hS248 ?_
        have hn259 := own_count encL_len (by decide) ho249
        obtain ⟨e255, he256⟩ := get_some (xs := (fullL now k)) (i := kk) (by first | omega | (simp [fullL_len]; done) | (simp [fullL_len]; omega))
        obtain ⟨b257, hA258⟩ := own_addr (by decide) encL_len ho249 he256
        refine WD.index (NoPanic.then hN) 7 A5 k c5 107 .i64 (kk : Int) b257 0 kk 4 (by kernel_rfl) (by kernel_rfl) hA258 (by first | omega | (simp [fullL_len]; done) | (simp [fullL_len]; omega)) (by first | omega | (simp [fullL_len]; done) | (simp [fullL_len]; omega)) (kk * 4) (by first | (simp; done) | omega) hS248 ?_
        refine WD.pure (NoPanic.then hN) 8 108 (.pointer (some ⟨b257, kk * 4 + 1, none⟩)) (by kernel_rfl) (fun _ => by kernel_rfl) hS248 ?_
        refine WD.load (NoPanic.then hN) 4 3 (.pointer (some ⟨g113, 1, none⟩)) (.int .i64 (1024 + 8 * (kk : Int))) 104 (by kernel_rfl) (by kernel_rfl) (fun _ hS_ => run_ld (Fr.has hS_ (hC247.get 1 rfl) (by simp)) rfl) hS248 ?_
        refine WD.load (NoPanic.then hN) 9 3 (.pointer (some ⟨b257, kk * 4 + 1, none⟩)) (.int .i64 e255.first) 109 (by kernel_rfl) (by kernel_rfl) (fun _ hS_ => run_load1 rfl (by simpa [Nat.add_assoc] using Rd.cell (own_rd (own_fr ho249 hS_ (by simp)) encL_len (by decide)) hA258 he256 1 _ rfl)) hS248 ?_
        refine WD.pure (NoPanic.then hN) 10 110 (.bool ((1024 + 8 * (kk : Int)) == e255.first)) (by kernel_rfl) (fun _ => by kernel_rfl) hS248 ?_
        refine WD.pure (NoPanic.then hN) 11 111 (.bool ((1024 + 8 * (kk : Int)) == e255.first)) (by kernel_rfl) (fun _ => by kernel_rfl) hS248 ?_
        refine WD.pure (NoPanic.then hN) 12 112 (.bool ((1024 + 8 * (kk : Int)) == e255.first)) (by kernel_rfl) (fun _ => by kernel_rfl) hS248 ?_
        refine WD.know 112 (.bool ((1024 + 8 * (kk : Int)) == e255.first)) (.bool true) rfl (congrArg Value.bool (by rw [(fullL_get he256).2]; simp [fullAt])) ?_
        refine WD.pure (NoPanic.then hN) 13 113 (.slice A222 ((insL (holeL now kk) (holeG now kk)).length) c223) (by kernel_rfl) (fun _ => by kernel_rfl) hS248 ?_
        refine WD.pure (NoPanic.then hN) 14 114 (.int .i64 ((insL (holeL now kk) (holeG now kk)).length : Int)) (by kernel_rfl) (fun _ => by kernel_rfl) hS248 ?_
        refine WD.pure (NoPanic.then hN) 15 115 (.bool (((insL (holeL now kk) (holeG now kk)).length : Int) == 8064)) (by kernel_rfl) (fun _ => by kernel_rfl) hS248 ?_
        refine WD.pure (NoPanic.then hN) 16 116 (.bool (((insL (holeL now kk) (holeG now kk)).length : Int) == 8064)) (by kernel_rfl) (fun _ => by kernel_rfl) hS248 ?_
        refine WD.pure (NoPanic.then hN) 17 117 (.bool (((insL (holeL now kk) (holeG now kk)).length : Int) == 8064)) (by kernel_rfl) (fun _ => by kernel_rfl) hS248 ?_
        refine WD.know 117 (.bool (((insL (holeL now kk) (holeG now kk)).length : Int) == 8064)) (.bool true) rfl (congrArg Value.bool (by rw [hole_ins_len now hkk2]; decide)) ?_
        refine WD.pure (NoPanic.then hN) 18 118 (.slice A222 ((insL (holeL now kk) (holeG now kk)).length) c223) (by kernel_rfl) (fun _ => by kernel_rfl) hS248 ?_
        refine WD.call 19 (by kernel_rfl) rfl rfl rfl rfl rfl (by kernel_rfl) (Check_ct A222 c223 (insL (holeL now kk) (holeG now kk)) w245 (own_rd ho254 encL_len (by decide)) (insH_okL hn0 hn1 hkk2) (by rw [hole_ins_len now hkk2]; omega)) ?_
        rintro _ w261 ⟨rfl, hF260⟩
        have hS263 := hS248.trans hF260 (by simp)
        refine ⟨_, rfl, hS263, ?_⟩
        have hC262 := hC247.call hF260
        have ho264 := own_fr ho249 hF260 (by simp)
        have ho265 := own_fr ho250 hF260 (by simp)
        have ho266 := own_fr ho251 hF260 (by simp)
        have ho267 := own_fr ho252 hF260 (by simp)
        have ho268 := own_fr ho253 hF260 (by simp)
        have ho269 := own_fr ho254 hF260 (by simp)
        have hr270 : ∀ w_, Sem.run Tryd.prog (do eqGuard .eql 29 (Operand.tmp 119) (Operand.const (.nilIface)) (errV 32 (if checkL (insL (holeL now kk) (holeG now kk)) then 0 else 9)) (.nilIface); binOp .eql 29 (errV 32 (if checkL (insL (holeL now kk) (holeG now kk)) then 0 else 9)) (.nilIface)) w_ = .ok (.bool (checkL (insL (holeL now kk) (holeG now kk)))) w_ := fun w_ => (err_eql _ (if checkL (insL (holeL now kk) (holeG now kk)) then 0 else 9) (checkL (insL (holeL now kk) (holeG now kk))) (by cases checkL (insL (holeL now kk) (holeG now kk)) <;> rfl) _)
        refine WD.semP (NoPanic.then hN) 20 (do eqGuard .eql 29 (Operand.tmp 119) (Operand.const (.nilIface)) (errV 32 (if checkL (insL (holeL now kk) (holeG now kk)) then 0 else 9)) (.nilIface); binOp .eql 29 (errV 32 (if checkL (insL (holeL now kk) (holeG now kk)) then 0 else 9)) (.nilIface)) 120 (.bool (checkL (insL (holeL now kk) (holeG now kk)))) (by kernel_rfl) (by kernel_rfl) (fun _ _ => hr270 _) hS263 ?_
        refine WD.pure (NoPanic.then hN) 21 121 (.bool (checkL (insL (holeL now kk) (holeG now kk)))) (by kernel_rfl) (fun _ => by kernel_rfl) hS263 ?_
        refine WD.pure (NoPanic.then hN) 22 6 (.bool (checkL (insL (holeL now kk) (holeG now kk)))) (by kernel_rfl) (fun _ => by kernel_rfl) hS263 ?_
        refine WD.done (by kernel_rfl) ?_
        refine QX.then_normal (hK244 _ _ ?_)
        refine WC.ret ?_
        refine (hret _ _ _ rfl ?_).1
        clear hN hret hret' hK244 hK215 hK148 hK146 hK131 hK129 hK98 hK96 hK94 hK66 hK42 hK40 hK30 hK28 hK21 hK13 hK11 hK6 hK4 hK2
        exact ⟨congrArg (fun b_ => Ending.returned (Value.bool b_)) (show (checkL (insL (holeL now kk) (holeG now kk))) = true from by exact hole_ins_check hn0 hn1 hkk2), hC262.fr⟩

end Go.Proofs.YtoambminolcgfaaDoor
