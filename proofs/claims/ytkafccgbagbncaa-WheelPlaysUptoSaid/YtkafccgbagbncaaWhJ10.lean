/- Contracts of functions of the program, each proved by a walk through its code; conditions stand in the statements. -/
import Derived.Test.YtkafccgbagbncaaWhI10
namespace Go.Proofs.Ytkafccgbagbncaa
set_option linter.unusedSimpArgs false
set_option linter.unusedVariables false
set_option linter.unusedSectionVars false
open Go Go.RowKit Go.Tw
set_option linter.unusedVariables false
set_option maxRecDepth 20000
/-! ### the document's wheel: a list -/
def rfAt (w : World) (F : List Nat) (p : Nat) (m : List (Int × Int)) : Prop :=
  ∃ (A : Option Addr) (c : Nat), w.heap[p]? = some (.cells #[.slice A m.length c] 49 (0, 0)) ∧ w.ownsRow 0 75 2 (.slice A m.length c) m.length (m.flatMap tmC) ∧ F = p :: blk (.slice A m.length c) ∧ p ∉ blk (.slice A m.length c)
theorem rfAt_lt {w : World} {F : List Nat} {p : Nat} {m : List (Int × Int)} (h : rfAt w F p m) : ∀ x ∈ F, x < w.heap.size := by
  obtain ⟨A, c, h1, h2, rfl, _⟩ := h
  intro x hx
  rcases List.mem_cons.1 hx with rfl | hx
  · exact lt_of_heap h1
  · exact own_lt h2 x hx
theorem rfAt_fr {w w' : World} {F : List Nat} {p : Nat} {m : List (Int × Int)} {G : List Nat} (h : rfAt w F p m) (hf : Fr w w' G) (hd : ∀ x ∈ F, x ∉ G) : rfAt w' F p m := by
  obtain ⟨A, c, h1, h2, rfl, h3⟩ := h
  exact ⟨A, c, hf.has h1 (hd p (by simp)), own_fr h2 hf (fun x hx => hd x (by simp [hx])), rfl, h3⟩
theorem rf_mk {w0 w : World} {F0 : List Nat} {M : List (Nat × Obj)} {Fs : List (List Nat)} (hC : Cx w0 F0 w M Fs) {p n c : Nat} {A : Option Addr} {m : List (Int × Int)} (k j : Nat) (h1 : M[k]? = some (p, .cells #[.slice A n c] 49 (0, 0))) (hj : Fs[j]? = some (blk (.slice A n c))) (ho : w.ownsRow 0 75 2 (.slice A n c) n (m.flatMap tmC)) : rfAt w (p :: blk (.slice A n c)) p m := by
  obtain rfl := own_count tmC_len (by decide) ho
  exact ⟨A, c, hC.get k h1, ho, rfl, hC.notin j k hj h1⟩
theorem Cx.openR {w : World} {p : Nat} {o : Obj} {A : List Nat} (hp : w.heap[p]? = some o) (hA : ∀ x ∈ A, x < w.heap.size) (hn : p ∉ A) : Cx w (p :: A) w [(p, o)] [A] :=
  ⟨.refl _ _, by simpa using hp, by simp, by simp, by simpa using hn, by simpa using hA, by simp, by simp; exact fun x hx => .inl (.inr hx)⟩
def cntK (k : Int) (m : List (Int × Int)) : Nat := (m.filter (eqK k)).length
theorem cntK_snoc {k : Int} {ts : List (Int × Int)} {j : Nat} {e : Int × Int} (he : ts[j]? = some e) : cntK k (ts.take (j + 1)) = cntK k (ts.take j) + (if eqK k e then 1 else 0) := by
  obtain ⟨hj, rfl⟩ := List.getElem?_eq_some_iff.1 he
  unfold cntK
  rw [List.take_succ_eq_append_getElem hj, List.filter_append, List.length_append]
  cases h : eqK k ts[j] <;> simp [h]
theorem outK_del {k : Int} {m : List (Int × Int)} (h : (m.map (·.1)).Nodup) : outK k m = delL m k := by
  induction m with
  | nil => rfl
  | cons a r ih =>
    obtain ⟨x, y⟩ := a
    rw [List.map_cons, List.nodup_cons] at h
    have h1 := ih h.2
    unfold outK at h1 ⊢
    unfold delL
    rw [List.filter_cons]
    by_cases e : x = k
    · rw [if_pos e, if_neg (by simp [eqK, e])]
      refine List.filter_eq_self.2 fun t ht => ?_
      have : t.1 ≠ x := fun e2 => h.1 (List.mem_map.2 ⟨t, ht, e2⟩)
      simp [eqK]; omega
    · rw [if_neg e, if_pos (by simp [eqK, e]), h1]
theorem cntK_look {k : Int} {m : List (Int × Int)} (h : (m.map (·.1)).Nodup) : cntK k m = if (lookL m k).isSome then 1 else 0 := by
  induction m with
  | nil => rfl
  | cons a r ih =>
    obtain ⟨x, y⟩ := a
    rw [List.map_cons, List.nodup_cons] at h
    have h1 := ih h.2
    unfold cntK at h1 ⊢
    unfold lookL
    rw [List.filter_cons]
    by_cases e : x = k
    · rw [if_pos e, if_pos (by simp [eqK, e])]
      have : r.filter (eqK k) = [] := List.filter_eq_nil_iff.2 fun t ht => by
        have : t.1 ≠ x := fun e2 => h.1 (List.mem_map.2 ⟨t, ht, e2⟩)
        simp [eqK]; omega
      rw [this]; rfl
    · rw [if_neg e, if_neg (by simp [eqK, e]), h1]
theorem look_hit {m : List (Int × Int)} {k : Int} {i : Nat} {e : Int × Int} (he : m[i]? = some e) (hm : (m.take i).all (fun t => !eqK k t) = true) (h : e.1 = k) : lookL m k = some e.2 := by
  induction m generalizing i with
  | nil => cases he
  | cons a r ih =>
    obtain ⟨x, y⟩ := a
    cases i with
    | zero => cases he; unfold lookL; rw [if_pos h]
    | succ i =>
      simp only [List.take_succ_cons, List.all_cons, Bool.and_eq_true] at hm
      unfold lookL
      rw [if_neg (by have := hm.1; simpa [eqK] using this)]
      exact ih he hm.2
theorem look_all {m : List (Int × Int)} {k : Int} (hm : m.all (fun t => !eqK k t) = true) : lookL m k = none := by
  cases h : lookL m k with
  | none => rfl
  | some v =>
    rw [List.all_eq_true] at hm
    have := hm _ (look_mem2 h)
    simp [eqK] at this
def firstB (m : List (Int × Int)) (i b : Nat) : Prop := (b = 0 ∧ i = 0) ∨ (0 < b ∧ b ≤ i ∧ ∃ t, m[b - 1]? = some t ∧ ∀ u ∈ m.take i, ¬ ltT u t)
theorem ltT_trans {a b c : Int × Int} (h1 : ¬ ltT a b) (h2 : ltT c b) : ¬ ltT a c := by unfold ltT at *; omega
theorem first_new {m : List (Int × Int)} {i b : Nat} {t : Int × Int} (h : firstB m i b) (he : m[i]? = some t) (hc : b = 0 ∨ ∃ cur, m[b - 1]? = some cur ∧ ltT t cur) : firstB m (i + 1) (i + 1) := by
  right
  refine ⟨by omega, by omega, t, he, fun u hu => ?_⟩
  obtain ⟨hi, rfl⟩ := List.getElem?_eq_some_iff.1 he
  rw [List.take_succ_eq_append_getElem hi] at hu
  rcases List.mem_append.1 hu with hu | hu
  · rcases h with ⟨_, h2⟩ | ⟨h1, _, s, hs, h3⟩
    · subst h2; simp at hu
    · rcases hc with hc | ⟨cur, hcur, hlt⟩
      · omega
      · rw [hs] at hcur; obtain rfl := Option.some.inj hcur
        exact ltT_trans (h3 u hu) hlt
  · rw [List.mem_singleton] at hu; subst hu; unfold ltT; omega
theorem first_old {m : List (Int × Int)} {i b : Nat} {t cur : Int × Int} (h : firstB m i b) (he : m[i]? = some t) (hb : 0 < b) (hcur : m[b - 1]? = some cur) (hn : ¬ ltT t cur) : firstB m (i + 1) b := by
  rcases h with ⟨h1, _⟩ | ⟨h1, h2, s, hs, h3⟩
  · omega
  · rw [hs] at hcur; obtain rfl := Option.some.inj hcur
    right
    refine ⟨h1, by omega, s, hs, fun u hu => ?_⟩
    obtain ⟨hi, rfl⟩ := List.getElem?_eq_some_iff.1 he
    rw [List.take_succ_eq_append_getElem hi] at hu
    rcases List.mem_append.1 hu with hu | hu
    · exact h3 u hu
    · rw [List.mem_singleton] at hu; subst hu; exact hn
def FirstI (m : List (Int × Int)) (b : Nat) : Prop := (b = 0 ∧ m = []) ∨ (0 < b ∧ ∃ t, m[b - 1]? = some t ∧ ∀ u ∈ m, ¬ ltT u t)
theorem first_end {m : List (Int × Int)} {i b : Nat} (h : firstB m i b) (hi : ¬ i < m.length) (hi2 : i ≤ m.length) : FirstI m b := by
  have e : i = m.length := by omega
  subst e
  rcases h with ⟨h1, h2⟩ | ⟨h1, _, t, ht, h3⟩
  · exact .inl ⟨h1, List.eq_nil_of_length_eq_zero h2⟩
  · rw [List.take_length] at h3; exact .inr ⟨h1, t, ht, h3⟩
theorem FirstI.next {m : List (Int × Int)} {b : Nat} {t : Int × Int} (h : FirstI m b) (hb : 0 < b) (ht : m[b - 1]? = some t) : t.2 = nextL m ∧ m.isEmpty = false := by
  rcases h with ⟨h1, _⟩ | ⟨_, s, hs, h3⟩
  · omega
  · rw [hs] at ht; obtain rfl := Option.some.inj ht
    have hm := List.mem_of_getElem? hs
    refine ⟨(nextL_eq (fun u hu => ?_) ⟨s, hm, rfl⟩).symm, ?_⟩
    · have := h3 u hu; unfold ltT at this; omega
    · cases m with
      | nil => cases hm
      | cons _ _ => rfl
theorem del_sub {m : List (Int × Int)} {k : Int} (h : (m.map (·.1)).Nodup) {t : Int × Int} (ht : t ∈ m) (hk : t.1 = k) : (delL m k).length < m.length := by
  induction m with
  | nil => cases ht
  | cons a r ih =>
    obtain ⟨x, y⟩ := a
    rw [List.map_cons, List.nodup_cons] at h
    unfold delL
    split
    · simp
    · rename_i e
      rcases List.mem_cons.1 ht with rfl | ht
      · exact absurd hk e
      · have := ih h.2 ht; simp only [List.length_cons]; omega
theorem due_cons {m : List (Int × Int)} {now : Int} {t : Int × Int} (h : (m.map (·.1)).Nodup) (ht : t ∈ m) (hmin : ∀ u ∈ m, ¬ ltT u t) (hn : t.2 ≤ now) : dueL m now = t :: dueL (delL m t.1) now := by
  refine due_eq ?_ ?_
  · refine perm_of ((nodup_m h).filter _) ?_ fun u => ?_
    · rw [List.nodup_cons]
      refine ⟨fun hm => ?_, ?_⟩
      · exact ((mem_del h t.1 t).1 (mem_dueL.1 hm).1).2 rfl
      · exact List.Perm.nodup (List.mergeSort_perm _ _).symm ((nodup_m (delL_keys m t.1 h)).filter _)
    · rw [List.mem_cons, mem_dueL, mem_del h]
      unfold dueF
      rw [List.mem_filter]
      constructor
      · rintro ⟨h1, h2⟩
        by_cases e : u.1 = t.1
        · left; exact key_uniq h h1 ht e
        · right; exact ⟨⟨h1, e⟩, by simpa using h2⟩
      · rintro (rfl | ⟨⟨h1, _⟩, h2⟩)
        · exact ⟨ht, by simpa using hn⟩
        · exact ⟨h1, by simpa using h2⟩
  · rw [List.pairwise_cons]
    refine ⟨fun u hu => ?_, dueL_sorted _ _⟩
    rw [leT_iff]
    exact hmin u ((mem_del h t.1 u).1 (mem_dueL.1 hu).1).1
theorem dueK_cons {m : List (Int × Int)} {now : Int} {t : Int × Int} (h : (m.map (·.1)).Nodup) (ht : t ∈ m) (hmin : ∀ u ∈ m, ¬ ltT u t) (hn : t.2 ≤ now) : dueK m now = t.1 :: dueK (delL m t.1) now := by unfold dueK; rw [due_cons h ht hmin hn]; rfl
theorem FirstI.none {m : List (Int × Int)} {b : Nat} {now : Int} (h : FirstI m b) (hs : b = 0 ∨ ∃ t, m[b - 1]? = some t ∧ now < t.2) : dueK m now = [] := by
  refine dueK_none fun u hu => ?_
  rcases h with ⟨_, h2⟩ | ⟨h1, s, hs2, h3⟩
  · subst h2; cases hu
  · rcases hs with hs | ⟨t, ht, hlt⟩
    · omega
    · rw [hs2] at ht; obtain rfl := Option.some.inj ht
      have := h3 u hu; unfold ltT at this; omega
theorem FirstI.min {m : List (Int × Int)} {b : Nat} {t : Int × Int} (h : FirstI m b) (hb : 0 < b) (ht : m[b - 1]? = some t) : ∀ u ∈ m, ¬ ltT u t := by
  rcases h with ⟨h1, _⟩ | ⟨_, s, hs, h3⟩
  · omega
  · rw [hs] at ht; cases ht; exact h3
theorem drop_take_one {ks : List Int} {i : Nat} {k : Int} (h : ks[i]? = some k) : (ks.take (i + 1)).drop i = [k] := by
  obtain ⟨hi, rfl⟩ := List.getElem?_eq_some_iff.1 h
  rw [List.take_succ_eq_append_getElem hi, List.drop_append_of_le_length (by rw [List.length_take]; omega), List.drop_of_length_le (by rw [List.length_take]; omega)]; rfl
theorem slc_some {A : Option Addr} {l c sz b off b0 o0 : Nat} (hA : A = some ⟨b0, o0, none⟩) (h : slcAt A l c sz = some ⟨b, off, none⟩) : b0 = b := by
  subst hA
  unfold slcAt at h
  split at h
  · cases h; rfl
  · simp only [Option.map_some, Option.some.injEq, Addr.add] at h
    split at h <;> cases h <;> rfl
theorem blk_in {A : Option Addr} {n c b off : Nat} (h : A = some ⟨b, off, none⟩) : b ∈ blk (.slice A n c) := by
  subst h; simp [blk, Value.ownBlock]
theorem snoc_last {xs : List Int} {x y : Int} {n : Nat} (hn : xs.length = n) (h : (xs ++ [x])[n]? = some y) : y = x := by
  subst hn; simp at h; exact h.symm
theorem take_ks {xs : List Int} {n : Nat} (hn : xs.length = n) (x : Int) : (xs ++ [x]).take n = xs := by subst hn; simp
theorem RAt_ct (F : List Nat) (p : Nat) (m : List (Int × Int)) (k : Int) (w : World) (ht : rfAt w F p m) : Calls Try.prog 22 #[.pointer (some ⟨p, 0, none⟩), .int .i64 k] w fun e w' => e = .returned (.tuple #[.int .i64 ((lookL m k).getD 0), .bool (lookL m k).isSome]) ∧ Fr w w' [] := by
  refine enterD (n := 34) Try.func22 rfl rfl (Nat.le_of_ble_eq_true rfl) ?_
  intro Q0 hN hret hret'
  have ht0 := ht
  obtain ⟨A1, c1, hp_, ho_, rfl, hn_⟩ := ht
  have hC := Cx.openR hp_ (own_lt ho_) hn_
  have hmx_ := own_max ho_
  refine WC.seq (fun K1 hK2 => ?_)
  refine WC.region ?_
  refine WL.runs 2 [(5, .bool false), (4, .int .i64 0)] (fun _ => by kernel_rfl) ?_
  refine WL.done rfl ?_
  refine QX.then_normal (hK2 _ _ ?_)
  refine WC.seq (fun K3 hK4 => ?_)
  refine WC.seq (fun K5 hK6 => ?_)
  refine WC.region ?_
  refine WL.runs 1 [(6, .int .i64 0)] (fun _ => by kernel_rfl) ?_
  refine WL.done rfl ?_
  refine QX.then_normal (hK6 _ _ ?_)
  refine WC.block ?_
  refine WC.loop (fun m_ E_ w_ => ∃ (i : Nat), m_ = m.length - i ∧ E_ = [(0, .pointer (some ⟨p, 0, none⟩)), (1, .int .i64 k), (6, .int .i64 (i : Int))] ∧ Cx w (p :: blk (.slice A1 m.length c1)) w_ [(p, .cells #[.slice A1 m.length c1] 49)] [blk (.slice A1 m.length c1)] ∧ World.ownsRow w_ 0 75 2 (.slice A1 m.length c1) m.length (m.flatMap tmC) ∧ Fr w w_ [] ∧ (i ≤ m.length ∧ (m.take i).all (fun t => !eqK k t) = true)) ⟨_, _, ⟨0, rfl, rfl, hC, ho_, (Fr.refl w []), Nat.zero_le _, rfl⟩, sub_of ⟨rfl, rfl, rfl, trivial⟩⟩ (fun m10 E_ w11 K7 hK8 hI9 => ?_)
  obtain ⟨i, rfl, rfl, hC12, row_m10, fr0_m10, hi, hall⟩ := hI9
  refine WC.seq (fun K13 hK14 => ?_)
  refine WC.seq (fun K15 hK16 => ?_)
  refine WC.region ?_
  refine WL.runs 4 [(10, .pointer (some ⟨p, 0, none⟩)), (9, .pointer (some ⟨p, 0, none⟩)), (8, .pointer (some ⟨p, 0, none⟩)), (7, .int .i64 (i : Int))] (fun _ => by kernel_rfl) ?_
  refine WL.load 47 (.pointer (some ⟨p, 0, none⟩)) (.slice A1 m.length c1) 11 (by kernel_rfl) (run_ld (hC12.get 0 rfl) rfl) ?_
  refine WL.runs 2 [(13, .bool (decide ((i : Int) < (m.length : Int)))), (12, .int .i64 (m.length : Int))] (fun _ => by kernel_rfl) ?_
  refine WL.done rfl ?_
  refine QX.then_normal (hK16 _ _ ?_)
  refine WC.test_at 13 (decide ((i : Int) < (m.length : Int))) rfl (fun t17b => ?_) (fun t17b => ?_)
  · -- (i : Int) < (m.length : Int): true
    have t17 : (i : Int) < (m.length : Int) := by have q_ := of_decide_eq_true t17b; omega
    refine WC.cond_true rfl ?_
    refine WC.skip ?_
    refine QX.then_normal (hK14 _ _ ?_)
    refine WC.seq (fun K18 hK19 => ?_)
    refine WC.block ?_
    refine WC.seq (fun K20 hK21 => ?_)
    refine WC.region ?_
    refine WL.runs 3 [(18, .pointer (some ⟨p, 0, none⟩)), (17, .pointer (some ⟨p, 0, none⟩)), (16, .pointer (some ⟨p, 0, none⟩))] (fun _ => by kernel_rfl) ?_
    refine WL.load 47 (.pointer (some ⟨p, 0, none⟩)) (.slice A1 m.length c1) 19 (by kernel_rfl) (run_ld (hC12.get 0 rfl) rfl) ?_
    refine WL.runs 1 [(20, .int .i64 (i : Int))] (fun _ => by kernel_rfl) ?_
    have hn26 := own_count tmC_len (by decide) row_m10
    obtain ⟨e22, he23⟩ := get_some (xs := m) (i := i) (by omega)
    obtain ⟨b24, hA25⟩ := own_addr (by decide) tmC_len row_m10 he23
    refine WL.index A1 m.length c1 21 .i64 (i : Int) b24 0 i 2 (by kernel_rfl) hA25 (by omega) (by omega) (i * 2) (by first | (simp; done) | omega) ?_
    refine WL.runs 1 [(22, .pointer (some ⟨b24, i * 2, none⟩))] (fun _ => by kernel_rfl) ?_
    refine WL.load 3 (.pointer (some ⟨b24, i * 2, none⟩)) (.int .i64 e22.1) 23 (by kernel_rfl) (run_load1 rfl (by simpa [Nat.add_assoc] using Rd.cell (own_rd row_m10 tmC_len (by decide)) hA25 he23 0 _ rfl)) ?_
    refine WL.runs 2 [(25, .bool (e22.1 == k)), (24, .int .i64 k)] (fun _ => by kernel_rfl) ?_
    refine WL.done rfl ?_
    refine QX.then_normal (hK21 _ _ ?_)
    refine WC.test_at 25 (e22.1 == k) rfl (fun t27b => ?_) (fun t27b => ?_)
    · -- e22.1 = k: true
      have t27 : e22.1 = k := by simpa using t27b
      refine WC.cond_true rfl ?_
      refine WC.seq (fun K28 hK29 => ?_)
      refine WC.region ?_
      refine WL.runs 3 [(28, .pointer (some ⟨p, 0, none⟩)), (27, .pointer (some ⟨p, 0, none⟩)), (26, .pointer (some ⟨p, 0, none⟩))] (fun _ => by kernel_rfl) ?_
      refine WL.load 47 (.pointer (some ⟨p, 0, none⟩)) (.slice A1 m.length c1) 29 (by kernel_rfl) (run_ld (hC12.get 0 rfl) rfl) ?_
      refine WL.runs 1 [(30, .int .i64 (i : Int))] (fun _ => by kernel_rfl) ?_
      refine WL.index A1 m.length c1 31 .i64 (i : Int) b24 0 i 2 (by kernel_rfl) hA25 (by omega) (by omega) (i * 2) (by first | (simp; done) | omega) ?_
      refine WL.runs 1 [(32, .pointer (some ⟨b24, i * 2 + 1, none⟩))] (fun _ => by kernel_rfl) ?_
      refine WL.load 3 (.pointer (some ⟨b24, i * 2 + 1, none⟩)) (.int .i64 e22.2) 33 (by kernel_rfl) (run_load1 rfl (by simpa [Nat.add_assoc] using Rd.cell (own_rd row_m10 tmC_len (by decide)) hA25 he23 1 _ rfl)) ?_
      refine WL.runs 2 [(5, .bool true), (4, .int .i64 e22.2)] (fun _ => by kernel_rfl) ?_
      refine WL.done rfl ?_
      refine QX.then_normal (hK29 _ _ ?_)
      refine WC.ret ?_
      refine QX.block_ret ?_
      refine QX.then_ret ?_
      refine QX.then_ret ?_
      refine QX.block_ret ?_
      refine QX.then_ret ?_
      refine (hret _ _ _ rfl ?_).1
      clear hN hret hret' hK29 hK21 hK19 hK16 hK14 hK6 hK4 hK2
      exact ⟨by rw [look_hit he23 hall (by simpa using t27b)]; rfl, fr0_m10⟩
    · -- e22.1 = k: false
      have t27 : ¬ (e22.1 = k) := by simpa using t27b
      refine WC.cond_false rfl ?_
      refine WC.skip ?_
      refine QX.block_normal ?_
      refine QX.then_normal (hK19 _ _ ?_)
      refine WC.region ?_
      refine WL.runs 2 [(15, .int .i64 (IntKind.i64.wrap ((i : Int) + 1))), (14, .int .i64 (i : Int))] (fun _ => by kernel_rfl) ?_
      refine WL.recast (show (.int .i64 (IntKind.i64.wrap ((i : Int) + 1)) : Value) = .int .i64 ((i : Int) + 1) from by rw [wrap_in_i64 ((i : Int) + 1) (by omega) (by omega)]) ?_
      refine WL.runs 1 [(6, .int .i64 ((i : Int) + 1))] (fun _ => by kernel_rfl) ?_
      refine WL.done rfl ?_
      refine QX.then_normal ?_
      have hC34 := hC12.pick [0] [0] rfl rfl
      refine fun a_ ha_ => hK8 _ _ _ ?_ ⟨i + 1, rfl, rfl, hC34, row_m10, fr0_m10, by omega, all_snocT he23 hall (by simpa [eqK] using t27b)⟩ a_ (ha_.weaken (sub_of ⟨rfl, rfl, rfl, trivial⟩))
      omega
  · -- (i : Int) < (m.length : Int): false
    have t17 : (m.length : Int) ≤ (i : Int) := by have q_ := of_decide_eq_false t17b; omega
    refine WC.cond_false rfl ?_
    refine WC.exit ?_
    refine QX.then_exit ?_
    refine QX.then_exit ?_
    refine QX.block_hit ?_
    refine QX.then_normal (hK4 _ _ ?_)
    refine WC.seq (fun K35 hK36 => ?_)
    refine WC.region ?_
    refine WL.runs 2 [(5, .bool false), (4, .int .i64 0)] (fun _ => by kernel_rfl) ?_
    refine WL.done rfl ?_
    refine QX.then_normal (hK36 _ _ ?_)
    refine WC.ret ?_
    refine (hret _ _ _ rfl ?_).1
    clear hN hret hret' hK36 hK16 hK14 hK6 hK4 hK2
    rw [take_allT (by omega)] at hall
    exact ⟨by rw [look_all hall]; rfl, fr0_m10⟩

theorem first_ct (F : List Nat) (p : Nat) (m : List (Int × Int))  (w : World) (ht : rfAt w F p m) : Calls Try.prog 33 #[.pointer (some ⟨p, 0, none⟩)] w fun e w' => ∃ b : Nat, e = .returned (.int .i64 ((b : Int) - 1)) ∧ FirstI m b ∧ b ≤ m.length ∧ Fr w w' [] := by
  refine enterD (n := 65) Try.func33 rfl rfl (Nat.le_of_ble_eq_true rfl) ?_
  intro Q0 hN hret hret'
  have ht0 := ht
  obtain ⟨A1, c1, hp_, ho_, rfl, hn_⟩ := ht
  have hC := Cx.openR hp_ (own_lt ho_) hn_
  have hmx_ := own_max ho_
  refine WC.seq (fun K1 hK2 => ?_)
  refine WC.region ?_
  refine WL.runs 1 [(2, .int .i64 0)] (fun _ => by kernel_rfl) ?_
  refine WL.done rfl ?_
  refine QX.then_normal (hK2 _ _ ?_)
  refine WC.seq (fun K3 hK4 => ?_)
  refine WC.region ?_
  refine WL.runs 1 [(3, .int .i64 (-1))] (fun _ => by kernel_rfl) ?_
  refine WL.done rfl ?_
  refine QX.then_normal (hK4 _ _ ?_)
  refine WC.seq (fun K5 hK6 => ?_)
  refine WC.seq (fun K7 hK8 => ?_)
  refine WC.region ?_
  refine WL.runs 1 [(4, .int .i64 0)] (fun _ => by kernel_rfl) ?_
  refine WL.done rfl ?_
  refine QX.then_normal (hK8 _ _ ?_)
  refine WC.block ?_
  refine WC.loop (fun m_ E_ w_ => ∃ (i b : Nat), m_ = m.length - i ∧ E_ = [(0, .pointer (some ⟨p, 0, none⟩)), (2, .int .i64 0), (3, .int .i64 ((b : Int) - 1)), (4, .int .i64 (i : Int))] ∧ Cx w (p :: blk (.slice A1 m.length c1)) w_ [(p, .cells #[.slice A1 m.length c1] 49)] [blk (.slice A1 m.length c1)] ∧ World.ownsRow w_ 0 75 2 (.slice A1 m.length c1) m.length (m.flatMap tmC) ∧ SameF w w_ (blk (.slice A1 m.length c1)) ∧ (i ≤ m.length ∧ firstB m i b ∧ b ≤ i)) ⟨_, _, ⟨0, 0, rfl, rfl, hC, ho_, (SameF.refl w _ (own_lt ho_)), Nat.zero_le _, .inl ⟨rfl, rfl⟩, Nat.le_refl _⟩, sub_of ⟨rfl, rfl, rfl, rfl, trivial⟩⟩ (fun m12 E_ w13 K9 hK10 hI11 => ?_)
  obtain ⟨i, b, rfl, rfl, hC14, row_m12, same_m12, hi, hfb, hbi⟩ := hI11
  refine WC.seq (fun K15 hK16 => ?_)
  refine WC.seq (fun K17 hK18 => ?_)
  refine WC.region ?_
  refine WL.runs 4 [(9, .pointer (some ⟨p, 0, none⟩)), (8, .pointer (some ⟨p, 0, none⟩)), (7, .pointer (some ⟨p, 0, none⟩)), (6, .int .i64 (i : Int))] (fun _ => by kernel_rfl) ?_
  refine WL.load 47 (.pointer (some ⟨p, 0, none⟩)) (.slice A1 m.length c1) 10 (by kernel_rfl) (run_ld (hC14.get 0 rfl) rfl) ?_
  refine WL.runs 2 [(12, .bool (decide ((i : Int) < (m.length : Int)))), (11, .int .i64 (m.length : Int))] (fun _ => by kernel_rfl) ?_
  refine WL.done rfl ?_
  refine QX.then_normal (hK18 _ _ ?_)
  refine WC.test_at 12 (decide ((i : Int) < (m.length : Int))) rfl (fun t19b => ?_) (fun t19b => ?_)
  · -- (i : Int) < (m.length : Int): true
    have t19 : (i : Int) < (m.length : Int) := by have q_ := of_decide_eq_true t19b; omega
    refine WC.cond_true rfl ?_
    refine WC.skip ?_
    refine QX.then_normal (hK16 _ _ ?_)
    refine WC.seq (fun K20 hK21 => ?_)
    refine WC.block ?_
    refine WC.seq (fun K22 hK23 => ?_)
    refine WC.region ?_
    refine WL.runs 3 [(17, .pointer (some ⟨p, 0, none⟩)), (16, .pointer (some ⟨p, 0, none⟩)), (15, .pointer (some ⟨p, 0, none⟩))] (fun _ => by kernel_rfl) ?_
    refine WL.load 47 (.pointer (some ⟨p, 0, none⟩)) (.slice A1 m.length c1) 18 (by kernel_rfl) (run_ld (hC14.get 0 rfl) rfl) ?_
    refine WL.runs 1 [(19, .int .i64 (i : Int))] (fun _ => by kernel_rfl) ?_
    have hn28 := own_count tmC_len (by decide) row_m12
    obtain ⟨e24, he25⟩ := get_some (xs := m) (i := i) (by omega)
    obtain ⟨b26, hA27⟩ := own_addr (by decide) tmC_len row_m12 he25
    refine WL.index A1 m.length c1 20 .i64 (i : Int) b26 0 i 2 (by kernel_rfl) hA27 (by omega) (by omega) (i * 2) (by first | (simp; done) | omega) ?_
    refine WL.load 75 (.pointer (some ⟨b26, i * 2, none⟩)) (.agg #[.int .i64 e24.1, .int .i64 e24.2]) 21 (by kernel_rfl) (run_rdN (l := [.int .i64 e24.1, .int .i64 e24.2]) rfl rfl (fun j u hu => by have hq_ := Rd.cell (own_rd row_m12 tmC_len (by decide)) hA27 he25 j u hu; simpa [Nat.add_assoc] using hq_)) ?_
    refine WL.newM hC14 (fun b => .pointer (some ⟨b, 0, none⟩)) (.cells #[.int .i64 0, .int .i64 0] 75) 5 (fun _ => by kernel_rfl) (fun g29 w30 hb33 hF31 hC32 => ?_)
    have ho34 := own_fr row_m12 hF31 (by simp)
    have hf35 := SameF.fr same_m12 hF31 (by simp)
    refine WL.storeM (c' := #[.int .i64 e24.1, .int .i64 e24.2]) hC32 1 75 g29 0 (.agg #[.int .i64 e24.1, .int .i64 e24.2]) (by kernel_rfl) rfl (by kernel_rfl) (fun w36 hF38 hC39 => ?_)
    have ho40 := own_fr ho34 hF38 (hC32.apartM 0 1 rfl rfl)
    have hf41 := SameF.fr hf35 hF38 (hC32.apartM 0 1 rfl rfl)
    refine WL.done rfl ?_
    refine QX.then_normal (hK23 _ _ ?_)
    refine WC.seq (fun K42 hK43 => ?_)
    refine WC.drawC hC39 [] (by kernel_rfl) (fun w44 hF45 hC46 hS47 => ?_)
    have ho48 := own_fr ho40 hF45 (by simp)
    have hf49 := SameF.fr hf41 hF45 (by simp)
    refine WD.pure (NoPanic.then (NoPanic.block (NoPanic.then (NoPanic.then (NoPanic.block (NoPanic.then hN)))))) 0 22 (.int .i64 ((b : Int) - 1)) (by kernel_rfl) (fun _ => by kernel_rfl) hS47 ?_
    refine WD.pure (NoPanic.then (NoPanic.block (NoPanic.then (NoPanic.then (NoPanic.block (NoPanic.then hN)))))) 1 23 (.bool (decide (((b : Int) - 1) < 0))) (by kernel_rfl) (fun _ => by kernel_rfl) hS47 ?_
    refine WD.pure (NoPanic.then (NoPanic.block (NoPanic.then (NoPanic.then (NoPanic.block (NoPanic.then hN)))))) 2 24 (.bool (decide (((b : Int) - 1) < 0))) (by kernel_rfl) (fun _ => by kernel_rfl) hS47 ?_
    refine WD.test_at 24 (decide (((b : Int) - 1) < 0)) rfl (fun t50b => ?_) (fun t50b => ?_)
    · -- ((b : Int) - 1) < 0: true
      have t50 : ((b : Int) - 1) < 0 := by have q_ := of_decide_eq_true t50b; omega
      refine WD.pure (NoPanic.then (NoPanic.block (NoPanic.then (NoPanic.then (NoPanic.block (NoPanic.then hN)))))) 3 25 (undef) (by kernel_rfl) (fun _ => by kernel_rfl) hS47 ?_
      refine WD.pure (NoPanic.then (NoPanic.block (NoPanic.then (NoPanic.then (NoPanic.block (NoPanic.then hN)))))) 4 26 (undef) (by kernel_rfl) (fun _ => by kernel_rfl) hS47 ?_
      refine WD.pure (NoPanic.then (NoPanic.block (NoPanic.then (NoPanic.then (NoPanic.block (NoPanic.then hN)))))) 5 27 (undef) (by kernel_rfl) (fun _ => by kernel_rfl) hS47 ?_
      refine WD.pure (NoPanic.then (NoPanic.block (NoPanic.then (NoPanic.then (NoPanic.block (NoPanic.then hN)))))) 6 28 (undef) (by kernel_rfl) (fun _ => by kernel_rfl) hS47 ?_
      refine WD.pure (NoPanic.then (NoPanic.block (NoPanic.then (NoPanic.then (NoPanic.block (NoPanic.then hN)))))) 7 29 (undef) (by kernel_rfl) (fun _ => by kernel_rfl) hS47 ?_
      refine WD.pure (NoPanic.then (NoPanic.block (NoPanic.then (NoPanic.then (NoPanic.block (NoPanic.then hN)))))) 8 30 (undef) (by kernel_rfl) (fun _ => by kernel_rfl) hS47 ?_
      refine WD.pure (NoPanic.then (NoPanic.block (NoPanic.then (NoPanic.then (NoPanic.block (NoPanic.then hN)))))) 9 31 (undef) (by kernel_rfl) (fun _ => by kernel_rfl) hS47 ?_
      refine WD.pure (NoPanic.then (NoPanic.block (NoPanic.then (NoPanic.then (NoPanic.block (NoPanic.then hN)))))) 10 32 (undef) (by kernel_rfl) (fun _ => by kernel_rfl) hS47 ?_
      refine WD.pure (NoPanic.then (NoPanic.block (NoPanic.then (NoPanic.then (NoPanic.block (NoPanic.then hN)))))) 11 33 (undef) (by kernel_rfl) (fun _ => by kernel_rfl) hS47 ?_
      refine WD.pure (NoPanic.then (NoPanic.block (NoPanic.then (NoPanic.then (NoPanic.block (NoPanic.then hN)))))) 12 34 (undef) (by kernel_rfl) (fun _ => by kernel_rfl) hS47 ?_
      refine WD.pure (NoPanic.then (NoPanic.block (NoPanic.then (NoPanic.then (NoPanic.block (NoPanic.then hN)))))) 13 35 (undef) (by kernel_rfl) (fun _ => by kernel_rfl) hS47 ?_
      refine WD.pure (NoPanic.then (NoPanic.block (NoPanic.then (NoPanic.then (NoPanic.block (NoPanic.then hN)))))) 14 36 (.bool true) (by kernel_rfl) (fun _ => by kernel_rfl) hS47 ?_
      refine WD.pure (NoPanic.then (NoPanic.block (NoPanic.then (NoPanic.then (NoPanic.block (NoPanic.then hN)))))) 15 37 (.bool true) (by kernel_rfl) (fun _ => by kernel_rfl) hS47 ?_
      refine WD.pure (NoPanic.then (NoPanic.block (NoPanic.then (NoPanic.then (NoPanic.block (NoPanic.then hN)))))) 16 38 (undef) (by kernel_rfl) (fun _ => by kernel_rfl) hS47 ?_
      refine WD.pure (NoPanic.then (NoPanic.block (NoPanic.then (NoPanic.then (NoPanic.block (NoPanic.then hN)))))) 17 39 (undef) (by kernel_rfl) (fun _ => by kernel_rfl) hS47 ?_
      refine WD.pure (NoPanic.then (NoPanic.block (NoPanic.then (NoPanic.then (NoPanic.block (NoPanic.then hN)))))) 18 40 (undef) (by kernel_rfl) (fun _ => by kernel_rfl) hS47 ?_
      refine WD.pure (NoPanic.then (NoPanic.block (NoPanic.then (NoPanic.then (NoPanic.block (NoPanic.then hN)))))) 19 41 (undef) (by kernel_rfl) (fun _ => by kernel_rfl) hS47 ?_
      refine WD.pure (NoPanic.then (NoPanic.block (NoPanic.then (NoPanic.then (NoPanic.block (NoPanic.then hN)))))) 20 42 (undef) (by kernel_rfl) (fun _ => by kernel_rfl) hS47 ?_
      refine WD.pure (NoPanic.then (NoPanic.block (NoPanic.then (NoPanic.then (NoPanic.block (NoPanic.then hN)))))) 21 43 (undef) (by kernel_rfl) (fun _ => by kernel_rfl) hS47 ?_
      refine WD.pure (NoPanic.then (NoPanic.block (NoPanic.then (NoPanic.then (NoPanic.block (NoPanic.then hN)))))) 22 44 (undef) (by kernel_rfl) (fun _ => by kernel_rfl) hS47 ?_
      refine WD.pure (NoPanic.then (NoPanic.block (NoPanic.then (NoPanic.then (NoPanic.block (NoPanic.then hN)))))) 23 45 (undef) (by kernel_rfl) (fun _ => by kernel_rfl) hS47 ?_
      refine WD.pure (NoPanic.then (NoPanic.block (NoPanic.then (NoPanic.then (NoPanic.block (NoPanic.then hN)))))) 24 46 (undef) (by kernel_rfl) (fun _ => by kernel_rfl) hS47 ?_
      refine WD.pure (NoPanic.then (NoPanic.block (NoPanic.then (NoPanic.then (NoPanic.block (NoPanic.then hN)))))) 25 47 (undef) (by kernel_rfl) (fun _ => by kernel_rfl) hS47 ?_
      refine WD.pure (NoPanic.then (NoPanic.block (NoPanic.then (NoPanic.then (NoPanic.block (NoPanic.then hN)))))) 26 48 (undef) (by kernel_rfl) (fun _ => by kernel_rfl) hS47 ?_
      refine WD.pure (NoPanic.then (NoPanic.block (NoPanic.then (NoPanic.then (NoPanic.block (NoPanic.then hN)))))) 27 49 (undef) (by kernel_rfl) (fun _ => by kernel_rfl) hS47 ?_
      refine WD.pure (NoPanic.then (NoPanic.block (NoPanic.then (NoPanic.then (NoPanic.block (NoPanic.then hN)))))) 28 50 (undef) (by kernel_rfl) (fun _ => by kernel_rfl) hS47 ?_
      refine WD.pure (NoPanic.then (NoPanic.block (NoPanic.then (NoPanic.then (NoPanic.block (NoPanic.then hN)))))) 29 51 (undef) (by kernel_rfl) (fun _ => by kernel_rfl) hS47 ?_
      refine WD.pure (NoPanic.then (NoPanic.block (NoPanic.then (NoPanic.then (NoPanic.block (NoPanic.then hN)))))) 30 52 (undef) (by kernel_rfl) (fun _ => by kernel_rfl) hS47 ?_
      refine WD.pure (NoPanic.then (NoPanic.block (NoPanic.then (NoPanic.then (NoPanic.block (NoPanic.then hN)))))) 31 53 (undef) (by kernel_rfl) (fun _ => by kernel_rfl) hS47 ?_
      refine WD.pure (NoPanic.then (NoPanic.block (NoPanic.then (NoPanic.then (NoPanic.block (NoPanic.then hN)))))) 32 54 (undef) (by kernel_rfl) (fun _ => by kernel_rfl) hS47 ?_
      refine WD.pure (NoPanic.then (NoPanic.block (NoPanic.then (NoPanic.then (NoPanic.block (NoPanic.then hN)))))) 33 55 (undef) (by kernel_rfl) (fun _ => by kernel_rfl) hS47 ?_
      refine WD.pure (NoPanic.then (NoPanic.block (NoPanic.then (NoPanic.then (NoPanic.block (NoPanic.then hN)))))) 34 56 (undef) (by kernel_rfl) (fun _ => by kernel_rfl) hS47 ?_
      refine WD.pure (NoPanic.then (NoPanic.block (NoPanic.then (NoPanic.then (NoPanic.block (NoPanic.then hN)))))) 35 57 (undef) (by kernel_rfl) (fun _ => by kernel_rfl) hS47 ?_
      refine WD.pure (NoPanic.then (NoPanic.block (NoPanic.then (NoPanic.then (NoPanic.block (NoPanic.then hN)))))) 36 58 (undef) (by kernel_rfl) (fun _ => by kernel_rfl) hS47 ?_
      refine WD.pure (NoPanic.then (NoPanic.block (NoPanic.then (NoPanic.then (NoPanic.block (NoPanic.then hN)))))) 37 59 (undef) (by kernel_rfl) (fun _ => by kernel_rfl) hS47 ?_
      refine WD.pure (NoPanic.then (NoPanic.block (NoPanic.then (NoPanic.then (NoPanic.block (NoPanic.then hN)))))) 38 60 (undef) (by kernel_rfl) (fun _ => by kernel_rfl) hS47 ?_
      refine WD.pure (NoPanic.then (NoPanic.block (NoPanic.then (NoPanic.then (NoPanic.block (NoPanic.then hN)))))) 39 61 (undef) (by kernel_rfl) (fun _ => by kernel_rfl) hS47 ?_
      refine WD.pure (NoPanic.then (NoPanic.block (NoPanic.then (NoPanic.then (NoPanic.block (NoPanic.then hN)))))) 40 62 (.bool true) (by kernel_rfl) (fun _ => by kernel_rfl) hS47 ?_
      refine WD.done (by kernel_rfl) ?_
      refine QX.then_normal (hK43 _ _ ?_)
      refine WC.cond_true rfl ?_
      refine WC.region ?_
      refine WL.runs 2 [(3, .int .i64 (i : Int)), (63, .int .i64 (i : Int))] (fun _ => by kernel_rfl) ?_
      refine WL.recast (show (.int .i64 (i : Int) : Value) = .int .i64 (((i + 1 : Nat) : Int) - 1) from congrArg (Value.int .i64) (by omega)) ?_
      refine WL.done rfl ?_
      refine QX.block_normal ?_
      refine QX.then_normal (hK21 _ _ ?_)
      refine WC.region ?_
      refine WL.runs 2 [(14, .int .i64 (IntKind.i64.wrap ((i : Int) + 1))), (13, .int .i64 (i : Int))] (fun _ => by kernel_rfl) ?_
      refine WL.recast (show (.int .i64 (IntKind.i64.wrap ((i : Int) + 1)) : Value) = .int .i64 ((i : Int) + 1) from by rw [wrap_in_i64 ((i : Int) + 1) (by omega) (by omega)]) ?_
      refine WL.runs 1 [(4, .int .i64 ((i : Int) + 1))] (fun _ => by kernel_rfl) ?_
      refine WL.done rfl ?_
      refine QX.then_normal ?_
      have hC51 := hC46.pick [0] [0] rfl rfl
      refine fun a_ ha_ => hK10 _ _ _ ?_ ⟨i + 1, i + 1, rfl, rfl, hC51, ho48, hf49, by omega, first_new hfb he25 (.inl (by omega)), by omega⟩ a_ (ha_.weaken (sub_of ⟨rfl, rfl, rfl, rfl, trivial⟩))
      omega
    · -- ((b : Int) - 1) < 0: false
      have t50 : (0 : Int) ≤ ((b : Int) - 1) := by have q_ := of_decide_eq_false t50b; omega
      refine WD.pure (NoPanic.then (NoPanic.block (NoPanic.then (NoPanic.then (NoPanic.block (NoPanic.then hN)))))) 3 25 (.pointer (some ⟨g29, 1, none⟩)) (by kernel_rfl) (fun _ => by kernel_rfl) hS47 ?_
      refine WD.pure (NoPanic.then (NoPanic.block (NoPanic.then (NoPanic.then (NoPanic.block (NoPanic.then hN)))))) 5 27 (.pointer (some ⟨p, 0, none⟩)) (by kernel_rfl) (fun _ => by kernel_rfl) hS47 ?_
      refine WD.pure (NoPanic.then (NoPanic.block (NoPanic.then (NoPanic.then (NoPanic.block (NoPanic.then hN)))))) 6 28 (.pointer (some ⟨p, 0, none⟩)) (by kernel_rfl) (fun _ => by kernel_rfl) hS47 ?_
      refine WD.pure (NoPanic.then (NoPanic.block (NoPanic.then (NoPanic.then (NoPanic.block (NoPanic.then hN)))))) 7 29 (.pointer (some ⟨p, 0, none⟩)) (by kernel_rfl) (fun _ => by kernel_rfl) hS47 ?_
      refine WD.pure (NoPanic.then (NoPanic.block (NoPanic.then (NoPanic.then (NoPanic.block (NoPanic.then hN)))))) 9 31 (.int .i64 ((b : Int) - 1)) (by kernel_rfl) (fun _ => by kernel_rfl) hS47 ?_
      refine WD.load (NoPanic.then (NoPanic.block (NoPanic.then (NoPanic.then (NoPanic.block (NoPanic.then hN)))))) 4 3 (.pointer (some ⟨g29, 1, none⟩)) (.int .i64 e24.2) 26 (by kernel_rfl) (by kernel_rfl) (fun _ hS_ => run_ld (Fr.has hS_ (hC46.get 1 rfl) (by simp)) rfl) hS47 ?_
      refine WD.load (NoPanic.then (NoPanic.block (NoPanic.then (NoPanic.then (NoPanic.block (NoPanic.then hN)))))) 8 47 (.pointer (some ⟨p, 0, none⟩)) (.slice A1 m.length c1) 30 (by kernel_rfl) (by kernel_rfl) (fun _ hS_ => run_ld (Fr.has hS_ (hC46.get 0 rfl) (by simp)) rfl) hS47 ?_
      have hn56 := own_count tmC_len (by decide) ho48
      obtain ⟨e52, he53⟩ := get_some (xs := m) (i := ((b : Int) - 1).toNat) (by omega)
      obtain ⟨b54, hA55⟩ := own_addr (by decide) tmC_len ho48 he53
      refine WD.index (NoPanic.then (NoPanic.block (NoPanic.then (NoPanic.then (NoPanic.block (NoPanic.then hN)))))) 10 A1 m.length c1 32 .i64 ((b : Int) - 1) b54 0 (((b : Int) - 1).toNat) 2 (by kernel_rfl) (by kernel_rfl) hA55 (by omega) (by omega) ((((b : Int) - 1).toNat) * 2) (by first | (simp; done) | omega) hS47 ?_
      refine WD.pure (NoPanic.then (NoPanic.block (NoPanic.then (NoPanic.then (NoPanic.block (NoPanic.then hN)))))) 11 33 (.pointer (some ⟨b54, (((b : Int) - 1).toNat) * 2 + 1, none⟩)) (by kernel_rfl) (fun _ => by kernel_rfl) hS47 ?_
      refine WD.load (NoPanic.then (NoPanic.block (NoPanic.then (NoPanic.then (NoPanic.block (NoPanic.then hN)))))) 12 3 (.pointer (some ⟨b54, (((b : Int) - 1).toNat) * 2 + 1, none⟩)) (.int .i64 e52.2) 34 (by kernel_rfl) (by kernel_rfl) (fun _ hS_ => run_load1 rfl (by simpa [Nat.add_assoc] using Rd.cell (own_rd (own_fr ho48 hS_ (by simp)) tmC_len (by decide)) hA55 he53 1 _ rfl)) hS47 ?_
      refine WD.pure (NoPanic.then (NoPanic.block (NoPanic.then (NoPanic.then (NoPanic.block (NoPanic.then hN)))))) 13 35 (.bool (decide (e24.2 < e52.2))) (by kernel_rfl) (fun _ => by kernel_rfl) hS47 ?_
      refine WD.pure (NoPanic.then (NoPanic.block (NoPanic.then (NoPanic.then (NoPanic.block (NoPanic.then hN)))))) 14 36 (.bool (decide (e24.2 < e52.2))) (by kernel_rfl) (fun _ => by kernel_rfl) hS47 ?_
      refine WD.pure (NoPanic.then (NoPanic.block (NoPanic.then (NoPanic.then (NoPanic.block (NoPanic.then hN)))))) 15 37 (.bool (decide (e24.2 < e52.2))) (by kernel_rfl) (fun _ => by kernel_rfl) hS47 ?_
      refine WD.test_at 37 (decide (e24.2 < e52.2)) rfl (fun t57b => ?_) (fun t57b => ?_)
      · -- e24.2 < e52.2: true
        have t57 : e24.2 < e52.2 := by have q_ := of_decide_eq_true t57b; omega
        refine WD.pure (NoPanic.then (NoPanic.block (NoPanic.then (NoPanic.then (NoPanic.block (NoPanic.then hN)))))) 16 38 (undef) (by kernel_rfl) (fun _ => by kernel_rfl) hS47 ?_
        refine WD.pure (NoPanic.then (NoPanic.block (NoPanic.then (NoPanic.then (NoPanic.block (NoPanic.then hN)))))) 17 39 (undef) (by kernel_rfl) (fun _ => by kernel_rfl) hS47 ?_
        refine WD.pure (NoPanic.then (NoPanic.block (NoPanic.then (NoPanic.then (NoPanic.block (NoPanic.then hN)))))) 18 40 (undef) (by kernel_rfl) (fun _ => by kernel_rfl) hS47 ?_
        refine WD.pure (NoPanic.then (NoPanic.block (NoPanic.then (NoPanic.then (NoPanic.block (NoPanic.then hN)))))) 19 41 (undef) (by kernel_rfl) (fun _ => by kernel_rfl) hS47 ?_
        refine WD.pure (NoPanic.then (NoPanic.block (NoPanic.then (NoPanic.then (NoPanic.block (NoPanic.then hN)))))) 20 42 (undef) (by kernel_rfl) (fun _ => by kernel_rfl) hS47 ?_
        refine WD.pure (NoPanic.then (NoPanic.block (NoPanic.then (NoPanic.then (NoPanic.block (NoPanic.then hN)))))) 21 43 (undef) (by kernel_rfl) (fun _ => by kernel_rfl) hS47 ?_
        refine WD.pure (NoPanic.then (NoPanic.block (NoPanic.then (NoPanic.then (NoPanic.block (NoPanic.then hN)))))) 22 44 (undef) (by kernel_rfl) (fun _ => by kernel_rfl) hS47 ?_
        refine WD.pure (NoPanic.then (NoPanic.block (NoPanic.then (NoPanic.then (NoPanic.block (NoPanic.then hN)))))) 23 45 (undef) (by kernel_rfl) (fun _ => by kernel_rfl) hS47 ?_
        refine WD.pure (NoPanic.then (NoPanic.block (NoPanic.then (NoPanic.then (NoPanic.block (NoPanic.then hN)))))) 24 46 (undef) (by kernel_rfl) (fun _ => by kernel_rfl) hS47 ?_
        refine WD.pure (NoPanic.then (NoPanic.block (NoPanic.then (NoPanic.then (NoPanic.block (NoPanic.then hN)))))) 25 47 (undef) (by kernel_rfl) (fun _ => by kernel_rfl) hS47 ?_
        refine WD.pure (NoPanic.then (NoPanic.block (NoPanic.then (NoPanic.then (NoPanic.block (NoPanic.then hN)))))) 26 48 (undef) (by kernel_rfl) (fun _ => by kernel_rfl) hS47 ?_
        refine WD.pure (NoPanic.then (NoPanic.block (NoPanic.then (NoPanic.then (NoPanic.block (NoPanic.then hN)))))) 27 49 (undef) (by kernel_rfl) (fun _ => by kernel_rfl) hS47 ?_
        refine WD.pure (NoPanic.then (NoPanic.block (NoPanic.then (NoPanic.then (NoPanic.block (NoPanic.then hN)))))) 28 50 (undef) (by kernel_rfl) (fun _ => by kernel_rfl) hS47 ?_
        refine WD.pure (NoPanic.then (NoPanic.block (NoPanic.then (NoPanic.then (NoPanic.block (NoPanic.then hN)))))) 29 51 (undef) (by kernel_rfl) (fun _ => by kernel_rfl) hS47 ?_
        refine WD.pure (NoPanic.then (NoPanic.block (NoPanic.then (NoPanic.then (NoPanic.block (NoPanic.then hN)))))) 30 52 (undef) (by kernel_rfl) (fun _ => by kernel_rfl) hS47 ?_
        refine WD.pure (NoPanic.then (NoPanic.block (NoPanic.then (NoPanic.then (NoPanic.block (NoPanic.then hN)))))) 31 53 (undef) (by kernel_rfl) (fun _ => by kernel_rfl) hS47 ?_
        refine WD.pure (NoPanic.then (NoPanic.block (NoPanic.then (NoPanic.then (NoPanic.block (NoPanic.then hN)))))) 32 54 (undef) (by kernel_rfl) (fun _ => by kernel_rfl) hS47 ?_
        refine WD.pure (NoPanic.then (NoPanic.block (NoPanic.then (NoPanic.then (NoPanic.block (NoPanic.then hN)))))) 33 55 (undef) (by kernel_rfl) (fun _ => by kernel_rfl) hS47 ?_
        refine WD.pure (NoPanic.then (NoPanic.block (NoPanic.then (NoPanic.then (NoPanic.block (NoPanic.then hN)))))) 34 56 (undef) (by kernel_rfl) (fun _ => by kernel_rfl) hS47 ?_
        refine WD.pure (NoPanic.then (NoPanic.block (NoPanic.then (NoPanic.then (NoPanic.block (NoPanic.then hN)))))) 35 57 (undef) (by kernel_rfl) (fun _ => by kernel_rfl) hS47 ?_
        refine WD.pure (NoPanic.then (NoPanic.block (NoPanic.then (NoPanic.then (NoPanic.block (NoPanic.then hN)))))) 36 58 (undef) (by kernel_rfl) (fun _ => by kernel_rfl) hS47 ?_
        refine WD.pure (NoPanic.then (NoPanic.block (NoPanic.then (NoPanic.then (NoPanic.block (NoPanic.then hN)))))) 37 59 (undef) (by kernel_rfl) (fun _ => by kernel_rfl) hS47 ?_
        refine WD.pure (NoPanic.then (NoPanic.block (NoPanic.then (NoPanic.then (NoPanic.block (NoPanic.then hN)))))) 38 60 (undef) (by kernel_rfl) (fun _ => by kernel_rfl) hS47 ?_
        refine WD.pure (NoPanic.then (NoPanic.block (NoPanic.then (NoPanic.then (NoPanic.block (NoPanic.then hN)))))) 39 61 (undef) (by kernel_rfl) (fun _ => by kernel_rfl) hS47 ?_
        refine WD.pure (NoPanic.then (NoPanic.block (NoPanic.then (NoPanic.then (NoPanic.block (NoPanic.then hN)))))) 40 62 (.bool true) (by kernel_rfl) (fun _ => by kernel_rfl) hS47 ?_
        refine WD.done (by kernel_rfl) ?_
        refine QX.then_normal (hK43 _ _ ?_)
        refine WC.cond_true rfl ?_
        refine WC.region ?_
        refine WL.runs 2 [(3, .int .i64 (i : Int)), (63, .int .i64 (i : Int))] (fun _ => by kernel_rfl) ?_
        refine WL.recast (show (.int .i64 (i : Int) : Value) = .int .i64 (((i + 1 : Nat) : Int) - 1) from congrArg (Value.int .i64) (by omega)) ?_
        refine WL.done rfl ?_
        refine QX.block_normal ?_
        refine QX.then_normal (hK21 _ _ ?_)
        refine WC.region ?_
        refine WL.runs 2 [(14, .int .i64 (IntKind.i64.wrap ((i : Int) + 1))), (13, .int .i64 (i : Int))] (fun _ => by kernel_rfl) ?_
        refine WL.recast (show (.int .i64 (IntKind.i64.wrap ((i : Int) + 1)) : Value) = .int .i64 ((i : Int) + 1) from by rw [wrap_in_i64 ((i : Int) + 1) (by omega) (by omega)]) ?_
        refine WL.runs 1 [(4, .int .i64 ((i : Int) + 1))] (fun _ => by kernel_rfl) ?_
        refine WL.done rfl ?_
        refine QX.then_normal ?_
        have hC58 := hC46.pick [0] [0] rfl rfl
        refine fun a_ ha_ => hK10 _ _ _ ?_ ⟨i + 1, i + 1, rfl, rfl, hC58, ho48, hf49, by omega, first_new hfb he25 (.inr ⟨_, (show m[b - 1]? = some _ from by have z_ := he53; rw [show ((b : Int) - 1).toNat = b - 1 from by omega] at z_; exact z_), by unfold ltT; omega⟩), by omega⟩ a_ (ha_.weaken (sub_of ⟨rfl, rfl, rfl, rfl, trivial⟩))
        omega
      · -- e24.2 < e52.2: false
        have t57 : e52.2 ≤ e24.2 := by have q_ := of_decide_eq_false t57b; omega
        refine WD.pure (NoPanic.then (NoPanic.block (NoPanic.then (NoPanic.then (NoPanic.block (NoPanic.then hN)))))) 16 38 (.pointer (some ⟨g29, 1, none⟩)) (by kernel_rfl) (fun _ => by kernel_rfl) hS47 ?_
        refine WD.pure (NoPanic.then (NoPanic.block (NoPanic.then (NoPanic.then (NoPanic.block (NoPanic.then hN)))))) 18 40 (.pointer (some ⟨p, 0, none⟩)) (by kernel_rfl) (fun _ => by kernel_rfl) hS47 ?_
        refine WD.pure (NoPanic.then (NoPanic.block (NoPanic.then (NoPanic.then (NoPanic.block (NoPanic.then hN)))))) 19 41 (.pointer (some ⟨p, 0, none⟩)) (by kernel_rfl) (fun _ => by kernel_rfl) hS47 ?_
        refine WD.pure (NoPanic.then (NoPanic.block (NoPanic.then (NoPanic.then (NoPanic.block (NoPanic.then hN)))))) 20 42 (.pointer (some ⟨p, 0, none⟩)) (by kernel_rfl) (fun _ => by kernel_rfl) hS47 ?_
        refine WD.pure (NoPanic.then (NoPanic.block (NoPanic.then (NoPanic.then (NoPanic.block (NoPanic.then hN)))))) 22 44 (.int .i64 ((b : Int) - 1)) (by kernel_rfl) (fun _ => by kernel_rfl) hS47 ?_
        refine WD.load (NoPanic.then (NoPanic.block (NoPanic.then (NoPanic.then (NoPanic.block (NoPanic.then hN)))))) 17 3 (.pointer (some ⟨g29, 1, none⟩)) (.int .i64 e24.2) 39 (by kernel_rfl) (by kernel_rfl) (fun _ hS_ => run_ld (Fr.has hS_ (hC46.get 1 rfl) (by simp)) rfl) hS47 ?_
        refine WD.load (NoPanic.then (NoPanic.block (NoPanic.then (NoPanic.then (NoPanic.block (NoPanic.then hN)))))) 21 47 (.pointer (some ⟨p, 0, none⟩)) (.slice A1 m.length c1) 43 (by kernel_rfl) (by kernel_rfl) (fun _ hS_ => run_ld (Fr.has hS_ (hC46.get 0 rfl) (by simp)) rfl) hS47 ?_
        refine WD.index (NoPanic.then (NoPanic.block (NoPanic.then (NoPanic.then (NoPanic.block (NoPanic.then hN)))))) 23 A1 m.length c1 45 .i64 ((b : Int) - 1) b54 0 (((b : Int) - 1).toNat) 2 (by kernel_rfl) (by kernel_rfl) hA55 (by omega) (by omega) ((((b : Int) - 1).toNat) * 2) (by first | (simp; done) | omega) hS47 ?_
        refine WD.pure (NoPanic.then (NoPanic.block (NoPanic.then (NoPanic.then (NoPanic.block (NoPanic.then hN)))))) 24 46 (.pointer (some ⟨b54, (((b : Int) - 1).toNat) * 2 + 1, none⟩)) (by kernel_rfl) (fun _ => by kernel_rfl) hS47 ?_
        refine WD.load (NoPanic.then (NoPanic.block (NoPanic.then (NoPanic.then (NoPanic.block (NoPanic.then hN)))))) 25 3 (.pointer (some ⟨b54, (((b : Int) - 1).toNat) * 2 + 1, none⟩)) (.int .i64 e52.2) 47 (by kernel_rfl) (by kernel_rfl) (fun _ hS_ => run_load1 rfl (by simpa [Nat.add_assoc] using Rd.cell (own_rd (own_fr ho48 hS_ (by simp)) tmC_len (by decide)) hA55 he53 1 _ rfl)) hS47 ?_
        refine WD.pure (NoPanic.then (NoPanic.block (NoPanic.then (NoPanic.then (NoPanic.block (NoPanic.then hN)))))) 26 48 (.bool (e24.2 == e52.2)) (by kernel_rfl) (fun _ => by kernel_rfl) hS47 ?_
        refine WD.pure (NoPanic.then (NoPanic.block (NoPanic.then (NoPanic.then (NoPanic.block (NoPanic.then hN)))))) 27 49 (.bool (e24.2 == e52.2)) (by kernel_rfl) (fun _ => by kernel_rfl) hS47 ?_
        refine WD.test_at 49 (e24.2 == e52.2) rfl (fun t63b => ?_) (fun t63b => ?_)
        · -- e24.2 = e52.2: true
          have t63 : e24.2 = e52.2 := by simpa using t63b
          refine WD.pure (NoPanic.then (NoPanic.block (NoPanic.then (NoPanic.then (NoPanic.block (NoPanic.then hN)))))) 28 50 (.pointer (some ⟨g29, 0, none⟩)) (by kernel_rfl) (fun _ => by kernel_rfl) hS47 ?_
          refine WD.pure (NoPanic.then (NoPanic.block (NoPanic.then (NoPanic.then (NoPanic.block (NoPanic.then hN)))))) 30 52 (.pointer (some ⟨p, 0, none⟩)) (by kernel_rfl) (fun _ => by kernel_rfl) hS47 ?_
          refine WD.pure (NoPanic.then (NoPanic.block (NoPanic.then (NoPanic.then (NoPanic.block (NoPanic.then hN)))))) 31 53 (.pointer (some ⟨p, 0, none⟩)) (by kernel_rfl) (fun _ => by kernel_rfl) hS47 ?_
          refine WD.pure (NoPanic.then (NoPanic.block (NoPanic.then (NoPanic.then (NoPanic.block (NoPanic.then hN)))))) 32 54 (.pointer (some ⟨p, 0, none⟩)) (by kernel_rfl) (fun _ => by kernel_rfl) hS47 ?_
          refine WD.pure (NoPanic.then (NoPanic.block (NoPanic.then (NoPanic.then (NoPanic.block (NoPanic.then hN)))))) 34 56 (.int .i64 ((b : Int) - 1)) (by kernel_rfl) (fun _ => by kernel_rfl) hS47 ?_
          refine WD.load (NoPanic.then (NoPanic.block (NoPanic.then (NoPanic.then (NoPanic.block (NoPanic.then hN)))))) 29 3 (.pointer (some ⟨g29, 0, none⟩)) (.int .i64 e24.1) 51 (by kernel_rfl) (by kernel_rfl) (fun _ hS_ => run_ld (Fr.has hS_ (hC46.get 1 rfl) (by simp)) rfl) hS47 ?_
          refine WD.load (NoPanic.then (NoPanic.block (NoPanic.then (NoPanic.then (NoPanic.block (NoPanic.then hN)))))) 33 47 (.pointer (some ⟨p, 0, none⟩)) (.slice A1 m.length c1) 55 (by kernel_rfl) (by kernel_rfl) (fun _ hS_ => run_ld (Fr.has hS_ (hC46.get 0 rfl) (by simp)) rfl) hS47 ?_
          refine WD.index (NoPanic.then (NoPanic.block (NoPanic.then (NoPanic.then (NoPanic.block (NoPanic.then hN)))))) 35 A1 m.length c1 57 .i64 ((b : Int) - 1) b54 0 (((b : Int) - 1).toNat) 2 (by kernel_rfl) (by kernel_rfl) hA55 (by omega) (by omega) ((((b : Int) - 1).toNat) * 2) (by first | (simp; done) | omega) hS47 ?_
          refine WD.pure (NoPanic.then (NoPanic.block (NoPanic.then (NoPanic.then (NoPanic.block (NoPanic.then hN)))))) 36 58 (.pointer (some ⟨b54, (((b : Int) - 1).toNat) * 2, none⟩)) (by kernel_rfl) (fun _ => by kernel_rfl) hS47 ?_
          refine WD.load (NoPanic.then (NoPanic.block (NoPanic.then (NoPanic.then (NoPanic.block (NoPanic.then hN)))))) 37 3 (.pointer (some ⟨b54, (((b : Int) - 1).toNat) * 2, none⟩)) (.int .i64 e52.1) 59 (by kernel_rfl) (by kernel_rfl) (fun _ hS_ => run_load1 rfl (by simpa [Nat.add_assoc] using Rd.cell (own_rd (own_fr ho48 hS_ (by simp)) tmC_len (by decide)) hA55 he53 0 _ rfl)) hS47 ?_
          refine WD.pure (NoPanic.then (NoPanic.block (NoPanic.then (NoPanic.then (NoPanic.block (NoPanic.then hN)))))) 38 60 (.bool (decide (e24.1 < e52.1))) (by kernel_rfl) (fun _ => by kernel_rfl) hS47 ?_
          refine WD.pure (NoPanic.then (NoPanic.block (NoPanic.then (NoPanic.then (NoPanic.block (NoPanic.then hN)))))) 39 61 (.bool (decide (e24.1 < e52.1))) (by kernel_rfl) (fun _ => by kernel_rfl) hS47 ?_
          refine WD.pure (NoPanic.then (NoPanic.block (NoPanic.then (NoPanic.then (NoPanic.block (NoPanic.then hN)))))) 40 62 (.bool (decide (e24.1 < e52.1))) (by kernel_rfl) (fun _ => by kernel_rfl) hS47 ?_
          refine WD.done (by kernel_rfl) ?_
          refine QX.then_normal (hK43 _ _ ?_)
          refine WC.test_at 62 (decide (e24.1 < e52.1)) rfl (fun t68b => ?_) (fun t68b => ?_)
          · -- e24.1 < e52.1: true
            have t68 : e24.1 < e52.1 := by have q_ := of_decide_eq_true t68b; omega
            refine WC.cond_true rfl ?_
            refine WC.region ?_
            refine WL.runs 2 [(3, .int .i64 (i : Int)), (63, .int .i64 (i : Int))] (fun _ => by kernel_rfl) ?_
            refine WL.recast (show (.int .i64 (i : Int) : Value) = .int .i64 (((i + 1 : Nat) : Int) - 1) from congrArg (Value.int .i64) (by omega)) ?_
            refine WL.done rfl ?_
            refine QX.block_normal ?_
            refine QX.then_normal (hK21 _ _ ?_)
            refine WC.region ?_
            refine WL.runs 2 [(14, .int .i64 (IntKind.i64.wrap ((i : Int) + 1))), (13, .int .i64 (i : Int))] (fun _ => by kernel_rfl) ?_
            refine WL.recast (show (.int .i64 (IntKind.i64.wrap ((i : Int) + 1)) : Value) = .int .i64 ((i : Int) + 1) from by rw [wrap_in_i64 ((i : Int) + 1) (by omega) (by omega)]) ?_
            refine WL.runs 1 [(4, .int .i64 ((i : Int) + 1))] (fun _ => by kernel_rfl) ?_
            refine WL.done rfl ?_
            refine QX.then_normal ?_
            have hC69 := hC46.pick [0] [0] rfl rfl
            refine fun a_ ha_ => hK10 _ _ _ ?_ ⟨i + 1, i + 1, rfl, rfl, hC69, ho48, hf49, by omega, first_new hfb he25 (.inr ⟨_, (show m[b - 1]? = some _ from by have z_ := he53; rw [show ((b : Int) - 1).toNat = b - 1 from by omega] at z_; exact z_), by unfold ltT; omega⟩), by omega⟩ a_ (ha_.weaken (sub_of ⟨rfl, rfl, rfl, rfl, trivial⟩))
            omega
          · -- e24.1 < e52.1: false
            have t68 : e52.1 ≤ e24.1 := by have q_ := of_decide_eq_false t68b; omega
            refine WC.cond_false rfl ?_
            refine WC.skip ?_
            refine QX.block_normal ?_
            refine QX.then_normal (hK21 _ _ ?_)
            refine WC.region ?_
            refine WL.runs 2 [(14, .int .i64 (IntKind.i64.wrap ((i : Int) + 1))), (13, .int .i64 (i : Int))] (fun _ => by kernel_rfl) ?_
            refine WL.recast (show (.int .i64 (IntKind.i64.wrap ((i : Int) + 1)) : Value) = .int .i64 ((i : Int) + 1) from by rw [wrap_in_i64 ((i : Int) + 1) (by omega) (by omega)]) ?_
            refine WL.runs 1 [(4, .int .i64 ((i : Int) + 1))] (fun _ => by kernel_rfl) ?_
            refine WL.done rfl ?_
            refine QX.then_normal ?_
            have hC70 := hC46.pick [0] [0] rfl rfl
            refine fun a_ ha_ => hK10 _ _ _ ?_ ⟨i + 1, b, rfl, rfl, hC70, ho48, hf49, by omega, first_old hfb he25 (by omega) (show m[b - 1]? = some _ from by have z_ := he53; rw [show ((b : Int) - 1).toNat = b - 1 from by omega] at z_; exact z_) (by unfold ltT; omega), by omega⟩ a_ (ha_.weaken (sub_of ⟨rfl, rfl, rfl, rfl, trivial⟩))
            omega
        · -- e24.2 = e52.2: false
          have t63 : ¬ (e24.2 = e52.2) := by simpa using t63b
          refine WD.pure (NoPanic.then (NoPanic.block (NoPanic.then (NoPanic.then (NoPanic.block (NoPanic.then hN)))))) 28 50 (undef) (by kernel_rfl) (fun _ => by kernel_rfl) hS47 ?_
          refine WD.pure (NoPanic.then (NoPanic.block (NoPanic.then (NoPanic.then (NoPanic.block (NoPanic.then hN)))))) 29 51 (undef) (by kernel_rfl) (fun _ => by kernel_rfl) hS47 ?_
          refine WD.pure (NoPanic.then (NoPanic.block (NoPanic.then (NoPanic.then (NoPanic.block (NoPanic.then hN)))))) 30 52 (undef) (by kernel_rfl) (fun _ => by kernel_rfl) hS47 ?_
          refine WD.pure (NoPanic.then (NoPanic.block (NoPanic.then (NoPanic.then (NoPanic.block (NoPanic.then hN)))))) 31 53 (undef) (by kernel_rfl) (fun _ => by kernel_rfl) hS47 ?_
          refine WD.pure (NoPanic.then (NoPanic.block (NoPanic.then (NoPanic.then (NoPanic.block (NoPanic.then hN)))))) 32 54 (undef) (by kernel_rfl) (fun _ => by kernel_rfl) hS47 ?_
          refine WD.pure (NoPanic.then (NoPanic.block (NoPanic.then (NoPanic.then (NoPanic.block (NoPanic.then hN)))))) 33 55 (undef) (by kernel_rfl) (fun _ => by kernel_rfl) hS47 ?_
          refine WD.pure (NoPanic.then (NoPanic.block (NoPanic.then (NoPanic.then (NoPanic.block (NoPanic.then hN)))))) 34 56 (undef) (by kernel_rfl) (fun _ => by kernel_rfl) hS47 ?_
          refine WD.pure (NoPanic.then (NoPanic.block (NoPanic.then (NoPanic.then (NoPanic.block (NoPanic.then hN)))))) 35 57 (undef) (by kernel_rfl) (fun _ => by kernel_rfl) hS47 ?_
          refine WD.pure (NoPanic.then (NoPanic.block (NoPanic.then (NoPanic.then (NoPanic.block (NoPanic.then hN)))))) 36 58 (undef) (by kernel_rfl) (fun _ => by kernel_rfl) hS47 ?_
          refine WD.pure (NoPanic.then (NoPanic.block (NoPanic.then (NoPanic.then (NoPanic.block (NoPanic.then hN)))))) 37 59 (undef) (by kernel_rfl) (fun _ => by kernel_rfl) hS47 ?_
          refine WD.pure (NoPanic.then (NoPanic.block (NoPanic.then (NoPanic.then (NoPanic.block (NoPanic.then hN)))))) 38 60 (undef) (by kernel_rfl) (fun _ => by kernel_rfl) hS47 ?_
          refine WD.pure (NoPanic.then (NoPanic.block (NoPanic.then (NoPanic.then (NoPanic.block (NoPanic.then hN)))))) 39 61 (.bool false) (by kernel_rfl) (fun _ => by kernel_rfl) hS47 ?_
          refine WD.pure (NoPanic.then (NoPanic.block (NoPanic.then (NoPanic.then (NoPanic.block (NoPanic.then hN)))))) 40 62 (.bool false) (by kernel_rfl) (fun _ => by kernel_rfl) hS47 ?_
          refine WD.done (by kernel_rfl) ?_
          refine QX.then_normal (hK43 _ _ ?_)
          refine WC.cond_false rfl ?_
          refine WC.skip ?_
          refine QX.block_normal ?_
          refine QX.then_normal (hK21 _ _ ?_)
          refine WC.region ?_
          refine WL.runs 2 [(14, .int .i64 (IntKind.i64.wrap ((i : Int) + 1))), (13, .int .i64 (i : Int))] (fun _ => by kernel_rfl) ?_
          refine WL.recast (show (.int .i64 (IntKind.i64.wrap ((i : Int) + 1)) : Value) = .int .i64 ((i : Int) + 1) from by rw [wrap_in_i64 ((i : Int) + 1) (by omega) (by omega)]) ?_
          refine WL.runs 1 [(4, .int .i64 ((i : Int) + 1))] (fun _ => by kernel_rfl) ?_
          refine WL.done rfl ?_
          refine QX.then_normal ?_
          have hC71 := hC46.pick [0] [0] rfl rfl
          refine fun a_ ha_ => hK10 _ _ _ ?_ ⟨i + 1, b, rfl, rfl, hC71, ho48, hf49, by omega, first_old hfb he25 (by omega) (show m[b - 1]? = some _ from by have z_ := he53; rw [show ((b : Int) - 1).toNat = b - 1 from by omega] at z_; exact z_) (by unfold ltT; omega), by omega⟩ a_ (ha_.weaken (sub_of ⟨rfl, rfl, rfl, rfl, trivial⟩))
          omega
  · -- (i : Int) < (m.length : Int): false
    have t19 : (m.length : Int) ≤ (i : Int) := by have q_ := of_decide_eq_false t19b; omega
    refine WC.cond_false rfl ?_
    refine WC.exit ?_
    refine QX.then_exit ?_
    refine QX.then_exit ?_
    refine QX.block_hit ?_
    refine QX.then_normal (hK6 _ _ ?_)
    refine WC.seq (fun K72 hK73 => ?_)
    refine WC.region ?_
    refine WL.runs 2 [(2, .int .i64 ((b : Int) - 1)), (64, .int .i64 ((b : Int) - 1))] (fun _ => by kernel_rfl) ?_
    refine WL.done rfl ?_
    refine QX.then_normal (hK73 _ _ ?_)
    refine WC.ret ?_
    refine (hret _ _ _ rfl ?_).1
    clear hN hret hret' hK73 hK18 hK16 hK8 hK6 hK4 hK2
    exact ⟨b, rfl, first_end hfb (by omega) hi, by omega, hC14.fr.shrink (by intro x hx; rcases List.mem_cons.1 hx with rfl | hx; exact (hC14.get 0 rfl).trans hp_.symm; exact (same_m12 x hx).2)⟩

theorem RNext_ct (F : List Nat) (p : Nat) (m : List (Int × Int))  (w : World) (ht : rfAt w F p m) : Calls Try.prog 24 #[.pointer (some ⟨p, 0, none⟩)] w fun e w' => e = .returned (.tuple #[.int .i64 (nextL m), .bool (!m.isEmpty)]) ∧ Fr w w' [] := by
  refine enterD (n := 17) Try.func24 rfl rfl (Nat.le_of_ble_eq_true rfl) ?_
  intro Q0 hN hret hret'
  have ht0 := ht
  obtain ⟨A1, c1, hp_, ho_, rfl, hn_⟩ := ht
  have hC := Cx.openR hp_ (own_lt ho_) hn_
  have hmx_ := own_max ho_
  refine WC.seq (fun K1 hK2 => ?_)
  refine WC.region ?_
  refine WL.runs 2 [(3, .bool false), (2, .int .i64 0)] (fun _ => by kernel_rfl) ?_
  refine WL.done rfl ?_
  refine QX.then_normal (hK2 _ _ ?_)
  refine WC.seq (fun K3 hK4 => ?_)
  refine WC.region ?_
  refine WL.runs 1 [(5, .pointer (some ⟨p, 0, none⟩))] (fun _ => by kernel_rfl) ?_
  refine WL.call rfl rfl rfl rfl rfl (by kernel_rfl) (first_ct _ p m w (rf_mk hC 0 0 rfl rfl ho_)) ?_
  rintro _ w9 ⟨b5, rfl, hfi6, hbl7, hF8⟩
  refine ⟨_, rfl, ?_⟩
  have hC10 := hC.call hF8
  have ho11 := own_fr ho_ hF8 (by simp)
  have hf12 := (Fr.refl w []).trans hF8 (by simp)
  refine WL.runs 1 [(4, .int .i64 ((b5 : Int) - 1))] (fun _ => by kernel_rfl) ?_
  refine WL.done rfl ?_
  refine QX.then_normal (hK4 _ _ ?_)
  refine WC.seq (fun K13 hK14 => ?_)
  refine WC.seq (fun K15 hK16 => ?_)
  refine WC.region ?_
  refine WL.runs 2 [(8, .bool (decide (((b5 : Int) - 1) < 0))), (7, .int .i64 ((b5 : Int) - 1))] (fun _ => by kernel_rfl) ?_
  refine WL.done rfl ?_
  refine QX.then_normal (hK16 _ _ ?_)
  refine WC.test_at 8 (decide (((b5 : Int) - 1) < 0)) rfl (fun t17b => ?_) (fun t17b => ?_)
  · -- ((b5 : Int) - 1) < 0: true
    have t17 : ((b5 : Int) - 1) < 0 := by have q_ := of_decide_eq_true t17b; omega
    refine WC.cond_true rfl ?_
    refine WC.seq (fun K18 hK19 => ?_)
    refine WC.region ?_
    refine WL.runs 2 [(3, .bool false), (2, .int .i64 0)] (fun _ => by kernel_rfl) ?_
    refine WL.done rfl ?_
    refine QX.then_normal (hK19 _ _ ?_)
    refine WC.ret ?_
    refine QX.then_ret ?_
    refine (hret _ _ _ rfl ?_).1
    clear hN hret hret' hK19 hK16 hK14 hK4 hK2
    rcases hfi6 with ⟨_, hme_⟩ | ⟨hb_, _⟩
    · subst hme_; exact ⟨rfl, hf12⟩
    · exfalso; omega
  · -- ((b5 : Int) - 1) < 0: false
    have t17 : (0 : Int) ≤ ((b5 : Int) - 1) := by have q_ := of_decide_eq_false t17b; omega
    refine WC.cond_false rfl ?_
    refine WC.skip ?_
    refine QX.then_normal (hK14 _ _ ?_)
    refine WC.seq (fun K20 hK21 => ?_)
    refine WC.region ?_
    refine WL.runs 3 [(11, .pointer (some ⟨p, 0, none⟩)), (10, .pointer (some ⟨p, 0, none⟩)), (9, .pointer (some ⟨p, 0, none⟩))] (fun _ => by kernel_rfl) ?_
    refine WL.load 47 (.pointer (some ⟨p, 0, none⟩)) (.slice A1 m.length c1) 12 (by kernel_rfl) (run_ld (hC10.get 0 rfl) rfl) ?_
    refine WL.runs 1 [(13, .int .i64 ((b5 : Int) - 1))] (fun _ => by kernel_rfl) ?_
    have hn26 := own_count tmC_len (by decide) ho11
    obtain ⟨e22, he23⟩ := get_some (xs := m) (i := ((b5 : Int) - 1).toNat) (by omega)
    obtain ⟨b24, hA25⟩ := own_addr (by decide) tmC_len ho11 he23
    refine WL.index A1 m.length c1 14 .i64 ((b5 : Int) - 1) b24 0 (((b5 : Int) - 1).toNat) 2 (by kernel_rfl) hA25 (by omega) (by omega) ((((b5 : Int) - 1).toNat) * 2) (by first | (simp; done) | omega) ?_
    refine WL.runs 1 [(15, .pointer (some ⟨b24, (((b5 : Int) - 1).toNat) * 2 + 1, none⟩))] (fun _ => by kernel_rfl) ?_
    refine WL.load 3 (.pointer (some ⟨b24, (((b5 : Int) - 1).toNat) * 2 + 1, none⟩)) (.int .i64 e22.2) 16 (by kernel_rfl) (run_load1 rfl (by simpa [Nat.add_assoc] using Rd.cell (own_rd ho11 tmC_len (by decide)) hA25 he23 1 _ rfl)) ?_
    refine WL.runs 2 [(3, .bool true), (2, .int .i64 e22.2)] (fun _ => by kernel_rfl) ?_
    refine WL.done rfl ?_
    refine QX.then_normal (hK21 _ _ ?_)
    refine WC.ret ?_
    refine (hret _ _ _ rfl ?_).1
    clear hN hret hret' hK21 hK16 hK14 hK4 hK2
    obtain ⟨hq1_, hq2_⟩ := FirstI.next hfi6 (by omega) (show _[b5 - 1]? = some _ from by have z_ := he23; rw [show ((b5 : Int) - 1).toNat = b5 - 1 from by omega] at z_; exact z_)
    exact ⟨by rw [← hq1_, hq2_]; rfl, hf12⟩

theorem canL_len0 {m : List (Int × Int)} {k : Int} : (delL m k).length ≤ m.length := canL_len k
set_option maxHeartbeats 2000000 in
theorem RCancel_ct (F : List Nat) (p : Nat) (m : List (Int × Int)) (A : Option Addr) (c : Nat) (ks : List Int) (w : World) (ht : rfAt w F p m) (hnd : (m.map (·.1)).Nodup) (hml : m.length ≤ 1099511627776) (hks : Rd w 1 (Go.Tw.encI .i64) A ks) (hkl : ks.length ≤ 1099511627776) (hAF : ∀ b off, A = some ⟨b, off, none⟩ → ks ≠ [] → b ∉ F) : Calls Try.prog 20 #[.pointer (some ⟨p, 0, none⟩), .slice A ks.length c] w fun e w' => ∃ F2, e = .returned (.int .i64 (canN m ks : Int)) ∧ Fr w w' F ∧ rfAt w' F2 p (canL m ks) ∧ ∀ x ∈ F2, x ∈ F ∨ w.heap.size ≤ x := by
  refine enterD (n := 54) Try.func20 rfl rfl (Nat.le_of_ble_eq_true rfl) ?_
  intro Q0 hN hret hret'
  have ht0 := ht
  obtain ⟨A1, c1, hp_, ho_, rfl, hn_⟩ := ht
  have hC := Cx.openR hp_ (own_lt ho_) hn_
  have hmx_ := own_max ho_
  refine WC.seq (fun K1 hK2 => ?_)
  refine WC.region ?_
  refine WL.runs 1 [(4, .int .i64 0)] (fun _ => by kernel_rfl) ?_
  refine WL.done rfl ?_
  refine QX.then_normal (hK2 _ _ ?_)
  refine WC.seq (fun K3 hK4 => ?_)
  refine WC.region ?_
  refine WL.runs 1 [(5, .int .i64 0)] (fun _ => by kernel_rfl) ?_
  refine WL.done rfl ?_
  refine QX.then_normal (hK4 _ _ ?_)
  refine WC.seq (fun K5 hK6 => ?_)
  refine WC.seq (fun K7 hK8 => ?_)
  refine WC.region ?_
  refine WL.runs 1 [(6, .int .i64 0)] (fun _ => by kernel_rfl) ?_
  refine WL.done rfl ?_
  refine QX.then_normal (hK8 _ _ ?_)
  refine WC.block ?_
  refine WC.loop (fun m_ E_ w_ => ∃ (i : Nat) (A5 : Option Addr) (n5 c5 : Nat) (m5 : List (Int × Int)) (cnt : Nat), m_ = ks.length - i ∧ E_ = [(0, .pointer (some ⟨p, 0, none⟩)), (1, .slice A ks.length c), (4, .int .i64 0), (5, .int .i64 (cnt : Int)), (6, .int .i64 (i : Int))] ∧ Cx w (p :: blk (.slice A1 m.length c1)) w_ [(p, .cells #[.slice A5 n5 c5] 49)] [blk (.slice A5 n5 c5)] ∧ World.ownsRow w_ 0 75 2 (.slice A5 n5 c5) n5 (m5.flatMap tmC) ∧ (i ≤ ks.length ∧ (m5.map (·.1)).Nodup ∧ canL m ks = canL m5 (ks.drop i) ∧ canN m ks = cnt + canN m5 (ks.drop i) ∧ cnt ≤ i ∧ m5.length ≤ m.length)) ⟨_, _, ⟨0, A1, m.length, c1, m, 0, rfl, rfl, hC, ho_, Nat.zero_le _, hnd, rfl, by simp, Nat.le_refl _, Nat.le_refl _⟩, sub_of ⟨rfl, rfl, rfl, rfl, rfl, trivial⟩⟩ (fun m12 E_ w13 K9 hK10 hI11 => ?_)
  obtain ⟨i, A5, n5, c5, m5, cnt, rfl, rfl, hC14, hrow5, hi, hnd5, hcl, hcn, hcnt, hml5⟩ := hI11
  have hc5_ := own_count tmC_len (by decide) hrow5
  refine WC.seq (fun K15 hK16 => ?_)
  refine WC.seq (fun K17 hK18 => ?_)
  refine WC.region ?_
  refine WL.runs 4 [(12, .bool (decide ((i : Int) < (ks.length : Int)))), (11, .int .i64 (ks.length : Int)), (10, .slice A ks.length c), (9, .int .i64 (i : Int))] (fun _ => by kernel_rfl) ?_
  refine WL.done rfl ?_
  refine QX.then_normal (hK18 _ _ ?_)
  refine WC.test_at 12 (decide ((i : Int) < (ks.length : Int))) rfl (fun t19b => ?_) (fun t19b => ?_)
  · -- (i : Int) < (ks.length : Int): true
    have t19 : (i : Int) < (ks.length : Int) := by have q_ := of_decide_eq_true t19b; omega
    refine WC.cond_true rfl ?_
    refine WC.skip ?_
    refine QX.then_normal (hK16 _ _ ?_)
    refine WC.seq (fun K20 hK21 => ?_)
    refine WC.block ?_
    refine WC.seq (fun K22 hK23 => ?_)
    refine WC.region ?_
    refine WL.runs 1 [(7, .slice none 0 0)] (fun _ => by kernel_rfl) ?_
    refine WL.done rfl ?_
    refine QX.then_normal (hK23 _ _ ?_)
    refine WC.seq (fun K24 hK25 => ?_)
    refine WC.seq (fun K26 hK27 => ?_)
    refine WC.region ?_
    refine WL.runs 1 [(8, .int .i64 0)] (fun _ => by kernel_rfl) ?_
    refine WL.done rfl ?_
    refine QX.then_normal (hK27 _ _ ?_)
    refine WC.block ?_
    have hC28 := hC14.addNil
    obtain ⟨ke_, hke_⟩ := get_some (xs := ks) (i := i) (by omega)
    refine WC.loop (fun m_ E_ w_ => ∃ (j : Nat) (A6 : Option Addr) (n6 c6 cnt6 : Nat), m_ = m5.length - j ∧ E_ = [(0, .pointer (some ⟨p, 0, none⟩)), (1, .slice A ks.length c), (4, .int .i64 0), (5, .int .i64 (cnt6 : Int)), (6, .int .i64 (i : Int)), (7, .slice A6 n6 c6), (8, .int .i64 (j : Int))] ∧ Cx w (p :: blk (.slice A1 m.length c1)) w_ [(p, .cells #[.slice A5 n5 c5] 49)] [blk (.slice A5 n5 c5), blk (.slice A6 n6 c6)] ∧ World.ownsRow w_ 0 75 2 (.slice A5 n5 c5) n5 (m5.flatMap tmC) ∧ World.ownsRow w_ 0 75 2 (.slice A6 n6 c6) n6 ((outK ke_ (m5.take j)).flatMap tmC) ∧ (j ≤ m5.length ∧ cnt6 = cnt + cntK ke_ (m5.take j))) ⟨_, _, ⟨0, none, 0, 0, cnt, rfl, rfl, hC28, hrow5, own_nil _ _ _ _, Nat.zero_le _, rfl⟩, sub_of ⟨rfl, rfl, rfl, rfl, rfl, rfl, rfl, trivial⟩⟩ (fun m32 E_ w33 K29 hK30 hI31 => ?_)
    obtain ⟨j, A6, n6, c6, cnt6, rfl, rfl, hC34, row_m32, hleft6, hj, hct6⟩ := hI31
    have hc6_ := own_count tmC_len (by decide) hleft6
    have hol_ : (outK ke_ (m5.take j)).length ≤ j := Nat.le_trans (List.length_filter_le _ _) (by rw [List.length_take]; omega)
    have hcb_ : cntK ke_ (m5.take j) ≤ j := Nat.le_trans (List.length_filter_le _ _) (by rw [List.length_take]; omega)
    refine WC.seq (fun K35 hK36 => ?_)
    refine WC.seq (fun K37 hK38 => ?_)
    refine WC.region ?_
    refine WL.runs 4 [(18, .pointer (some ⟨p, 0, none⟩)), (17, .pointer (some ⟨p, 0, none⟩)), (16, .pointer (some ⟨p, 0, none⟩)), (15, .int .i64 (j : Int))] (fun _ => by kernel_rfl) ?_
    refine WL.load 47 (.pointer (some ⟨p, 0, none⟩)) (.slice A5 n5 c5) 19 (by kernel_rfl) (run_ld (hC34.get 0 rfl) rfl) ?_
    refine WL.runs 2 [(21, .bool (decide ((j : Int) < (n5 : Int)))), (20, .int .i64 (n5 : Int))] (fun _ => by kernel_rfl) ?_
    refine WL.done rfl ?_
    refine QX.then_normal (hK38 _ _ ?_)
    refine WC.test_at 21 (decide ((j : Int) < (n5 : Int))) rfl (fun t39b => ?_) (fun t39b => ?_)
    · -- (j : Int) < (n5 : Int): true
      have t39 : (j : Int) < (n5 : Int) := by have q_ := of_decide_eq_true t39b; omega
      refine WC.cond_true rfl ?_
      refine WC.skip ?_
      refine QX.then_normal (hK36 _ _ ?_)
      refine WC.seq (fun K40 hK41 => ?_)
      refine WC.block ?_
      refine WC.seq (fun K42 hK43 => ?_)
      refine WC.drawC hC34 [] (by kernel_rfl) (fun w44 hF45 hC46 hS47 => ?_)
      have ho48 := own_fr row_m32 hF45 (by simp)
      have ho49 := own_fr hleft6 hF45 (by simp)
      refine WD.pure (NoPanic.then (NoPanic.block (NoPanic.then (NoPanic.then (NoPanic.block (NoPanic.then (NoPanic.block (NoPanic.then (NoPanic.then (NoPanic.block (NoPanic.then hN))))))))))) 0 24 (.pointer (some ⟨p, 0, none⟩)) (by kernel_rfl) (fun _ => by kernel_rfl) hS47 ?_
      refine WD.pure (NoPanic.then (NoPanic.block (NoPanic.then (NoPanic.then (NoPanic.block (NoPanic.then (NoPanic.block (NoPanic.then (NoPanic.then (NoPanic.block (NoPanic.then hN))))))))))) 1 25 (.pointer (some ⟨p, 0, none⟩)) (by kernel_rfl) (fun _ => by kernel_rfl) hS47 ?_
      refine WD.pure (NoPanic.then (NoPanic.block (NoPanic.then (NoPanic.then (NoPanic.block (NoPanic.then (NoPanic.block (NoPanic.then (NoPanic.then (NoPanic.block (NoPanic.then hN))))))))))) 2 26 (.pointer (some ⟨p, 0, none⟩)) (by kernel_rfl) (fun _ => by kernel_rfl) hS47 ?_
      refine WD.pure (NoPanic.then (NoPanic.block (NoPanic.then (NoPanic.then (NoPanic.block (NoPanic.then (NoPanic.block (NoPanic.then (NoPanic.then (NoPanic.block (NoPanic.then hN))))))))))) 4 28 (.int .i64 (j : Int)) (by kernel_rfl) (fun _ => by kernel_rfl) hS47 ?_
      refine WD.pure (NoPanic.then (NoPanic.block (NoPanic.then (NoPanic.then (NoPanic.block (NoPanic.then (NoPanic.block (NoPanic.then (NoPanic.then (NoPanic.block (NoPanic.then hN))))))))))) 8 32 (.slice A ks.length c) (by kernel_rfl) (fun _ => by kernel_rfl) hS47 ?_
      refine WD.pure (NoPanic.then (NoPanic.block (NoPanic.then (NoPanic.then (NoPanic.block (NoPanic.then (NoPanic.block (NoPanic.then (NoPanic.then (NoPanic.block (NoPanic.then hN))))))))))) 9 33 (.int .i64 (i : Int)) (by kernel_rfl) (fun _ => by kernel_rfl) hS47 ?_
      obtain ⟨e50, he51⟩ := get_some (xs := ks) (i := i) (by omega)
      obtain ⟨b52, o54, hA53, hc55⟩ := hks.at_ _ _ he51
      refine WD.index (NoPanic.then (NoPanic.block (NoPanic.then (NoPanic.then (NoPanic.block (NoPanic.then (NoPanic.block (NoPanic.then (NoPanic.then (NoPanic.block (NoPanic.then hN))))))))))) 10 A ks.length c 34 .i64 (i : Int) b52 o54 i 1 (by kernel_rfl) (by kernel_rfl) hA53 (by omega) (by omega) (o54 + i) (by first | (simp; done) | omega) hS47 ?_
      refine WD.load (NoPanic.then (NoPanic.block (NoPanic.then (NoPanic.then (NoPanic.block (NoPanic.then (NoPanic.block (NoPanic.then (NoPanic.then (NoPanic.block (NoPanic.then hN))))))))))) 3 47 (.pointer (some ⟨p, 0, none⟩)) (.slice A5 n5 c5) 27 (by kernel_rfl) (by kernel_rfl) (fun _ hS_ => run_ld (Fr.has hS_ (hC46.get 0 rfl) (by simp)) rfl) hS47 ?_
      have hn60 := own_count tmC_len (by decide) ho48
      obtain ⟨e56, he57⟩ := get_some (xs := m5) (i := j) (by omega)
      obtain ⟨b58, hA59⟩ := own_addr (by decide) tmC_len ho48 he57
      refine WD.index (NoPanic.then (NoPanic.block (NoPanic.then (NoPanic.then (NoPanic.block (NoPanic.then (NoPanic.block (NoPanic.then (NoPanic.then (NoPanic.block (NoPanic.then hN))))))))))) 5 A5 n5 c5 29 .i64 (j : Int) b58 0 j 2 (by kernel_rfl) (by kernel_rfl) hA59 (by omega) (by omega) (j * 2) (by first | (simp; done) | omega) hS47 ?_
      refine WD.pure (NoPanic.then (NoPanic.block (NoPanic.then (NoPanic.then (NoPanic.block (NoPanic.then (NoPanic.block (NoPanic.then (NoPanic.then (NoPanic.block (NoPanic.then hN))))))))))) 6 30 (.pointer (some ⟨b58, j * 2, none⟩)) (by kernel_rfl) (fun _ => by kernel_rfl) hS47 ?_
      refine WD.load (NoPanic.then (NoPanic.block (NoPanic.then (NoPanic.then (NoPanic.block (NoPanic.then (NoPanic.block (NoPanic.then (NoPanic.then (NoPanic.block (NoPanic.then hN))))))))))) 7 3 (.pointer (some ⟨b58, j * 2, none⟩)) (.int .i64 e56.1) 31 (by kernel_rfl) (by kernel_rfl) (fun _ hS_ => run_load1 rfl (by simpa [Nat.add_assoc] using Rd.cell (own_rd (own_fr ho48 hS_ (by simp)) tmC_len (by decide)) hA59 he57 0 _ rfl)) hS47 ?_
      refine WD.load (NoPanic.then (NoPanic.block (NoPanic.then (NoPanic.then (NoPanic.block (NoPanic.then (NoPanic.block (NoPanic.then (NoPanic.then (NoPanic.block (NoPanic.then hN))))))))))) 11 3 (.pointer (some ⟨b52, o54 + i, none⟩)) (.int .i64 e50) 35 (by kernel_rfl) (by kernel_rfl) (fun _ hS_ => run_load1 rfl (by simpa [Nat.add_assoc] using Fr.cell hS_ (hC46.fr.cell (hc55 0 _ rfl) (by have q_ := hAF _ _ hA53 (ne_of_get he51); simp only [List.mem_cons, not_or] at q_ ⊢; exact q_)) (by simp))) hS47 ?_
      refine WD.pure (NoPanic.then (NoPanic.block (NoPanic.then (NoPanic.then (NoPanic.block (NoPanic.then (NoPanic.block (NoPanic.then (NoPanic.then (NoPanic.block (NoPanic.then hN))))))))))) 12 36 (.bool (e56.1 == e50)) (by kernel_rfl) (fun _ => by kernel_rfl) hS47 ?_
      refine WD.done (by kernel_rfl) ?_
      refine QX.then_normal (hK43 _ _ ?_)
      refine WC.test_at 36 (e56.1 == e50) rfl (fun t61b => ?_) (fun t61b => ?_)
      · -- e56.1 = e50: true
        have t61 : e56.1 = e50 := by simpa using t61b
        refine WC.cond_true rfl ?_
        refine WC.region ?_
        refine WL.runs 2 [(38, .int .i64 (IntKind.i64.wrap ((cnt6 : Int) + 1))), (37, .int .i64 (cnt6 : Int))] (fun _ => by kernel_rfl) ?_
        refine WL.recast (show (.int .i64 (IntKind.i64.wrap ((cnt6 : Int) + 1)) : Value) = .int .i64 ((cnt6 : Int) + 1) from by rw [wrap_in_i64 ((cnt6 : Int) + 1) (by omega) (by omega)]) ?_
        refine WL.runs 1 [(5, .int .i64 ((cnt6 : Int) + 1))] (fun _ => by kernel_rfl) ?_
        refine WL.done rfl ?_
        refine QX.block_normal ?_
        refine QX.then_normal (hK41 _ _ ?_)
        refine WC.region ?_
        refine WL.runs 2 [(23, .int .i64 (IntKind.i64.wrap ((j : Int) + 1))), (22, .int .i64 (j : Int))] (fun _ => by kernel_rfl) ?_
        refine WL.recast (show (.int .i64 (IntKind.i64.wrap ((j : Int) + 1)) : Value) = .int .i64 ((j : Int) + 1) from by rw [wrap_in_i64 ((j : Int) + 1) (by omega) (by omega)]) ?_
        refine WL.runs 1 [(8, .int .i64 ((j : Int) + 1))] (fun _ => by kernel_rfl) ?_
        refine WL.done rfl ?_
        refine QX.then_normal ?_
        have hC62 := hC46.pick [0] [0, 1] rfl rfl
        have hkk_ := Option.some.inj (he51.symm.trans hke_)
        have hek_ : eqK ke_ e56 = true := by unfold eqK; rw [← hkk_]; simpa using t61b
        refine fun a_ ha_ => hK30 _ _ _ ?_ ⟨j + 1, A6, n6, c6, cnt6 + 1, rfl, rfl, hC62, ho48, (by have z_ := ho49; rw [outK_snoc he57, hek_]; simpa using z_), by omega, by have z_ := cntK_snoc (k := ke_) he57; rw [hek_] at z_; simp only [if_true, Bool.false_eq_true, if_false] at z_; omega⟩ a_ (ha_.weaken (sub_of ⟨rfl, rfl, rfl, rfl, rfl, rfl, rfl, trivial⟩))
        omega
      · -- e56.1 = e50: false
        have t61 : ¬ (e56.1 = e50) := by simpa using t61b
        refine WC.cond_false rfl ?_
        refine WC.region ?_
        refine WL.runs 4 [(42, .pointer (some ⟨p, 0, none⟩)), (41, .pointer (some ⟨p, 0, none⟩)), (40, .pointer (some ⟨p, 0, none⟩)), (39, .slice A6 n6 c6)] (fun _ => by kernel_rfl) ?_
        refine WL.load 47 (.pointer (some ⟨p, 0, none⟩)) (.slice A5 n5 c5) 43 (by kernel_rfl) (run_ld (hC46.get 0 rfl) rfl) ?_
        refine WL.runs 1 [(44, .int .i64 (j : Int))] (fun _ => by kernel_rfl) ?_
        refine WL.index A5 n5 c5 45 .i64 (j : Int) b58 0 j 2 (by kernel_rfl) hA59 (by omega) (by omega) (j * 2) (by first | (simp; done) | omega) ?_
        refine WL.load 75 (.pointer (some ⟨b58, j * 2, none⟩)) (.agg #[.int .i64 e56.1, .int .i64 e56.2]) 46 (by kernel_rfl) (run_rdN (l := [.int .i64 e56.1, .int .i64 e56.2]) rfl rfl (fun j u hu => by have hq_ := Rd.cell (own_rd ho48 tmC_len (by decide)) hA59 he57 j u hu; simpa [Nat.add_assoc] using hq_)) ?_
        refine WL.newM hC46 (fun b => .slice (some ⟨b, 0, none⟩) 1 1) (.cells #[.int .i64 e56.1, .int .i64 e56.2] 75) 47 (fun _ => by kernel_rfl) (fun g67 w68 hb71 hF69 hC70 => ?_)
        have ho72 := own_fr ho48 hF69 (by simp)
        have ho73 := own_fr ho49 hF69 (by simp)
        obtain ⟨v74, w75, hr76, ho77, hF78, hC79, hnil80, hsub81⟩ := app_run Try.prog hC70 1 (v := .slice A6 n6 c6) rfl 47 47 75 2 16 n6 1 1 (some ⟨g67, 0, none⟩) rfl ho73 [.int .i64 e56.1, .int .i64 e56.2] rfl (srcOk.blk 1 (hC70.get 1 rfl)) rfl (by simp only [maxLen]; omega) (by omega)
        have ho85 := own_snoc (enc := tmC) (ys := (outK ke_ (m5.take j))) e56 ho77
        obtain ⟨A82, c83, rfl, hle84⟩ := own_form ho85
        refine WL.sem (Builtin.append_ #[47, 47] 47 #[.slice A6 n6 c6, .slice (some ⟨g67, 0, none⟩) 1 1]) 48 (.slice A82 (n6 + 1) c83) (by kernel_rfl) hr76 ?_
        have ho86 := own_fr ho72 hF78 (hC70.disj 0 1 rfl rfl (by decide))
        refine WL.runs 1 [(7, .slice A82 (n6 + 1) c83)] (fun _ => by kernel_rfl) ?_
        refine WL.done rfl ?_
        refine QX.block_normal ?_
        refine QX.then_normal (hK41 _ _ ?_)
        refine WC.region ?_
        refine WL.runs 2 [(23, .int .i64 (IntKind.i64.wrap ((j : Int) + 1))), (22, .int .i64 (j : Int))] (fun _ => by kernel_rfl) ?_
        refine WL.recast (show (.int .i64 (IntKind.i64.wrap ((j : Int) + 1)) : Value) = .int .i64 ((j : Int) + 1) from by rw [wrap_in_i64 ((j : Int) + 1) (by omega) (by omega)]) ?_
        refine WL.runs 1 [(8, .int .i64 ((j : Int) + 1))] (fun _ => by kernel_rfl) ?_
        refine WL.done rfl ?_
        refine QX.then_normal ?_
        have hC87 := hC79.pick [0] [0, 1] rfl rfl
        have hkk_ := Option.some.inj (he51.symm.trans hke_)
        have hek_ : eqK ke_ e56 = false := by unfold eqK; rw [← hkk_]; simpa using t61b
        refine fun a_ ha_ => hK30 _ _ _ ?_ ⟨j + 1, A82, n6 + 1, c83, cnt6, rfl, rfl, hC87, ho86, (by have z_ := ho85; rw [outK_snoc he57, hek_]; exact z_), by omega, by have z_ := cntK_snoc (k := ke_) he57; rw [hek_] at z_; simp only [if_true, Bool.false_eq_true, if_false] at z_; omega⟩ a_ (ha_.weaken (sub_of ⟨rfl, rfl, rfl, rfl, rfl, rfl, rfl, trivial⟩))
        omega
    · -- (j : Int) < (n5 : Int): false
      have t39 : (n5 : Int) ≤ (j : Int) := by have q_ := of_decide_eq_false t39b; omega
      refine WC.cond_false rfl ?_
      refine WC.exit ?_
      refine QX.then_exit ?_
      refine QX.then_exit ?_
      refine QX.block_hit ?_
      refine QX.then_normal (hK25 _ _ ?_)
      refine WC.region ?_
      refine WL.runs 4 [(52, .pointer (some ⟨p, 0, none⟩)), (51, .pointer (some ⟨p, 0, none⟩)), (50, .slice A6 n6 c6), (49, .pointer (some ⟨p, 0, none⟩))] (fun _ => by kernel_rfl) ?_
      refine WL.storeM (c' := #[.slice A6 n6 c6]) hC34 0 47 p 0 (.slice A6 n6 c6) (by kernel_rfl) rfl (by kernel_rfl) (fun w88 hF90 hC91 => ?_)
      have ho92 := own_fr row_m32 hF90 (hC34.apartM 0 0 rfl rfl)
      have ho93 := own_fr hleft6 hF90 (hC34.apartM 1 0 rfl rfl)
      refine WL.done rfl ?_
      refine QX.block_normal ?_
      refine QX.then_normal (hK21 _ _ ?_)
      refine WC.region ?_
      refine WL.runs 2 [(14, .int .i64 (IntKind.i64.wrap ((i : Int) + 1))), (13, .int .i64 (i : Int))] (fun _ => by kernel_rfl) ?_
      refine WL.recast (show (.int .i64 (IntKind.i64.wrap ((i : Int) + 1)) : Value) = .int .i64 ((i : Int) + 1) from by rw [wrap_in_i64 ((i : Int) + 1) (by omega) (by omega)]) ?_
      refine WL.runs 1 [(6, .int .i64 ((i : Int) + 1))] (fun _ => by kernel_rfl) ?_
      refine WL.done rfl ?_
      refine QX.then_normal ?_
      have hC94 := hC91.pick [0] [1] rfl rfl
      refine fun a_ ha_ => hK10 _ _ _ ?_ ⟨i + 1, A6, n6, c6, (delL m5 ke_), cnt6, rfl, rfl, hC94, (by have z_ := ho93; rw [take_allT (by omega), outK_del hnd5] at z_; exact z_), by omega, delL_keys m5 ke_ hnd5, by rw [hcl, drop_cons hke_]; rfl, by have z_ := hct6; rw [take_allT (by omega), cntK_look hnd5] at z_; rw [hcn, drop_cons hke_]; simp only [canN]; omega, by have z_ := hct6; rw [take_allT (by omega), cntK_look hnd5] at z_; split at z_ <;> omega, Nat.le_trans canL_len0 hml5⟩ a_ (ha_.weaken (sub_of ⟨rfl, rfl, rfl, rfl, rfl, trivial⟩))
      omega
  · -- (i : Int) < (ks.length : Int): false
    have t19 : (ks.length : Int) ≤ (i : Int) := by have q_ := of_decide_eq_false t19b; omega
    refine WC.cond_false rfl ?_
    refine WC.exit ?_
    refine QX.then_exit ?_
    refine QX.then_exit ?_
    refine QX.block_hit ?_
    refine QX.then_normal (hK6 _ _ ?_)
    refine WC.seq (fun K95 hK96 => ?_)
    refine WC.region ?_
    refine WL.runs 2 [(4, .int .i64 (cnt : Int)), (53, .int .i64 (cnt : Int))] (fun _ => by kernel_rfl) ?_
    refine WL.done rfl ?_
    refine QX.then_normal (hK96 _ _ ?_)
    refine WC.ret ?_
    refine (hret _ _ _ rfl ?_).1
    clear hN hret hret' hK96 hK18 hK16 hK8 hK6 hK4 hK2
    have hie_ : i = ks.length := by omega
    subst hie_
    rw [List.drop_length] at hcl hcn
    simp only [canL, canN, List.foldl_nil] at hcl hcn
    have hrf_ := rf_mk hC14 0 0 rfl rfl hrow5
    rw [← hcl] at hrf_
    exact ⟨_, by show Ending.returned (.int .i64 (cnt : Int)) = _; rw [hcn]; simp, hC14.fr, hrf_, fun x_ hx_ => (List.mem_cons.1 hx_).elim (fun e_ => by subst e_; exact .inl List.mem_cons_self) (fun h_ => hC14.ownF _ (List.mem_of_getElem? (show _[0]? = some (blk (.slice A5 n5 c5)) from rfl)) x_ h_)⟩

end Go.Proofs.Ytkafccgbagbncaa
