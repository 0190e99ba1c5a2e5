/- Contracts of functions of the program, each proved by a walk through its code; conditions stand in the statements. -/
import Derived.Test.YtibkndhgeeoidaaRgP
namespace Go.Proofs.Ytibkndhgeeoidaa
set_option linter.unusedSimpArgs false
set_option linter.unusedVariables false
set_option linter.unusedSectionVars false
open Go Go.RowKit Go.Tw
set_option linter.unusedVariables false
set_option maxRecDepth 20000
/-! ### the reference's lists -/
def insL (x : Int) : List Int → List Int
  | [] => [x]
  | y :: r => if x < y then x :: y :: r else y :: insL x r
def anyLt (x : Int) (L : List Int) : Bool := L.any fun y => decide (x < y)
def nextL (x : Int) (L : List Int) (dn : Bool) : List Int := if dn then insL x L else L
theorem any_snocL (x y : Int) (L : List Int) : anyLt x (L ++ [y]) = (anyLt x L || decide (x < y)) := by simp [anyLt]
theorem any_takeL {x y : Int} {L : List Int} {j : Nat} (h : L[j]? = some y) : anyLt x (L.take (j + 1)) = (anyLt x (L.take j) || decide (x < y)) := by
  obtain ⟨hj, rfl⟩ := List.getElem?_eq_some_iff.1 h
  rw [List.take_succ_eq_append_getElem hj, any_snocL]
theorem ins_any {x y : Int} : ∀ {L : List Int}, anyLt x L = true → insL x (L ++ [y]) = insL x L ++ [y]
  | [], h => by cases h
  | z :: r, h => by
    show (if x < z then x :: z :: (r ++ [y]) else z :: insL x (r ++ [y])) = (if x < z then x :: z :: r else z :: insL x r) ++ [y]
    split
    · rfl
    · rename_i hz
      have h2 : anyLt x r = true := by
        unfold anyLt at h ⊢; rw [List.any_cons, decide_eq_false hz, Bool.false_or] at h; exact h
      rw [ins_any h2]; rfl
theorem ins_end {x : Int} : ∀ {L : List Int}, anyLt x L = false → insL x L = L ++ [x]
  | [], _ => rfl
  | z :: r, h => by
    unfold anyLt at h
    rw [List.any_cons, Bool.or_eq_false_iff] at h
    show (if x < z then x :: z :: r else z :: insL x r) = _
    rw [if_neg (by simpa using h.1), ins_end (by unfold anyLt; exact h.2)]; rfl
theorem ins_new {x y : Int} : ∀ {L : List Int}, anyLt x L = false → x < y → insL x (L ++ [y]) = L ++ [x] ++ [y]
  | [], _, hy => by show (if x < y then _ else _) = _; rw [if_pos hy]; rfl
  | z :: r, h, hy => by
    unfold anyLt at h
    rw [List.any_cons, Bool.or_eq_false_iff] at h
    show (if x < z then x :: z :: (r ++ [y]) else z :: insL x (r ++ [y])) = _
    rw [if_neg (by simpa using h.1), ins_new (by unfold anyLt; exact h.2) hy]; rfl
theorem next_done {x y : Int} {L : List Int} {j : Nat} (h : L[j]? = some y) (ha : anyLt x (L.take j) = true) : nextL x (L.take (j + 1)) true = nextL x (L.take j) true ++ [y] := by
  obtain ⟨hj, rfl⟩ := List.getElem?_eq_some_iff.1 h
  unfold nextL
  rw [if_pos rfl, if_pos rfl, List.take_succ_eq_append_getElem hj, ins_any ha]
theorem next_hit {x y : Int} {L : List Int} {j : Nat} (h : L[j]? = some y) (ha : anyLt x (L.take j) = false) (hy : x < y) : nextL x (L.take (j + 1)) true = nextL x (L.take j) false ++ [x] ++ [y] := by
  obtain ⟨hj, rfl⟩ := List.getElem?_eq_some_iff.1 h
  unfold nextL
  rw [if_pos rfl, if_neg (by simp), List.take_succ_eq_append_getElem hj, ins_new ha hy]
theorem next_miss {x y : Int} {L : List Int} {j : Nat} (h : L[j]? = some y) : nextL x (L.take (j + 1)) false = nextL x (L.take j) false ++ [y] := by
  obtain ⟨hj, rfl⟩ := List.getElem?_eq_some_iff.1 h
  unfold nextL
  rw [if_neg (by simp), if_neg (by simp), List.take_succ_eq_append_getElem hj]
def sortR (M : List Int) : List Int := M.foldl (fun o x => insL x o) []
theorem sortR_take {M : List Int} {i : Nat} {x : Int} (h : M[i]? = some x) : sortR (M.take (i + 1)) = insL x (sortR (M.take i)) := by
  obtain ⟨hi, rfl⟩ := List.getElem?_eq_some_iff.1 h
  unfold sortR; rw [List.take_succ_eq_append_getElem hi, List.foldl_append]; rfl
theorem insL_len (x : Int) : ∀ L : List Int, (insL x L).length = L.length + 1
  | [] => rfl
  | y :: r => by
    show (if x < y then x :: y :: r else y :: insL x r).length = _
    split
    · rfl
    · rw [List.length_cons, insL_len x r, List.length_cons]
theorem insL_perm (x : Int) : ∀ L : List Int, (insL x L).Perm (x :: L)
  | [] => .refl _
  | y :: r => by
    show (if x < y then x :: y :: r else y :: insL x r).Perm _
    split
    · exact .refl _
    · exact ((insL_perm x r).cons y).trans (.swap ..)
theorem insL_sorted {x : Int} : ∀ {L : List Int}, L.Pairwise (fun a b => a ≤ b) → (insL x L).Pairwise (fun a b => a ≤ b)
  | [], _ => List.pairwise_singleton _ _
  | y :: r, h => by
    rw [List.pairwise_cons] at h
    show (if x < y then x :: y :: r else y :: insL x r).Pairwise _
    split
    · rename_i hx
      refine List.pairwise_cons.2 ⟨fun z hz => ?_, List.pairwise_cons.2 h⟩
      rcases List.mem_cons.1 hz with rfl | hz
      · omega
      · have := h.1 z hz; omega
    · rename_i hx
      refine List.pairwise_cons.2 ⟨fun z hz => ?_, insL_sorted h.2⟩
      rcases List.mem_cons.1 ((insL_perm x r).mem_iff.1 hz) with rfl | hz
      · omega
      · exact h.1 z hz
theorem sorted_uniq : ∀ {A B : List Int}, A.Perm B → A.Pairwise (fun a b => a ≤ b) → B.Pairwise (fun a b => a ≤ b) → A = B
  | [], B, h, _, _ => (List.nil_perm.1 h).symm
  | a :: A, B, h, hA, hB => by
    cases B with
    | nil => exact absurd (List.perm_nil.1 h) (by simp)
    | cons b B =>
      rw [List.pairwise_cons] at hA hB
      have h1 : a = b := by
        have q1 : a ∈ b :: B := h.mem_iff.1 (List.mem_cons_self ..)
        have q2 : b ∈ a :: A := h.mem_iff.2 (List.mem_cons_self ..)
        rcases List.mem_cons.1 q1 with e | q1
        · exact e
        · rcases List.mem_cons.1 q2 with e | q2
          · exact e.symm
          · have := hA.1 b q2; have := hB.1 a q1; omega
      subst h1
      rw [sorted_uniq (List.Perm.cons_inv h) hA.2 hB.2]
theorem sortR_perm (M : List Int) : (sortR M).Perm M := by
  have : ∀ (M o : List Int), (M.foldl (fun o x => insL x o) o).Perm (M ++ o) := by
    intro M
    induction M with
    | nil => exact fun o => .refl _
    | cons x r ih => exact fun o => (ih (insL x o)).trans (((insL_perm x o).append_left r).trans List.perm_middle)
  have h := this M []
  rw [List.append_nil] at h; exact h
theorem sortR_sorted (M : List Int) : (sortR M).Pairwise (fun a b => a ≤ b) := by
  have : ∀ (M o : List Int), o.Pairwise (fun a b => a ≤ b) → (M.foldl (fun o x => insL x o) o).Pairwise (fun a b => a ≤ b) := by
    intro M
    induction M with
    | nil => exact fun o h => h
    | cons x r ih => exact fun o h => ih _ (insL_sorted h)
  exact this M [] .nil
theorem sortR_eq (M : List Int) : sortR M = sortI M := sorted_uniq ((sortR_perm M).trans (sortI_perm M).symm) (sortR_sorted M) (sortI_le M)
theorem sortR_len (M : List Int) : (sortR M).length = M.length := (sortR_perm M).length_eq
/-! Good -/
def goodTo (M : List Int) (i : Nat) : Prop := ∀ k, k < i → ∀ m, M[k]? = some m → (0 ≤ m ∧ m ≤ 65535) ∧ (M.take k).contains m = false
theorem goodTo_0 (M : List Int) : goodTo M 0 := fun k h => absurd h (Nat.not_lt_zero _)
theorem goodTo_step {M : List Int} {i : Nat} {m : Int} (h : goodTo M i) (hm : M[i]? = some m) (h1 : (!inR m || (M.take i).contains m) = false) : goodTo M (i + 1) := by
  intro k hk m' hm'
  by_cases e : k = i
  · subst e; rw [hm] at hm'; cases hm'
    rw [Bool.or_eq_false_iff] at h1
    exact ⟨by simpa [inR] using h1.1, h1.2⟩
  · exact h k (by omega) m' hm'
theorem goodTo_ok {M : List Int} (h : goodTo M M.length) (hl : M.length ≤ 64) : okG M := by
  refine ⟨hl, fun m hm => ?_, ?_⟩
  · obtain ⟨i, hi, rfl⟩ := List.getElem_of_mem hm
    exact (h i hi _ (List.getElem?_eq_getElem hi)).1
  · refine List.pairwise_iff_getElem.2 fun i j hi hj hij e => ?_
    have h2 := (h j hj _ (List.getElem?_eq_getElem hj)).2
    have h3 : (M.take j).contains M[j] = true := by
      rw [List.contains_iff_mem, ← e]
      exact List.mem_iff_getElem?.2 ⟨i, by rw [List.getElem?_take, if_pos hij]; exact List.getElem?_eq_getElem hi⟩
    rw [h2] at h3; cases h3
theorem bad_ok {M : List Int} {i : Nat} {m : Int} (hm : M[i]? = some m) (h : (decide (64 < M.length) || (!inR m || (M.take i).contains m)) = true) : ¬ okG M := by
  rintro ⟨h1, h2, h3⟩
  rw [decide_eq_false (by omega), Bool.false_or, Bool.or_eq_true] at h
  rcases h with h | h
  · have := h2 m (List.mem_of_getElem? hm); simp [inR] at h; omega
  · rw [List.contains_iff_mem] at h
    obtain ⟨j, hj⟩ := List.mem_iff_getElem?.1 h
    rw [List.getElem?_take] at hj
    split at hj
    · rename_i hji
      obtain ⟨q1, q2⟩ := List.getElem?_eq_some_iff.1 hj
      obtain ⟨q3, q4⟩ := List.getElem?_eq_some_iff.1 hm
      exact List.pairwise_iff_getElem.1 h3 j i q1 q3 hji (q2.trans q4.symm)
    · cases hj
theorem has_takeS {M : List Int} {j : Nat} {y m : Int} (h : M[j]? = some y) : (M.take (j + 1)).contains m = ((M.take j).contains m || decide (y = m)) := by
  obtain ⟨hj, rfl⟩ := List.getElem?_eq_some_iff.1 h
  rw [List.take_succ_eq_append_getElem hj, Bool.eq_iff_iff]
  simp only [List.contains_iff_mem, List.mem_append, List.mem_singleton, Bool.or_eq_true, decide_eq_true_eq]
  constructor
  · rintro (h | h)
    · exact .inl h
    · exact .inr h.symm
  · rintro (h | h)
    · exact .inl h
    · exact .inr h.symm
theorem good_4 {per : Int} {M : List Int} (h : per < 1 ∨ 64 < per) : goodR per M = 4 := if_pos h
theorem good_9 {per : Int} {M : List Int} (h1 : 1 ≤ per ∧ per ≤ 64) (h : ¬ okG M) : goodR per M = 9 := by unfold goodR; rw [if_neg (by omega), if_neg h]
theorem good_0 {per : Int} {M : List Int} (h1 : 1 ≤ per ∧ per ≤ 64) (h : okG M) : goodR per M = 0 := by unfold goodR; rw [if_neg (by omega), if_pos h]
theorem mark_int {L : List Int} {e : Int} (h : (L ++ [(-77 : Int)])[L.length]? = some e) : (e == -77) = true := by simp at h; subst h; rfl
theorem bad_keep {M : List Int} {j : Nat} {y m : Int} {bd bd2 : Bool} (h : bd2 = (bd || (!inR m || (M.take j).contains m))) (hb : bd2 = true) (hy : M[j]? = some y) : true = (bd || (!inR m || (M.take (j + 1)).contains m)) := by
  rw [has_takeS hy]; rw [hb] at h
  revert h; cases bd <;> cases inR m <;> cases (M.take j).contains m <;> simp
theorem bad_new {M : List Int} {j : Nat} {y m : Int} {bd bd2 : Bool} (h : bd2 = (bd || (!inR m || (M.take j).contains m))) (hb : bd2 = false) (hy : M[j]? = some y) : (y == m) = (bd || (!inR m || (M.take (j + 1)).contains m)) := by
  rw [has_takeS hy]; rw [hb] at h
  have e : (y == m) = decide (y = m) := by rw [Bool.eq_iff_iff]; simp
  rw [e]
  revert h; cases bd <;> cases inR m <;> cases (M.take j).contains m <;> simp
theorem nextL_len (x : Int) (L : List Int) (dn : Bool) : (nextL x L dn).length ≤ L.length + 1 := by
  unfold nextL; split
  · rw [insL_len]; omega
  · omega
theorem has_ct (A : Option Addr) (c : Nat) (xs : List Int) (x : Int) (w : World) (hr : Rd w 1 (Go.Tw.encI .i64) A xs) (hl : xs.length ≤ 1099511627776) : Calls Try.prog 49 #[.slice A xs.length c, .int .i64 x] w fun e w' => e = .returned (.bool (xs.contains x)) ∧ Fr w w' [] := by
 refine enterD (n := 18) Try.func49 rfl rfl (Nat.le_of_ble_eq_true rfl) ?_
 intro Q0 hN hret hret'
 have hC := Cx.start w
 refine WCs (fun K1 hK2 => ?_)
 refine WCg (WLq 1 [(4, .bool false)] (WLd rfl (QXn (hK2 _ _ ?_))))
 refine WCs (fun K3 hK4 => ?_)
 refine WCs (fun K5 hK6 => ?_)
 refine WCg (WLq 1 [(5, .int .i64 0)] (WLd rfl (QXn (hK6 _ _ ?_))))
 refine WC.block ?_
 refine WC.loop (fun m_ E_ w_ => ∃ (i : Nat), m_ = xs.length - i ∧ E_ = [(0, .slice A xs.length c), (1, .int .i64 x), (5, .int .i64 (i : Int))] ∧ Cx w [] w_ [] [] ∧ (i ≤ xs.length ∧ ((xs.take i).all fun e => !(x == e)) = true)) ⟨_, _, ⟨0, rfl, rfl, hC, Nat.zero_le _, rfl⟩, sub_of ⟨rfl, rfl, rfl, trivial⟩⟩ (fun m10 E_ aq K7 hK8 hI9 => ?_)
 obtain ⟨i, rfl, rfl, aa, hi, hall⟩ := hI9
 refine WCs (fun ar ae => ?_)
 refine WCs (fun au af => ?_)
 refine WCg (WLq 4 [(9, .bool (decide ((i : Int) < (xs.length : Int)))), (8, .int .i64 (xs.length : Int)), (7, .slice A xs.length c), (6, .int .i64 (i : Int))] (WLd rfl (QXn (af _ _ ?_))))
 refine WCa 9 (decide ((i : Int) < (xs.length : Int))) rfl (fun ab => ?_) (fun ab => ?_)
 ·
  have ao : (i : Int) < (xs.length : Int) := by have q_ := of_decide_eq_true ab; omega
  refine WCt rfl ?_
  refine WC.skip ?_
  refine QXn (ae _ _ ?_)
  refine WCs (fun av ai => ?_)
  refine WC.block ?_
  refine WCs (fun aw aj => ?_)
  refine WCg (WLq 2 [(13, .int .i64 (i : Int)), (12, .slice A xs.length c)] ?_)
  obtain ⟨ag, ac⟩ := get_some (xs := xs) (i := i) (by omega)
  obtain ⟨b24, o26, ak, al⟩ := hr.at_ _ _ ac
  refine WLi A xs.length c 14 .i64 (i : Int) b24 o26 i 1 (by kernel_rfl) ak (by omega) (by omega) (o26 + i) (by first | (simp; done) | omega) ?_
  refine WLo 3 (.pointer (some ⟨b24, o26 + i, none⟩)) (.int .i64 ag) 15 (run_load1 rfl (by simpa [Nat.add_assoc] using aa.fr.cell (al 0 _ rfl) (by simp))) ?_
  refine WLq 2 [(17, .bool (ag == x)), (16, .int .i64 x)] (WLd rfl (QXn (aj _ _ ?_)))
  refine WCa 17 (ag == x) rfl (fun ad => ?_) (fun ad => ?_)
  ·
   have ap : ag = x := by simpa using ad
   refine WCt rfl ?_
   refine WCs (fun ax am => ?_)
   refine WCg (WLq 1 [(4, .bool true)] (WLd rfl (QXn (am _ _ ?_))))
   refine WC.ret ?_
   refine QXk ?_
   refine QXr ?_
   refine QXr ?_
   refine QXk ?_
   refine QXr ?_
   refine (hret _ _ _ rfl ?_).1
   exact ⟨by rw [contains_idx ac (by omega)]; rfl, aa.fr⟩
  ·
   have ap : ¬ (ag = x) := by simpa using ad
   refine WCf rfl (WC.skip ?_)
   refine QXb ?_
   refine QXn (ai _ _ ?_)
   refine WCg (WLq 2 [(11, .int .i64 (IntKind.i64.wrap ((i : Int) + 1))), (10, .int .i64 (i : Int))] ?_)
   refine WLt (show (.int .i64 (IntKind.i64.wrap ((i : Int) + 1)) : Value) = .int .i64 ((i : Int) + 1) from by rw [wrap_in_i64 ((i : Int) + 1) (by omega) (by omega)]) ?_
   refine WLq 1 [(5, .int .i64 ((i : Int) + 1))] ?_
   refine WLd rfl ?_
   refine QXn ?_
   have an := aa.pick [] [] rfl rfl
   refine fun a_ ha_ => hK8 _ _ _ ?_ ⟨i + 1, rfl, rfl, an, by omega, all_snoc ac hall (by omega)⟩ a_ (ha_.weaken (sub_of ⟨rfl, rfl, rfl, trivial⟩))
   omega
 ·
  have ao : (xs.length : Int) ≤ (i : Int) := by have q_ := of_decide_eq_false ab; omega
  refine WCf rfl ?_
  refine WC.exit ?_
  refine QXe ?_
  refine QXe ?_
  refine QX.block_hit ?_
  refine QXn (hK4 _ _ ?_)
  refine WCs (fun ay ah => ?_)
  refine WCg (WLq 1 [(4, .bool false)] (WLd rfl (QXn (ah _ _ ?_))))
  refine WC.ret ?_
  refine (hret _ _ _ rfl ?_).1
  clear hN hret hret' ah af ae hK6 hK4 hK2
  rw [List.take_of_length_le (by omega)] at hall
  exact ⟨by rw [contains_all hall]; rfl, aa.fr⟩

theorem has_n (A : Option Addr) (n c : Nat) (xs : List Int) (x : Int) (w : World) (hr : Rd w 1 (Go.Tw.encI .i64) A xs) (hn : xs.length = n) (hl : n ≤ 1099511627776) : Calls Try.prog 49 #[.slice A n c, .int .i64 x] w fun e w' => e = .returned (.bool (xs.contains x)) ∧ Fr w w' [] := by subst hn; exact has_ct A c xs x w hr hl
theorem Good_ct (per : Int) (A : Option Addr) (c : Nat) (xs : List Int) (w : World) (hr : Rd w 1 (Go.Tw.encI .i64) A xs) (hl : xs.length ≤ 9223372036854775807) : Calls Try.prog 12 #[.int .i64 per, .slice A xs.length c] w fun e w' => e = .returned (.int .i64 (goodR per xs)) ∧ Fr w w' [] := by
 refine enterD (n := 61) Try.func12 rfl rfl (Nat.le_of_ble_eq_true rfl) ?_
 intro Q0 hN hret hret'
 have hC := Cx.start w
 refine WCs (fun K1 hK2 => ?_)
 refine WCg (WLq 1 [(4, .int .i64 0)] (WLd rfl (QXn (hK2 _ _ ?_))))
 refine WCs (fun K3 hK4 => ?_)
 refine WCs (fun K5 hK6 => ?_)
 refine WCg (WLq 3 [(10, .bool (decide (per < 1))), (9, .bool (decide (per < 1))), (8, .int .i64 per)] ?_)
 refine WLa 10 (decide (per < 1)) rfl (fun t7b => ?_) (fun t7b => ?_)
 ·
  have t7 : per < 1 := by have q_ := of_decide_eq_true t7b; omega
  refine WLq 3 [(13, .bool true), (12, undef), (11, undef)] (WLd rfl (QXn (hK6 _ _ ?_)))
  refine WCt rfl ?_
  refine WCs (fun K8 hK9 => ?_)
  refine WCg (WLq 1 [(4, .int .i64 4)] (WLd rfl (QXn (hK9 _ _ ?_))))
  refine WC.ret ?_
  refine QXr ?_
  refine (hret _ _ _ rfl ?_).1
  exact ⟨by rw [good_4 (by omega)]; rfl, hC.fr⟩
 ·
  have t7 : (1 : Int) ≤ per := by have q_ := of_decide_eq_false t7b; omega
  refine WLq 3 [(13, .bool (decide (per > 64))), (12, .bool (decide (per > 64))), (11, .int .i64 per)] (WLd rfl (QXn (hK6 _ _ ?_)))
  refine WCa 13 (decide (per > 64)) rfl (fun bi => ?_) (fun bi => ?_)
  ·
   have b6 : (64 : Int) < per := by have q_ := of_decide_eq_true bi; omega
   refine WCt rfl ?_
   refine WCs (fun cE bO => ?_)
   refine WCg (WLq 1 [(4, .int .i64 4)] (WLd rfl (QXn (bO _ _ ?_))))
   refine WC.ret ?_
   refine QXr ?_
   refine (hret _ _ _ rfl ?_).1
   exact ⟨by rw [good_4 (by omega)]; rfl, hC.fr⟩
  ·
   have b6 : per ≤ 64 := by have q_ := of_decide_eq_false bi; omega
   refine WCf rfl (WC.skip (QXn (hK4 _ _ ?_)))
   refine WCs (fun cF af => ?_)
   refine WCg (WLq 4 [(5, .bool (decide ((xs.length : Int) > 64))), (16, .bool (decide ((xs.length : Int) > 64))), (15, .int .i64 (xs.length : Int)), (14, .slice A xs.length c)] (WLd rfl (QXn (af _ _ ?_))))
   refine WCs (fun cG ag => ?_)
   refine WCs (fun cH ah => ?_)
   refine WCg (WLq 1 [(6, .int .i64 0)] (WLd rfl (QXn (ah _ _ ?_))))
   refine WC.block ?_
   refine WC.loop (fun m_ E_ w_ => ∃ (i : Nat) (bd : Bool), m_ = xs.length - i ∧ E_ = [(0, .int .i64 per), (1, .slice A xs.length c), (5, .bool bd), (6, .int .i64 (i : Int))] ∧ Cx w [] w_ [] [] ∧ (i ≤ xs.length ∧ (0 < i → bd = false) ∧ bd = decide (64 < xs.length) ∧ goodTo xs i)) ⟨_, _, ⟨0, (decide ((xs.length : Int) > 64)), rfl, rfl, hC, Nat.zero_le _, fun h_ => absurd h_ (Nat.not_lt_zero _), decide_eq_decide.2 (by omega), goodTo_0 _⟩, sub_of ⟨rfl, rfl, rfl, rfl, trivial⟩⟩ (fun m22 E_ cI cJ aA bP => ?_)
   obtain ⟨i, bd, rfl, rfl, aB, hi, hbi, hbd, hgt⟩ := bP
   refine WCs (fun cK ai => ?_)
   refine WCs (fun cL aj => ?_)
   refine WCg (WLq 4 [(20, .bool (decide ((i : Int) < (xs.length : Int)))), (19, .int .i64 (xs.length : Int)), (18, .slice A xs.length c), (17, .int .i64 (i : Int))] (WLd rfl (QXn (aj _ _ ?_))))
   refine WCa 20 (decide ((i : Int) < (xs.length : Int))) rfl (fun bj => ?_) (fun bj => ?_)
   ·
    have b7 : (i : Int) < (xs.length : Int) := by have q_ := of_decide_eq_true bj; omega
    refine WCt rfl ?_
    refine WC.skip ?_
    refine QXn (ai _ _ ?_)
    refine WCs (fun cM ae => ?_)
    refine WC.block ?_
    refine WCs (fun cN ak => ?_)
    refine WCg (WLq 2 [(24, .bool bd), (23, .bool bd)] ?_)
    refine WLa 24 (bd) rfl (fun aT => ?_) (fun aT => ?_)
    ·
     refine WLq 14 [(5, .bool true), (37, .bool true), (36, undef), (35, undef), (34, undef), (33, undef), (32, undef), (31, .bool true), (30, .bool true), (29, undef), (28, undef), (27, undef), (26, undef), (25, undef)] (WLd rfl (QXn (ak _ _ ?_)))
     refine WCs (fun cO aU => ?_)
     refine WCs (fun cP bk => ?_)
     refine WCg (WLq 1 [(7, .int .i64 0)] (WLd rfl (QXn (bk _ _ ?_))))
     refine WC.block ?_
     obtain ⟨a0, aC⟩ := get_some (xs := xs) (i := i) (by omega)
     obtain ⟨b41, o43, bQ, bR⟩ := hr.at_ _ _ aC
     refine WC.loop (fun m_ E_ w_ => ∃ (j : Nat) (bd2 : Bool), m_ = i - j ∧ E_ = [(0, .int .i64 per), (1, .slice A xs.length c), (5, .bool bd2), (6, .int .i64 (i : Int)), (7, .int .i64 (j : Int))] ∧ Cx w [] w_ [] [] ∧ (j ≤ i ∧ bd2 = (bd || (!inR a0 || (xs.take j).contains a0)))) ⟨_, _, ⟨0, true, rfl, rfl, aB, Nat.zero_le _, (by first | (rw [aT]; rfl) | (rw [show inR a0 = false from decide_eq_false (by omega)]; simp))⟩, sub_of ⟨rfl, rfl, rfl, rfl, rfl, trivial⟩⟩ (fun m48 E_ cQ cR br bS => ?_)
     obtain ⟨j, bd2, rfl, rfl, aD, hj, hb2⟩ := bS
     have hlb_ : i < 100 ∨ i = 0 := by
      rcases Nat.eq_zero_or_pos i with h_ | h_
      ·
       exact .inr h_
      ·
       have q_ := hbi h_; rw [hbd] at q_; have := of_decide_eq_false q_; omega
     refine WCs (fun cS bl => ?_)
     refine WCs (fun cT aV => ?_)
     refine WCg (WLq 4 [(41, .bool (decide ((j : Int) < (i : Int)))), (40, .bool (decide ((j : Int) < (i : Int)))), (39, .int .i64 (i : Int)), (38, .int .i64 (j : Int))] ?_)
     refine WLa 41 (decide ((j : Int) < (i : Int))) rfl (fun bm => ?_) (fun bm => ?_)
     ·
      have b9 : (j : Int) < (i : Int) := by have q_ := of_decide_eq_true bm; omega
      refine WLq 3 [(44, .bool (decide ((j : Int) < 100))), (43, .bool (decide ((j : Int) < 100))), (42, .int .i64 (j : Int))] (WLd rfl (QXn (aV _ _ ?_)))
      refine WCa 44 (decide ((j : Int) < 100)) rfl (fun bn => ?_) (fun bn => ?_)
      ·
       have ca : (j : Int) < 100 := by have q_ := of_decide_eq_true bn; omega
       refine WCt rfl ?_
       refine WC.skip ?_
       refine QXn (bl _ _ ?_)
       refine WCs (fun cU bs => ?_)
       refine WC.block ?_
       refine WC.drawC aD [] (by kernel_rfl) (fun cV cb aW ac => ?_)
       refine WDq (NPb (NPt (NPt (NPb (NPt (NPb (NPt (NPt (NPb (NPt hN)))))))))) 0 47 (.bool bd2) ac ?_
       refine WDq (NPb (NPt (NPt (NPb (NPt (NPb (NPt (NPt (NPb (NPt hN)))))))))) 1 48 (.bool bd2) ac ?_
       refine WDa 48 (bd2) rfl (fun bo => ?_) (fun bo => ?_)
       ·
        refine WDq (NPb (NPt (NPt (NPb (NPt (NPb (NPt (NPt (NPb (NPt hN)))))))))) 2 49 (undef) ac ?_
        refine WDq (NPb (NPt (NPt (NPb (NPt (NPb (NPt (NPt (NPb (NPt hN)))))))))) 3 50 (undef) ac ?_
        refine WDq (NPb (NPt (NPt (NPb (NPt (NPb (NPt (NPt (NPb (NPt hN)))))))))) 4 51 (undef) ac ?_
        refine WDq (NPb (NPt (NPt (NPb (NPt (NPb (NPt (NPt (NPb (NPt hN)))))))))) 5 52 (undef) ac ?_
        refine WDq (NPb (NPt (NPt (NPb (NPt (NPb (NPt (NPt (NPb (NPt hN)))))))))) 6 53 (undef) ac ?_
        refine WDq (NPb (NPt (NPt (NPb (NPt (NPb (NPt (NPt (NPb (NPt hN)))))))))) 7 54 (undef) ac ?_
        refine WDq (NPb (NPt (NPt (NPb (NPt (NPb (NPt (NPt (NPb (NPt hN)))))))))) 8 55 (undef) ac ?_
        refine WDq (NPb (NPt (NPt (NPb (NPt (NPb (NPt (NPt (NPb (NPt hN)))))))))) 9 56 (undef) ac ?_
        refine WDq (NPb (NPt (NPt (NPb (NPt (NPb (NPt (NPt (NPb (NPt hN)))))))))) 10 57 (undef) ac ?_
        refine WDq (NPb (NPt (NPt (NPb (NPt (NPb (NPt (NPt (NPb (NPt hN)))))))))) 11 58 (.bool true) ac ?_
        refine WDq (NPb (NPt (NPt (NPb (NPt (NPb (NPt (NPt (NPb (NPt hN)))))))))) 12 5 (.bool true) ac ?_
        refine WD.done (by kernel_rfl) ?_
        refine QXb ?_
        refine QXn (bs _ _ ?_)
        refine WCg (WLq 2 [(46, .int .i64 (IntKind.i64.wrap ((j : Int) + 1))), (45, .int .i64 (j : Int))] ?_)
        refine WLt (show (.int .i64 (IntKind.i64.wrap ((j : Int) + 1)) : Value) = .int .i64 ((j : Int) + 1) from by rw [wrap_in_i64 ((j : Int) + 1) (by omega) (by omega)]) ?_
        refine WLq 1 [(7, .int .i64 ((j : Int) + 1))] ?_
        refine WLd rfl ?_
        refine QXn ?_
        have bT := aW.pick [] [] rfl rfl
        refine fun a_ ha_ => br _ _ _ ?_ ⟨j + 1, true, rfl, rfl, bT, by omega, (by obtain ⟨y_, hy_⟩ := get_some (xs := xs) (i := j) (by omega); exact bad_keep hb2 bo hy_)⟩ a_ (ha_.weaken (sub_of ⟨rfl, rfl, rfl, rfl, rfl, trivial⟩))
        omega
       ·
        refine WDq (NPb (NPt (NPt (NPb (NPt (NPb (NPt (NPt (NPb (NPt hN)))))))))) 2 49 (.slice A xs.length c) ac ?_
        refine WDq (NPb (NPt (NPt (NPb (NPt (NPb (NPt (NPt (NPb (NPt hN)))))))))) 3 50 (.int .i64 (j : Int)) ac ?_
        obtain ⟨bt, bu⟩ := get_some (xs := xs) (i := j) (by omega)
        obtain ⟨b67, o69, bU, bV⟩ := hr.at_ _ _ bu
        refine WDi (NPb (NPt (NPt (NPb (NPt (NPb (NPt (NPt (NPb (NPt hN)))))))))) 4 A xs.length c 51 .i64 (j : Int) b67 o69 j 1 (by kernel_rfl) (by kernel_rfl) bU (by omega) (by omega) (o69 + j) (by first | (simp; done) | omega) ac ?_
        refine WDq (NPb (NPt (NPt (NPb (NPt (NPb (NPt (NPt (NPb (NPt hN)))))))))) 6 53 (.slice A xs.length c) ac ?_
        refine WDq (NPb (NPt (NPt (NPb (NPt (NPb (NPt (NPt (NPb (NPt hN)))))))))) 7 54 (.int .i64 (i : Int)) ac ?_
        refine WDi (NPb (NPt (NPt (NPb (NPt (NPb (NPt (NPt (NPb (NPt hN)))))))))) 8 A xs.length c 55 .i64 (i : Int) b41 o43 i 1 (by kernel_rfl) (by kernel_rfl) bQ (by omega) (by omega) (o43 + i) (by first | (simp; done) | omega) ac ?_
        refine WDm (NPb (NPt (NPt (NPb (NPt (NPb (NPt (NPt (NPb (NPt hN)))))))))) 5 3 (.pointer (some ⟨b67, o69 + j, none⟩)) (.int .i64 bt) 52 (fun _ hS_ => run_load1 rfl (by simpa [Nat.add_assoc] using Fr.cell hS_ (aW.fr.cell (bV 0 _ rfl) (by simp)) (by simp))) ac ?_
        refine WDm (NPb (NPt (NPt (NPb (NPt (NPb (NPt (NPt (NPb (NPt hN)))))))))) 9 3 (.pointer (some ⟨b41, o43 + i, none⟩)) (.int .i64 a0) 56 (fun _ hS_ => run_load1 rfl (by simpa [Nat.add_assoc] using Fr.cell hS_ (aW.fr.cell (bR 0 _ rfl) (by simp)) (by simp))) ac ?_
        refine WDq (NPb (NPt (NPt (NPb (NPt (NPb (NPt (NPt (NPb (NPt hN)))))))))) 10 57 (.bool (bt == a0)) ac ?_
        refine WDq (NPb (NPt (NPt (NPb (NPt (NPb (NPt (NPt (NPb (NPt hN)))))))))) 11 58 (.bool (bt == a0)) ac ?_
        refine WDq (NPb (NPt (NPt (NPb (NPt (NPb (NPt (NPt (NPb (NPt hN)))))))))) 12 5 (.bool (bt == a0)) ac ?_
        refine WD.done (by kernel_rfl) ?_
        refine QXb ?_
        refine QXn (bs _ _ ?_)
        refine WCg (WLq 2 [(46, .int .i64 (IntKind.i64.wrap ((j : Int) + 1))), (45, .int .i64 (j : Int))] ?_)
        refine WLt (show (.int .i64 (IntKind.i64.wrap ((j : Int) + 1)) : Value) = .int .i64 ((j : Int) + 1) from by rw [wrap_in_i64 ((j : Int) + 1) (by omega) (by omega)]) ?_
        refine WLq 1 [(7, .int .i64 ((j : Int) + 1))] ?_
        refine WLd rfl ?_
        refine QXn ?_
        have bW := aW.pick [] [] rfl rfl
        refine fun a_ ha_ => br _ _ _ ?_ ⟨j + 1, (bt == a0), rfl, rfl, bW, by omega, bad_new hb2 bo bu⟩ a_ (ha_.weaken (sub_of ⟨rfl, rfl, rfl, rfl, rfl, trivial⟩))
        omega
      ·
       have ca : (100 : Int) ≤ (j : Int) := by have q_ := of_decide_eq_false bn; omega
       refine WCf rfl ?_
       refine WC.exit ?_
       refine QXe ?_
       refine QXe ?_
       refine QX.block_hit ?_
       refine QXn (aU _ _ ?_)
       refine WCs (fun cW bv => ?_)
       refine WCg (WLq 1 [(59, .bool bd2)] (WLd rfl (QXn (bv _ _ ?_))))
       refine WCa 59 (bd2) rfl (fun aE => ?_) (fun aE => ?_)
       ·
        refine WCt rfl ?_
        refine WCs (fun cX bw => ?_)
        refine WCg (WLq 1 [(4, .int .i64 9)] (WLd rfl (QXn (bw _ _ ?_))))
        refine WC.ret ?_
        refine QXk ?_
        refine QXr ?_
        refine QXr ?_
        refine QXk ?_
        refine QXr ?_
        refine (hret _ _ _ rfl ?_).1
        clear hN hret hret' bw bv aV bl bk aU ak ae aj ai ah ag af hK6 hK4 hK2
        have hj_ : j = i := by omega
        subst hj_
        exact ⟨by rw [good_9 ⟨by omega, by omega⟩ (bad_ok aC (by rw [← hbd, ← hb2, aE]))]; rfl, aD.fr⟩
       ·
        refine WCf rfl (WC.skip ?_)
        refine QXb ?_
        refine QXn (ae _ _ ?_)
        refine WCg (WLq 2 [(22, .int .i64 (IntKind.i64.wrap ((i : Int) + 1))), (21, .int .i64 (i : Int))] ?_)
        refine WLt (show (.int .i64 (IntKind.i64.wrap ((i : Int) + 1)) : Value) = .int .i64 ((i : Int) + 1) from by rw [wrap_in_i64 ((i : Int) + 1) (by omega) (by omega)]) ?_
        refine WLq 1 [(6, .int .i64 ((i : Int) + 1))] ?_
        refine WLd rfl ?_
        refine QXn ?_
        have bX := aD.pick [] [] rfl rfl
        refine fun a_ ha_ => aA _ _ _ ?_ ⟨i + 1, bd2, rfl, rfl, bX, (by omega), (fun _ => aE), (by have q_ := hb2; rw [aE] at q_ ⊢; have q1_ := (Bool.or_eq_false_iff.1 q_.symm); rw [← hbd, q1_.1]), (by have hj_ : j = i := (by omega); have q_ := hb2; rw [aE, hj_] at q_; exact goodTo_step hgt aC (Bool.or_eq_false_iff.1 q_.symm).2)⟩ a_ (ha_.weaken (sub_of ⟨rfl, rfl, rfl, rfl, trivial⟩))
        omega
     ·
      have b9 : (i : Int) ≤ (j : Int) := by have q_ := of_decide_eq_false bm; omega
      refine WLq 3 [(44, .bool false), (43, undef), (42, undef)] (WLd rfl (QXn (aV _ _ ?_)))
      refine WCf rfl ?_
      refine WC.exit ?_
      refine QXe ?_
      refine QXe ?_
      refine QX.block_hit ?_
      refine QXn (aU _ _ ?_)
      refine WCs (fun cY bx => ?_)
      refine WCg (WLq 1 [(59, .bool bd2)] (WLd rfl (QXn (bx _ _ ?_))))
      refine WCa 59 (bd2) rfl (fun aF => ?_) (fun aF => ?_)
      ·
       refine WCt rfl ?_
       refine WCs (fun cZ bz => ?_)
       refine WCg (WLq 1 [(4, .int .i64 9)] (WLd rfl (QXn (bz _ _ ?_))))
       refine WC.ret ?_
       refine QXk ?_
       refine QXr ?_
       refine QXr ?_
       refine QXk ?_
       refine QXr ?_
       refine (hret _ _ _ rfl ?_).1
       clear hN hret hret' bz bx aV bl bk aU ak ae aj ai ah ag af hK6 hK4 hK2
       have hj_ : j = i := by omega
       subst hj_
       exact ⟨by rw [good_9 ⟨by omega, by omega⟩ (bad_ok aC (by rw [← hbd, ← hb2, aF]))]; rfl, aD.fr⟩
      ·
       refine WCf rfl (WC.skip ?_)
       refine QXb ?_
       refine QXn (ae _ _ ?_)
       refine WCg (WLq 2 [(22, .int .i64 (IntKind.i64.wrap ((i : Int) + 1))), (21, .int .i64 (i : Int))] ?_)
       refine WLt (show (.int .i64 (IntKind.i64.wrap ((i : Int) + 1)) : Value) = .int .i64 ((i : Int) + 1) from by rw [wrap_in_i64 ((i : Int) + 1) (by omega) (by omega)]) ?_
       refine WLq 1 [(6, .int .i64 ((i : Int) + 1))] ?_
       refine WLd rfl ?_
       refine QXn ?_
       have bY := aD.pick [] [] rfl rfl
       refine fun a_ ha_ => aA _ _ _ ?_ ⟨i + 1, bd2, rfl, rfl, bY, (by omega), (fun _ => aF), (by have q_ := hb2; rw [aF] at q_ ⊢; have q1_ := (Bool.or_eq_false_iff.1 q_.symm); rw [← hbd, q1_.1]), (by have hj_ : j = i := (by omega); have q_ := hb2; rw [aF, hj_] at q_; exact goodTo_step hgt aC (Bool.or_eq_false_iff.1 q_.symm).2)⟩ a_ (ha_.weaken (sub_of ⟨rfl, rfl, rfl, rfl, trivial⟩))
       omega
    ·
     refine WLq 2 [(26, .int .i64 (i : Int)), (25, .slice A xs.length c)] ?_
     obtain ⟨ad, al⟩ := get_some (xs := xs) (i := i) (by omega)
     obtain ⟨b90, o92, aX, aY⟩ := hr.at_ _ _ al
     refine WLi A xs.length c 27 .i64 (i : Int) b90 o92 i 1 (by kernel_rfl) aX (by omega) (by omega) (o92 + i) (by first | (simp; done) | omega) ?_
     refine WLo 3 (.pointer (some ⟨b90, o92 + i, none⟩)) (.int .i64 ad) 28 (run_load1 rfl (by simpa [Nat.add_assoc] using aB.fr.cell (aY 0 _ rfl) (by simp))) ?_
     refine WLq 3 [(31, .bool (decide (ad < 0))), (30, .bool (decide (ad < 0))), (29, .bool (decide (ad < 0)))] ?_
     refine WLa 31 (decide (ad < 0)) rfl (fun bp => ?_) (fun bp => ?_)
     ·
      have cc : ad < 0 := by have q_ := of_decide_eq_true bp; omega
      refine WLq 7 [(5, .bool true), (37, .bool true), (36, undef), (35, undef), (34, undef), (33, undef), (32, undef)] (WLd rfl (QXn (ak _ _ ?_)))
      refine WCs (fun c3 aZ => ?_)
      refine WCs (fun c4 bq => ?_)
      refine WCg (WLq 1 [(7, .int .i64 0)] (WLd rfl (QXn (bq _ _ ?_))))
      refine WC.block ?_
      refine WC.loop (fun m_ E_ w_ => ∃ (j : Nat) (bd2 : Bool), m_ = i - j ∧ E_ = [(0, .int .i64 per), (1, .slice A xs.length c), (5, .bool bd2), (6, .int .i64 (i : Int)), (7, .int .i64 (j : Int))] ∧ Cx w [] w_ [] [] ∧ (j ≤ i ∧ bd2 = (bd || (!inR ad || (xs.take j).contains ad)))) ⟨_, _, ⟨0, true, rfl, rfl, aB, Nat.zero_le _, (by first | (rw [aT]; rfl) | (rw [show inR ad = false from decide_eq_false (by omega)]; simp))⟩, sub_of ⟨rfl, rfl, rfl, rfl, rfl, trivial⟩⟩ (fun m106 E_ cd ce a1 bA => ?_)
      obtain ⟨j, bd2, rfl, rfl, am, hj, hb2⟩ := bA
      have hlb_ : i < 100 ∨ i = 0 := by
       rcases Nat.eq_zero_or_pos i with h_ | h_
       ·
        exact .inr h_
       ·
        have q_ := hbi h_; rw [hbd] at q_; have := of_decide_eq_false q_; omega
      refine WCs (fun cf aG => ?_)
      refine WCs (fun cg au => ?_)
      refine WCg (WLq 4 [(41, .bool (decide ((j : Int) < (i : Int)))), (40, .bool (decide ((j : Int) < (i : Int)))), (39, .int .i64 (i : Int)), (38, .int .i64 (j : Int))] ?_)
      refine WLa 41 (decide ((j : Int) < (i : Int))) rfl (fun aH => ?_) (fun aH => ?_)
      ·
       have bZ : (j : Int) < (i : Int) := by have q_ := of_decide_eq_true aH; omega
       refine WLq 3 [(44, .bool (decide ((j : Int) < 100))), (43, .bool (decide ((j : Int) < 100))), (42, .int .i64 (j : Int))] (WLd rfl (QXn (au _ _ ?_)))
       refine WCa 44 (decide ((j : Int) < 100)) rfl (fun aI => ?_) (fun aI => ?_)
       ·
        have b0 : (j : Int) < 100 := by have q_ := of_decide_eq_true aI; omega
        refine WCt rfl ?_
        refine WC.skip ?_
        refine QXn (aG _ _ ?_)
        refine WCs (fun ch a2 => ?_)
        refine WC.block ?_
        refine WC.drawC am [] (by kernel_rfl) (fun ci b3 av aa => ?_)
        refine WDq (NPb (NPt (NPt (NPb (NPt (NPb (NPt (NPt (NPb (NPt hN)))))))))) 0 47 (.bool bd2) aa ?_
        refine WDq (NPb (NPt (NPt (NPb (NPt (NPb (NPt (NPt (NPb (NPt hN)))))))))) 1 48 (.bool bd2) aa ?_
        refine WDa 48 (bd2) rfl (fun aJ => ?_) (fun aJ => ?_)
        ·
         refine WDq (NPb (NPt (NPt (NPb (NPt (NPb (NPt (NPt (NPb (NPt hN)))))))))) 2 49 (undef) aa ?_
         refine WDq (NPb (NPt (NPt (NPb (NPt (NPb (NPt (NPt (NPb (NPt hN)))))))))) 3 50 (undef) aa ?_
         refine WDq (NPb (NPt (NPt (NPb (NPt (NPb (NPt (NPt (NPb (NPt hN)))))))))) 4 51 (undef) aa ?_
         refine WDq (NPb (NPt (NPt (NPb (NPt (NPb (NPt (NPt (NPb (NPt hN)))))))))) 5 52 (undef) aa ?_
         refine WDq (NPb (NPt (NPt (NPb (NPt (NPb (NPt (NPt (NPb (NPt hN)))))))))) 6 53 (undef) aa ?_
         refine WDq (NPb (NPt (NPt (NPb (NPt (NPb (NPt (NPt (NPb (NPt hN)))))))))) 7 54 (undef) aa ?_
         refine WDq (NPb (NPt (NPt (NPb (NPt (NPb (NPt (NPt (NPb (NPt hN)))))))))) 8 55 (undef) aa ?_
         refine WDq (NPb (NPt (NPt (NPb (NPt (NPb (NPt (NPt (NPb (NPt hN)))))))))) 9 56 (undef) aa ?_
         refine WDq (NPb (NPt (NPt (NPb (NPt (NPb (NPt (NPt (NPb (NPt hN)))))))))) 10 57 (undef) aa ?_
         refine WDq (NPb (NPt (NPt (NPb (NPt (NPb (NPt (NPt (NPb (NPt hN)))))))))) 11 58 (.bool true) aa ?_
         refine WDq (NPb (NPt (NPt (NPb (NPt (NPb (NPt (NPt (NPb (NPt hN)))))))))) 12 5 (.bool true) aa ?_
         refine WD.done (by kernel_rfl) ?_
         refine QXb ?_
         refine QXn (a2 _ _ ?_)
         refine WCg (WLq 2 [(46, .int .i64 (IntKind.i64.wrap ((j : Int) + 1))), (45, .int .i64 (j : Int))] ?_)
         refine WLt (show (.int .i64 (IntKind.i64.wrap ((j : Int) + 1)) : Value) = .int .i64 ((j : Int) + 1) from by rw [wrap_in_i64 ((j : Int) + 1) (by omega) (by omega)]) ?_
         refine WLq 1 [(7, .int .i64 ((j : Int) + 1))] ?_
         refine WLd rfl ?_
         refine QXn ?_
         have bB := av.pick [] [] rfl rfl
         refine fun a_ ha_ => a1 _ _ _ ?_ ⟨j + 1, true, rfl, rfl, bB, by omega, (by obtain ⟨y_, hy_⟩ := get_some (xs := xs) (i := j) (by omega); exact bad_keep hb2 aJ hy_)⟩ a_ (ha_.weaken (sub_of ⟨rfl, rfl, rfl, rfl, rfl, trivial⟩))
         omega
        ·
         refine WDq (NPb (NPt (NPt (NPb (NPt (NPb (NPt (NPt (NPb (NPt hN)))))))))) 2 49 (.slice A xs.length c) aa ?_
         refine WDq (NPb (NPt (NPt (NPb (NPt (NPb (NPt (NPt (NPb (NPt hN)))))))))) 3 50 (.int .i64 (j : Int)) aa ?_
         obtain ⟨aK, a3⟩ := get_some (xs := xs) (i := j) (by omega)
         obtain ⟨b125, o127, bC, bD⟩ := hr.at_ _ _ a3
         refine WDi (NPb (NPt (NPt (NPb (NPt (NPb (NPt (NPt (NPb (NPt hN)))))))))) 4 A xs.length c 51 .i64 (j : Int) b125 o127 j 1 (by kernel_rfl) (by kernel_rfl) bC (by omega) (by omega) (o127 + j) (by first | (simp; done) | omega) aa ?_
         refine WDq (NPb (NPt (NPt (NPb (NPt (NPb (NPt (NPt (NPb (NPt hN)))))))))) 6 53 (.slice A xs.length c) aa ?_
         refine WDq (NPb (NPt (NPt (NPb (NPt (NPb (NPt (NPt (NPb (NPt hN)))))))))) 7 54 (.int .i64 (i : Int)) aa ?_
         refine WDi (NPb (NPt (NPt (NPb (NPt (NPb (NPt (NPt (NPb (NPt hN)))))))))) 8 A xs.length c 55 .i64 (i : Int) b90 o92 i 1 (by kernel_rfl) (by kernel_rfl) aX (by omega) (by omega) (o92 + i) (by first | (simp; done) | omega) aa ?_
         refine WDm (NPb (NPt (NPt (NPb (NPt (NPb (NPt (NPt (NPb (NPt hN)))))))))) 5 3 (.pointer (some ⟨b125, o127 + j, none⟩)) (.int .i64 aK) 52 (fun _ hS_ => run_load1 rfl (by simpa [Nat.add_assoc] using Fr.cell hS_ (av.fr.cell (bD 0 _ rfl) (by simp)) (by simp))) aa ?_
         refine WDm (NPb (NPt (NPt (NPb (NPt (NPb (NPt (NPt (NPb (NPt hN)))))))))) 9 3 (.pointer (some ⟨b90, o92 + i, none⟩)) (.int .i64 ad) 56 (fun _ hS_ => run_load1 rfl (by simpa [Nat.add_assoc] using Fr.cell hS_ (av.fr.cell (aY 0 _ rfl) (by simp)) (by simp))) aa ?_
         refine WDq (NPb (NPt (NPt (NPb (NPt (NPb (NPt (NPt (NPb (NPt hN)))))))))) 10 57 (.bool (aK == ad)) aa ?_
         refine WDq (NPb (NPt (NPt (NPb (NPt (NPb (NPt (NPt (NPb (NPt hN)))))))))) 11 58 (.bool (aK == ad)) aa ?_
         refine WDq (NPb (NPt (NPt (NPb (NPt (NPb (NPt (NPt (NPb (NPt hN)))))))))) 12 5 (.bool (aK == ad)) aa ?_
         refine WD.done (by kernel_rfl) ?_
         refine QXb ?_
         refine QXn (a2 _ _ ?_)
         refine WCg (WLq 2 [(46, .int .i64 (IntKind.i64.wrap ((j : Int) + 1))), (45, .int .i64 (j : Int))] ?_)
         refine WLt (show (.int .i64 (IntKind.i64.wrap ((j : Int) + 1)) : Value) = .int .i64 ((j : Int) + 1) from by rw [wrap_in_i64 ((j : Int) + 1) (by omega) (by omega)]) ?_
         refine WLq 1 [(7, .int .i64 ((j : Int) + 1))] ?_
         refine WLd rfl ?_
         refine QXn ?_
         have bE := av.pick [] [] rfl rfl
         refine fun a_ ha_ => a1 _ _ _ ?_ ⟨j + 1, (aK == ad), rfl, rfl, bE, by omega, bad_new hb2 aJ a3⟩ a_ (ha_.weaken (sub_of ⟨rfl, rfl, rfl, rfl, rfl, trivial⟩))
         omega
       ·
        have b0 : (100 : Int) ≤ (j : Int) := by have q_ := of_decide_eq_false aI; omega
        refine WCf rfl ?_
        refine WC.exit ?_
        refine QXe ?_
        refine QXe ?_
        refine QX.block_hit ?_
        refine QXn (aZ _ _ ?_)
        refine WCs (fun cj a4 => ?_)
        refine WCg (WLq 1 [(59, .bool bd2)] (WLd rfl (QXn (a4 _ _ ?_))))
        refine WCa 59 (bd2) rfl (fun an => ?_) (fun an => ?_)
        ·
         refine WCt rfl ?_
         refine WCs (fun ck a5 => ?_)
         refine WCg (WLq 1 [(4, .int .i64 9)] (WLd rfl (QXn (a5 _ _ ?_))))
         refine WC.ret ?_
         refine QXk ?_
         refine QXr ?_
         refine QXr ?_
         refine QXk ?_
         refine QXr ?_
         refine (hret _ _ _ rfl ?_).1
         clear hN hret hret' a5 a4 au aG bq aZ ak ae aj ai ah ag af hK6 hK4 hK2
         have hj_ : j = i := by omega
         subst hj_
         exact ⟨by rw [good_9 ⟨by omega, by omega⟩ (bad_ok al (by rw [← hbd, ← hb2, an]))]; rfl, am.fr⟩
        ·
         refine WCf rfl (WC.skip ?_)
         refine QXb ?_
         refine QXn (ae _ _ ?_)
         refine WCg (WLq 2 [(22, .int .i64 (IntKind.i64.wrap ((i : Int) + 1))), (21, .int .i64 (i : Int))] ?_)
         refine WLt (show (.int .i64 (IntKind.i64.wrap ((i : Int) + 1)) : Value) = .int .i64 ((i : Int) + 1) from by rw [wrap_in_i64 ((i : Int) + 1) (by omega) (by omega)]) ?_
         refine WLq 1 [(6, .int .i64 ((i : Int) + 1))] ?_
         refine WLd rfl ?_
         refine QXn ?_
         have bF := am.pick [] [] rfl rfl
         refine fun a_ ha_ => aA _ _ _ ?_ ⟨i + 1, bd2, rfl, rfl, bF, (by omega), (fun _ => an), (by have q_ := hb2; rw [an] at q_ ⊢; have q1_ := (Bool.or_eq_false_iff.1 q_.symm); rw [← hbd, q1_.1]), (by have hj_ : j = i := (by omega); have q_ := hb2; rw [an, hj_] at q_; exact goodTo_step hgt al (Bool.or_eq_false_iff.1 q_.symm).2)⟩ a_ (ha_.weaken (sub_of ⟨rfl, rfl, rfl, rfl, trivial⟩))
         omega
      ·
       have bZ : (i : Int) ≤ (j : Int) := by have q_ := of_decide_eq_false aH; omega
       refine WLq 3 [(44, .bool false), (43, undef), (42, undef)] (WLd rfl (QXn (au _ _ ?_)))
       refine WCf rfl ?_
       refine WC.exit ?_
       refine QXe ?_
       refine QXe ?_
       refine QX.block_hit ?_
       refine QXn (aZ _ _ ?_)
       refine WCs (fun cl a6 => ?_)
       refine WCg (WLq 1 [(59, .bool bd2)] (WLd rfl (QXn (a6 _ _ ?_))))
       refine WCa 59 (bd2) rfl (fun ao => ?_) (fun ao => ?_)
       ·
        refine WCt rfl ?_
        refine WCs (fun cm a7 => ?_)
        refine WCg (WLq 1 [(4, .int .i64 9)] (WLd rfl (QXn (a7 _ _ ?_))))
        refine WC.ret ?_
        refine QXk ?_
        refine QXr ?_
        refine QXr ?_
        refine QXk ?_
        refine QXr ?_
        refine (hret _ _ _ rfl ?_).1
        clear hN hret hret' a7 a6 au aG bq aZ ak ae aj ai ah ag af hK6 hK4 hK2
        have hj_ : j = i := by omega
        subst hj_
        exact ⟨by rw [good_9 ⟨by omega, by omega⟩ (bad_ok al (by rw [← hbd, ← hb2, ao]))]; rfl, am.fr⟩
       ·
        refine WCf rfl (WC.skip ?_)
        refine QXb ?_
        refine QXn (ae _ _ ?_)
        refine WCg (WLq 2 [(22, .int .i64 (IntKind.i64.wrap ((i : Int) + 1))), (21, .int .i64 (i : Int))] ?_)
        refine WLt (show (.int .i64 (IntKind.i64.wrap ((i : Int) + 1)) : Value) = .int .i64 ((i : Int) + 1) from by rw [wrap_in_i64 ((i : Int) + 1) (by omega) (by omega)]) ?_
        refine WLq 1 [(6, .int .i64 ((i : Int) + 1))] ?_
        refine WLd rfl ?_
        refine QXn ?_
        have bG := am.pick [] [] rfl rfl
        refine fun a_ ha_ => aA _ _ _ ?_ ⟨i + 1, bd2, rfl, rfl, bG, (by omega), (fun _ => ao), (by have q_ := hb2; rw [ao] at q_ ⊢; have q1_ := (Bool.or_eq_false_iff.1 q_.symm); rw [← hbd, q1_.1]), (by have hj_ : j = i := (by omega); have q_ := hb2; rw [ao, hj_] at q_; exact goodTo_step hgt al (Bool.or_eq_false_iff.1 q_.symm).2)⟩ a_ (ha_.weaken (sub_of ⟨rfl, rfl, rfl, rfl, trivial⟩))
        omega
     ·
      have cc : (0 : Int) ≤ ad := by have q_ := of_decide_eq_false bp; omega
      refine WLq 2 [(33, .int .i64 (i : Int)), (32, .slice A xs.length c)] ?_
      refine WLi A xs.length c 34 .i64 (i : Int) b90 o92 i 1 (by kernel_rfl) aX (by omega) (by omega) (o92 + i) (by first | (simp; done) | omega) ?_
      refine WLo 3 (.pointer (some ⟨b90, o92 + i, none⟩)) (.int .i64 ad) 35 (run_load1 rfl (by simpa [Nat.add_assoc] using aB.fr.cell (aY 0 _ rfl) (by simp))) ?_
      refine WLq 3 [(5, .bool (decide (ad > 65535))), (37, .bool (decide (ad > 65535))), (36, .bool (decide (ad > 65535)))] (WLd rfl (QXn (ak _ _ ?_)))
      refine WCs (fun cn aw => ?_)
      refine WCs (fun co aL => ?_)
      refine WCg (WLq 1 [(7, .int .i64 0)] (WLd rfl (QXn (aL _ _ ?_))))
      refine WC.block ?_
      refine WC.loop (fun m_ E_ w_ => ∃ (j : Nat) (bd2 : Bool), m_ = i - j ∧ E_ = [(0, .int .i64 per), (1, .slice A xs.length c), (5, .bool bd2), (6, .int .i64 (i : Int)), (7, .int .i64 (j : Int))] ∧ Cx w [] w_ [] [] ∧ (j ≤ i ∧ bd2 = (bd || (!inR ad || (xs.take j).contains ad)))) ⟨_, _, ⟨0, (decide (ad > 65535)), rfl, rfl, aB, Nat.zero_le _, (by simp only [List.take_zero, List.contains_nil, Bool.or_false]; rw [aT, Bool.false_or]; unfold inR; rw [← decide_not]; exact decide_eq_decide.2 (by omega))⟩, sub_of ⟨rfl, rfl, rfl, rfl, rfl, trivial⟩⟩ (fun m161 E_ cp cq a8 bH => ?_)
      obtain ⟨j, bd2, rfl, rfl, ap, hj, hb2⟩ := bH
      have hlb_ : i < 100 ∨ i = 0 := by
       rcases Nat.eq_zero_or_pos i with h_ | h_
       ·
        exact .inr h_
       ·
        have q_ := hbi h_; rw [hbd] at q_; have := of_decide_eq_false q_; omega
      refine WCs (fun cr aM => ?_)
      refine WCs (fun cs ax => ?_)
      refine WCg (WLq 4 [(41, .bool (decide ((j : Int) < (i : Int)))), (40, .bool (decide ((j : Int) < (i : Int)))), (39, .int .i64 (i : Int)), (38, .int .i64 (j : Int))] ?_)
      refine WLa 41 (decide ((j : Int) < (i : Int))) rfl (fun aN => ?_) (fun aN => ?_)
      ·
       have b1 : (j : Int) < (i : Int) := by have q_ := of_decide_eq_true aN; omega
       refine WLq 3 [(44, .bool (decide ((j : Int) < 100))), (43, .bool (decide ((j : Int) < 100))), (42, .int .i64 (j : Int))] (WLd rfl (QXn (ax _ _ ?_)))
       refine WCa 44 (decide ((j : Int) < 100)) rfl (fun aO => ?_) (fun aO => ?_)
       ·
        have b2 : (j : Int) < 100 := by have q_ := of_decide_eq_true aO; omega
        refine WCt rfl ?_
        refine WC.skip ?_
        refine QXn (aM _ _ ?_)
        refine WCs (fun ct a9 => ?_)
        refine WC.block ?_
        refine WC.drawC ap [] (by kernel_rfl) (fun cu b5 ay ab => ?_)
        refine WDq (NPb (NPt (NPt (NPb (NPt (NPb (NPt (NPt (NPb (NPt hN)))))))))) 0 47 (.bool bd2) ab ?_
        refine WDq (NPb (NPt (NPt (NPb (NPt (NPb (NPt (NPt (NPb (NPt hN)))))))))) 1 48 (.bool bd2) ab ?_
        refine WDa 48 (bd2) rfl (fun aP => ?_) (fun aP => ?_)
        ·
         refine WDq (NPb (NPt (NPt (NPb (NPt (NPb (NPt (NPt (NPb (NPt hN)))))))))) 2 49 (undef) ab ?_
         refine WDq (NPb (NPt (NPt (NPb (NPt (NPb (NPt (NPt (NPb (NPt hN)))))))))) 3 50 (undef) ab ?_
         refine WDq (NPb (NPt (NPt (NPb (NPt (NPb (NPt (NPt (NPb (NPt hN)))))))))) 4 51 (undef) ab ?_
         refine WDq (NPb (NPt (NPt (NPb (NPt (NPb (NPt (NPt (NPb (NPt hN)))))))))) 5 52 (undef) ab ?_
         refine WDq (NPb (NPt (NPt (NPb (NPt (NPb (NPt (NPt (NPb (NPt hN)))))))))) 6 53 (undef) ab ?_
         refine WDq (NPb (NPt (NPt (NPb (NPt (NPb (NPt (NPt (NPb (NPt hN)))))))))) 7 54 (undef) ab ?_
         refine WDq (NPb (NPt (NPt (NPb (NPt (NPb (NPt (NPt (NPb (NPt hN)))))))))) 8 55 (undef) ab ?_
         refine WDq (NPb (NPt (NPt (NPb (NPt (NPb (NPt (NPt (NPb (NPt hN)))))))))) 9 56 (undef) ab ?_
         refine WDq (NPb (NPt (NPt (NPb (NPt (NPb (NPt (NPt (NPb (NPt hN)))))))))) 10 57 (undef) ab ?_
         refine WDq (NPb (NPt (NPt (NPb (NPt (NPb (NPt (NPt (NPb (NPt hN)))))))))) 11 58 (.bool true) ab ?_
         refine WDq (NPb (NPt (NPt (NPb (NPt (NPb (NPt (NPt (NPb (NPt hN)))))))))) 12 5 (.bool true) ab ?_
         refine WD.done (by kernel_rfl) ?_
         refine QXb ?_
         refine QXn (a9 _ _ ?_)
         refine WCg (WLq 2 [(46, .int .i64 (IntKind.i64.wrap ((j : Int) + 1))), (45, .int .i64 (j : Int))] ?_)
         refine WLt (show (.int .i64 (IntKind.i64.wrap ((j : Int) + 1)) : Value) = .int .i64 ((j : Int) + 1) from by rw [wrap_in_i64 ((j : Int) + 1) (by omega) (by omega)]) ?_
         refine WLq 1 [(7, .int .i64 ((j : Int) + 1))] ?_
         refine WLd rfl ?_
         refine QXn ?_
         have bI := ay.pick [] [] rfl rfl
         refine fun a_ ha_ => a8 _ _ _ ?_ ⟨j + 1, true, rfl, rfl, bI, by omega, (by obtain ⟨y_, hy_⟩ := get_some (xs := xs) (i := j) (by omega); exact bad_keep hb2 aP hy_)⟩ a_ (ha_.weaken (sub_of ⟨rfl, rfl, rfl, rfl, rfl, trivial⟩))
         omega
        ·
         refine WDq (NPb (NPt (NPt (NPb (NPt (NPb (NPt (NPt (NPb (NPt hN)))))))))) 2 49 (.slice A xs.length c) ab ?_
         refine WDq (NPb (NPt (NPt (NPb (NPt (NPb (NPt (NPt (NPb (NPt hN)))))))))) 3 50 (.int .i64 (j : Int)) ab ?_
         obtain ⟨aQ, ba⟩ := get_some (xs := xs) (i := j) (by omega)
         obtain ⟨b180, o182, bJ, bK⟩ := hr.at_ _ _ ba
         refine WDi (NPb (NPt (NPt (NPb (NPt (NPb (NPt (NPt (NPb (NPt hN)))))))))) 4 A xs.length c 51 .i64 (j : Int) b180 o182 j 1 (by kernel_rfl) (by kernel_rfl) bJ (by omega) (by omega) (o182 + j) (by first | (simp; done) | omega) ab ?_
         refine WDq (NPb (NPt (NPt (NPb (NPt (NPb (NPt (NPt (NPb (NPt hN)))))))))) 6 53 (.slice A xs.length c) ab ?_
         refine WDq (NPb (NPt (NPt (NPb (NPt (NPb (NPt (NPt (NPb (NPt hN)))))))))) 7 54 (.int .i64 (i : Int)) ab ?_
         refine WDi (NPb (NPt (NPt (NPb (NPt (NPb (NPt (NPt (NPb (NPt hN)))))))))) 8 A xs.length c 55 .i64 (i : Int) b90 o92 i 1 (by kernel_rfl) (by kernel_rfl) aX (by omega) (by omega) (o92 + i) (by first | (simp; done) | omega) ab ?_
         refine WDm (NPb (NPt (NPt (NPb (NPt (NPb (NPt (NPt (NPb (NPt hN)))))))))) 5 3 (.pointer (some ⟨b180, o182 + j, none⟩)) (.int .i64 aQ) 52 (fun _ hS_ => run_load1 rfl (by simpa [Nat.add_assoc] using Fr.cell hS_ (ay.fr.cell (bK 0 _ rfl) (by simp)) (by simp))) ab ?_
         refine WDm (NPb (NPt (NPt (NPb (NPt (NPb (NPt (NPt (NPb (NPt hN)))))))))) 9 3 (.pointer (some ⟨b90, o92 + i, none⟩)) (.int .i64 ad) 56 (fun _ hS_ => run_load1 rfl (by simpa [Nat.add_assoc] using Fr.cell hS_ (ay.fr.cell (aY 0 _ rfl) (by simp)) (by simp))) ab ?_
         refine WDq (NPb (NPt (NPt (NPb (NPt (NPb (NPt (NPt (NPb (NPt hN)))))))))) 10 57 (.bool (aQ == ad)) ab ?_
         refine WDq (NPb (NPt (NPt (NPb (NPt (NPb (NPt (NPt (NPb (NPt hN)))))))))) 11 58 (.bool (aQ == ad)) ab ?_
         refine WDq (NPb (NPt (NPt (NPb (NPt (NPb (NPt (NPt (NPb (NPt hN)))))))))) 12 5 (.bool (aQ == ad)) ab ?_
         refine WD.done (by kernel_rfl) ?_
         refine QXb ?_
         refine QXn (a9 _ _ ?_)
         refine WCg (WLq 2 [(46, .int .i64 (IntKind.i64.wrap ((j : Int) + 1))), (45, .int .i64 (j : Int))] ?_)
         refine WLt (show (.int .i64 (IntKind.i64.wrap ((j : Int) + 1)) : Value) = .int .i64 ((j : Int) + 1) from by rw [wrap_in_i64 ((j : Int) + 1) (by omega) (by omega)]) ?_
         refine WLq 1 [(7, .int .i64 ((j : Int) + 1))] ?_
         refine WLd rfl ?_
         refine QXn ?_
         have bL := ay.pick [] [] rfl rfl
         refine fun a_ ha_ => a8 _ _ _ ?_ ⟨j + 1, (aQ == ad), rfl, rfl, bL, by omega, bad_new hb2 aP ba⟩ a_ (ha_.weaken (sub_of ⟨rfl, rfl, rfl, rfl, rfl, trivial⟩))
         omega
       ·
        have b2 : (100 : Int) ≤ (j : Int) := by have q_ := of_decide_eq_false aO; omega
        refine WCf rfl ?_
        refine WC.exit ?_
        refine QXe ?_
        refine QXe ?_
        refine QX.block_hit ?_
        refine QXn (aw _ _ ?_)
        refine WCs (fun cv bb => ?_)
        refine WCg (WLq 1 [(59, .bool bd2)] (WLd rfl (QXn (bb _ _ ?_))))
        refine WCa 59 (bd2) rfl (fun aq => ?_) (fun aq => ?_)
        ·
         refine WCt rfl ?_
         refine WCs (fun cw bc => ?_)
         refine WCg (WLq 1 [(4, .int .i64 9)] (WLd rfl (QXn (bc _ _ ?_))))
         refine WC.ret ?_
         refine QXk ?_
         refine QXr ?_
         refine QXr ?_
         refine QXk ?_
         refine QXr ?_
         refine (hret _ _ _ rfl ?_).1
         clear hN hret hret' bc bb ax aM aL aw ak ae aj ai ah ag af hK6 hK4 hK2
         have hj_ : j = i := by omega
         subst hj_
         exact ⟨by rw [good_9 ⟨by omega, by omega⟩ (bad_ok al (by rw [← hbd, ← hb2, aq]))]; rfl, ap.fr⟩
        ·
         refine WCf rfl (WC.skip ?_)
         refine QXb ?_
         refine QXn (ae _ _ ?_)
         refine WCg (WLq 2 [(22, .int .i64 (IntKind.i64.wrap ((i : Int) + 1))), (21, .int .i64 (i : Int))] ?_)
         refine WLt (show (.int .i64 (IntKind.i64.wrap ((i : Int) + 1)) : Value) = .int .i64 ((i : Int) + 1) from by rw [wrap_in_i64 ((i : Int) + 1) (by omega) (by omega)]) ?_
         refine WLq 1 [(6, .int .i64 ((i : Int) + 1))] ?_
         refine WLd rfl ?_
         refine QXn ?_
         have bM := ap.pick [] [] rfl rfl
         refine fun a_ ha_ => aA _ _ _ ?_ ⟨i + 1, bd2, rfl, rfl, bM, (by omega), (fun _ => aq), (by have q_ := hb2; rw [aq] at q_ ⊢; have q1_ := (Bool.or_eq_false_iff.1 q_.symm); rw [← hbd, q1_.1]), (by have hj_ : j = i := (by omega); have q_ := hb2; rw [aq, hj_] at q_; exact goodTo_step hgt al (Bool.or_eq_false_iff.1 q_.symm).2)⟩ a_ (ha_.weaken (sub_of ⟨rfl, rfl, rfl, rfl, trivial⟩))
         omega
      ·
       have b1 : (i : Int) ≤ (j : Int) := by have q_ := of_decide_eq_false aN; omega
       refine WLq 3 [(44, .bool false), (43, undef), (42, undef)] (WLd rfl (QXn (ax _ _ ?_)))
       refine WCf rfl ?_
       refine WC.exit ?_
       refine QXe ?_
       refine QXe ?_
       refine QX.block_hit ?_
       refine QXn (aw _ _ ?_)
       refine WCs (fun cx be => ?_)
       refine WCg (WLq 1 [(59, .bool bd2)] (WLd rfl (QXn (be _ _ ?_))))
       refine WCa 59 (bd2) rfl (fun ar => ?_) (fun ar => ?_)
       ·
        refine WCt rfl ?_
        refine WCs (fun cy bf => ?_)
        refine WCg (WLq 1 [(4, .int .i64 9)] (WLd rfl (QXn (bf _ _ ?_))))
        refine WC.ret ?_
        refine QXk ?_
        refine QXr ?_
        refine QXr ?_
        refine QXk ?_
        refine QXr ?_
        refine (hret _ _ _ rfl ?_).1
        clear hN hret hret' bf be ax aM aL aw ak ae aj ai ah ag af hK6 hK4 hK2
        have hj_ : j = i := by omega
        subst hj_
        exact ⟨by rw [good_9 ⟨by omega, by omega⟩ (bad_ok al (by rw [← hbd, ← hb2, ar]))]; rfl, ap.fr⟩
       ·
        refine WCf rfl (WC.skip ?_)
        refine QXb ?_
        refine QXn (ae _ _ ?_)
        refine WCg (WLq 2 [(22, .int .i64 (IntKind.i64.wrap ((i : Int) + 1))), (21, .int .i64 (i : Int))] ?_)
        refine WLt (show (.int .i64 (IntKind.i64.wrap ((i : Int) + 1)) : Value) = .int .i64 ((i : Int) + 1) from by rw [wrap_in_i64 ((i : Int) + 1) (by omega) (by omega)]) ?_
        refine WLq 1 [(6, .int .i64 ((i : Int) + 1))] ?_
        refine WLd rfl ?_
        refine QXn ?_
        have bN := ap.pick [] [] rfl rfl
        refine fun a_ ha_ => aA _ _ _ ?_ ⟨i + 1, bd2, rfl, rfl, bN, (by omega), (fun _ => ar), (by have q_ := hb2; rw [ar] at q_ ⊢; have q1_ := (Bool.or_eq_false_iff.1 q_.symm); rw [← hbd, q1_.1]), (by have hj_ : j = i := (by omega); have q_ := hb2; rw [ar, hj_] at q_; exact goodTo_step hgt al (Bool.or_eq_false_iff.1 q_.symm).2)⟩ a_ (ha_.weaken (sub_of ⟨rfl, rfl, rfl, rfl, trivial⟩))
        omega
   ·
    have b7 : (xs.length : Int) ≤ (i : Int) := by have q_ := of_decide_eq_false bj; omega
    refine WCf rfl ?_
    refine WC.exit ?_
    refine QXe ?_
    refine QXe ?_
    refine QX.block_hit ?_
    refine QXn (ag _ _ ?_)
    refine WCs (fun cz aR => ?_)
    refine WCs (fun cA aS => ?_)
    refine WCg (WLq 1 [(60, .bool bd)] (WLd rfl (QXn (aS _ _ ?_))))
    refine WCa 60 (bd) rfl (fun az => ?_) (fun az => ?_)
    ·
     refine WCt rfl ?_
     refine WCs (fun cB bg => ?_)
     refine WCg (WLq 1 [(4, .int .i64 9)] (WLd rfl (QXn (bg _ _ ?_))))
     refine WC.ret ?_
     refine QXr ?_
     refine (hret _ _ _ rfl ?_).1
     clear hN hret hret' bg aS aR aj ai ah ag af hK6 hK4 hK2
     exfalso
     have h0_ : i = 0 := by
      rcases Nat.eq_zero_or_pos i with h_ | h_
      ·
       exact h_
      ·
       have q_ := hbi h_; rw [az] at q_; cases q_
     rw [az] at hbd
     have := of_decide_eq_true hbd.symm
     omega
    ·
     refine WCf rfl (WC.skip (QXn (aR _ _ ?_)))
     refine WCs (fun cC bh => ?_)
     refine WCg (WLq 1 [(4, .int .i64 0)] (WLd rfl (QXn (bh _ _ ?_))))
     refine WC.ret ?_
     refine (hret _ _ _ rfl ?_).1
     clear hN hret hret' bh aS aR aj ai ah ag af hK6 hK4 hK2
     rw [az] at hbd
     have cD := of_decide_eq_false hbd.symm
     have hie_ : i = xs.length := by omega
     rw [hie_] at hgt
     exact ⟨by rw [good_0 ⟨by omega, by omega⟩ (goodTo_ok hgt (by omega))]; rfl, aB.fr⟩

set_option maxHeartbeats 1000000 in
theorem RSorted_ct (A : Option Addr) (c : Nat) (xs : List Int) (w : World) (hr : Rd w 1 (Go.Tw.encI .i64) A xs) (hl : xs.length ≤ 1099511627776) : Calls Try.prog 16 #[.slice A xs.length c] w fun e w' => ∃ v, e = .returned v ∧ Fr w w' [] ∧ w'.ownsRow w.heap.size 3 1 v xs.length ((sortI xs).flatMap (Go.Tw.encI .i64)) := by
 refine enterD (n := 58) Try.func16 rfl rfl (Nat.le_of_ble_eq_true rfl) ?_
 intro Q0 hN hret hret'
 have hC := Cx.start w
 refine WCs (fun K1 hK2 => ?_)
 refine WCg (WLq 1 [(2, .slice none 0 0)] (WLd rfl (QXn (hK2 _ _ ?_))))
 refine WCs (fun K3 hK4 => ?_)
 refine WCg (WLq 1 [(3, .slice none 0 0)] (WLd rfl (QXn (hK4 _ _ ?_))))
 refine WCs (fun K5 hK6 => ?_)
 refine WCs (fun K7 hK8 => ?_)
 refine WCg (WLq 1 [(4, .int .i64 0)] (WLd rfl (QXn (hK8 _ _ ?_))))
 refine WC.block ?_
 have hC9 := hC.addNil
 refine WC.loop (fun m_ E_ w_ => ∃ (i : Nat) (A5 : Option Addr) (n5 c5 : Nat), m_ = xs.length - i ∧ E_ = [(0, .slice A xs.length c), (2, .slice none 0 0), (3, .slice A5 n5 c5), (4, .int .i64 (i : Int))] ∧ Cx w [] w_ [] [blk (.slice A5 n5 c5)] ∧ World.ownsRow w_ 0 3 1 (.slice A5 n5 c5) n5 ((sortR (xs.take i)).flatMap (Go.Tw.encI .i64)) ∧ (i ≤ xs.length)) ⟨_, _, ⟨0, none, 0, 0, rfl, rfl, hC9, own_nil _ _ _ _, Nat.zero_le _⟩, sub_of ⟨rfl, rfl, rfl, rfl, trivial⟩⟩ (fun m13 E_ cI cJ aY bS => ?_)
 obtain ⟨i, A5, n5, c5, rfl, rfl, aG, hout, hi⟩ := bS
 have hon_ := own_count (Go.Tw.encI_len _) (by decide) hout
 have hsl_ := sortR_len (xs.take i)
 rw [List.length_take] at hsl_
 refine WCs (fun cK aZ => ?_)
 refine WCs (fun cL a0 => ?_)
 refine WCg (WLq 4 [(11, .bool (decide ((i : Int) < (xs.length : Int)))), (10, .int .i64 (xs.length : Int)), (9, .slice A xs.length c), (8, .int .i64 (i : Int))] (WLd rfl (QXn (a0 _ _ ?_))))
 refine WCa 11 (decide ((i : Int) < (xs.length : Int))) rfl (fun aH => ?_) (fun aH => ?_)
 ·
  have co : (i : Int) < (xs.length : Int) := by have q_ := of_decide_eq_true aH; omega
  refine WCt rfl ?_
  refine WC.skip ?_
  refine QXn (aZ _ _ ?_)
  refine WCs (fun cM a1 => ?_)
  refine WC.block ?_
  refine WCs (fun cN bT => ?_)
  refine WCg (WLq 1 [(5, .slice none 0 0)] (WLd rfl (QXn (bT _ _ ?_))))
  refine WCs (fun cO bU => ?_)
  refine WCg (WLq 1 [(6, .bool false)] (WLd rfl (QXn (bU _ _ ?_))))
  refine WCs (fun cP bV => ?_)
  refine WCs (fun cQ bW => ?_)
  refine WCg (WLq 1 [(7, .int .i64 0)] (WLd rfl (QXn (bW _ _ ?_))))
  refine WC.block ?_
  obtain ⟨ab, aI⟩ := get_some (xs := xs) (i := i) (by omega)
  obtain ⟨b33, o35, aJ, aK⟩ := hr.at_ _ _ aI
  have bX := aG.addNil
  refine WC.loop (fun m_ E_ w_ => ∃ (j : Nat) (dn : Bool) (A6 : Option Addr) (n6 c6 : Nat), m_ = n5 - j ∧ E_ = [(0, .slice A xs.length c), (2, .slice none 0 0), (3, .slice A5 n5 c5), (4, .int .i64 (i : Int)), (5, .slice A6 n6 c6), (6, .bool dn), (7, .int .i64 (j : Int))] ∧ Cx w [] w_ [] [blk (.slice A5 n5 c5), blk (.slice A6 n6 c6)] ∧ World.ownsRow w_ 0 3 1 (.slice A5 n5 c5) n5 ((sortR (xs.take i)).flatMap (Go.Tw.encI .i64)) ∧ World.ownsRow w_ 0 3 1 (.slice A6 n6 c6) n6 ((nextL ab ((sortR (xs.take i)).take j) dn).flatMap (Go.Tw.encI .i64)) ∧ (j ≤ n5 ∧ dn = anyLt ab ((sortR (xs.take i)).take j))) ⟨_, _, ⟨0, false, none, 0, 0, rfl, rfl, bX, hout, own_nil _ _ _ _, Nat.zero_le _, rfl⟩, sub_of ⟨rfl, rfl, rfl, rfl, rfl, rfl, rfl, trivial⟩⟩ (fun m41 E_ cR cS aL bY => ?_)
  obtain ⟨j, dn, A6, n6, c6, rfl, rfl, ap, out_m41, hnext, hj, hdn⟩ := bY
  have hnn_ := own_count (Go.Tw.encI_len _) (by decide) hnext
  have hnl_ := nextL_len ab ((sortR (xs.take i)).take j) dn
  rw [List.length_take] at hnl_
  refine WCs (fun cT bZ => ?_)
  refine WCs (fun cU b0 => ?_)
  refine WCg (WLq 4 [(17, .bool (decide ((j : Int) < (n5 : Int)))), (16, .int .i64 (n5 : Int)), (15, .slice A5 n5 c5), (14, .int .i64 (j : Int))] (WLd rfl (QXn (b0 _ _ ?_))))
  refine WCa 17 (decide ((j : Int) < (n5 : Int))) rfl (fun aM => ?_) (fun aM => ?_)
  ·
   have cp : (j : Int) < (n5 : Int) := by have q_ := of_decide_eq_true aM; omega
   refine WCt rfl ?_
   refine WC.skip ?_
   refine QXn (bZ _ _ ?_)
   refine WCs (fun cV aN => ?_)
   refine WC.block ?_
   refine WCs (fun cW aO => ?_)
   refine WCs (fun cX a2 => ?_)
   refine WC.drawC ap [] (by kernel_rfl) (fun cY a3 ai aa => ?_)
   have ac := own_fr out_m41 a3 (by simp)
   have aP := own_fr hnext a3 (by simp)
   refine WDq (NPt (NPt (NPb (NPt (NPt (NPb (NPt (NPb (NPt (NPt (NPb (NPt hN)))))))))))) 0 20 (.bool dn) aa ?_
   refine WDq (NPt (NPt (NPb (NPt (NPt (NPb (NPt (NPb (NPt (NPt (NPb (NPt hN)))))))))))) 1 21 (.bool !dn) aa ?_
   refine WDq (NPt (NPt (NPb (NPt (NPt (NPb (NPt (NPb (NPt (NPt (NPb (NPt hN)))))))))))) 2 22 (.bool !dn) aa ?_
   refine WDa 22 (!dn) rfl (fun aj => ?_) (fun aj => ?_)
   ·
    have aq : dn = false := by first | (simpa only [Bool.not_eq_true', Bool.not_eq_false'] using aj) | simpa using aj
    refine WDq (NPt (NPt (NPb (NPt (NPt (NPb (NPt (NPb (NPt (NPt (NPb (NPt hN)))))))))))) 3 23 (.slice A xs.length c) aa ?_
    refine WDq (NPt (NPt (NPb (NPt (NPt (NPb (NPt (NPb (NPt (NPt (NPb (NPt hN)))))))))))) 4 24 (.int .i64 (i : Int)) aa ?_
    refine WDi (NPt (NPt (NPb (NPt (NPt (NPb (NPt (NPb (NPt (NPt (NPb (NPt hN)))))))))))) 5 A xs.length c 25 .i64 (i : Int) b33 o35 i 1 (by kernel_rfl) (by kernel_rfl) aJ (by omega) (by omega) (o35 + i) (by first | (simp; done) | omega) aa ?_
    refine WDq (NPt (NPt (NPb (NPt (NPt (NPb (NPt (NPb (NPt (NPt (NPb (NPt hN)))))))))))) 7 27 (.slice A5 n5 c5) aa ?_
    refine WDq (NPt (NPt (NPb (NPt (NPt (NPb (NPt (NPb (NPt (NPt (NPb (NPt hN)))))))))))) 8 28 (.int .i64 (j : Int)) aa ?_
    have cq := own_count (Go.Tw.encI_len _) (by decide) ac
    obtain ⟨af, ad⟩ := get_some (xs := (sortR (xs.take i))) (i := j) (by omega)
    obtain ⟨b68, ah⟩ := own_addr (by decide) (Go.Tw.encI_len _) ac ad
    refine WDi (NPt (NPt (NPb (NPt (NPt (NPb (NPt (NPb (NPt (NPt (NPb (NPt hN)))))))))))) 9 A5 n5 c5 29 .i64 (j : Int) b68 0 j 1 (by kernel_rfl) (by kernel_rfl) ah (by omega) (by omega) j (by first | (simp; done) | omega) aa ?_
    refine WDm (NPt (NPt (NPb (NPt (NPt (NPb (NPt (NPb (NPt (NPt (NPb (NPt hN)))))))))))) 6 3 (.pointer (some ⟨b33, o35 + i, none⟩)) (.int .i64 ab) 26 (fun _ hS_ => run_load1 rfl (by simpa [Nat.add_assoc] using Fr.cell hS_ (ai.fr.cell (aK 0 _ rfl) (by simp)) (by simp))) aa ?_
    refine WDm (NPt (NPt (NPb (NPt (NPt (NPb (NPt (NPb (NPt (NPt (NPb (NPt hN)))))))))))) 10 3 (.pointer (some ⟨b68, j, none⟩)) (.int .i64 af) 30 (fun _ hS_ => run_load1 rfl (by simpa [Nat.add_assoc] using Rd.cell (own_rd (own_fr ac hS_ (by simp)) (Go.Tw.encI_len _) (by decide)) ah ad 0 _ rfl)) aa ?_
    refine WDq (NPt (NPt (NPb (NPt (NPt (NPb (NPt (NPb (NPt (NPt (NPb (NPt hN)))))))))))) 11 31 (.bool (decide (ab < af))) aa ?_
    refine WDq (NPt (NPt (NPb (NPt (NPt (NPb (NPt (NPb (NPt (NPt (NPb (NPt hN)))))))))))) 12 32 (.bool (decide (ab < af))) aa ?_
    refine WD.done (by kernel_rfl) ?_
    refine QXn (a2 _ _ ?_)
    refine WCa 32 (decide (ab < af)) rfl (fun aQ => ?_) (fun aQ => ?_)
    ·
     have cr : ab < af := by have q_ := of_decide_eq_true aQ; omega
     refine WCt rfl ?_
     refine WCs (fun cZ b1 => ?_)
     refine WCg (WLq 3 [(35, .int .i64 (i : Int)), (34, .slice A xs.length c), (33, .slice A6 n6 c6)] ?_)
     refine WLi A xs.length c 36 .i64 (i : Int) b33 o35 i 1 (by kernel_rfl) aJ (by omega) (by omega) (o35 + i) (by first | (simp; done) | omega) ?_
     refine WLo 3 (.pointer (some ⟨b33, o35 + i, none⟩)) (.int .i64 ab) 37 (run_load1 rfl (by simpa [Nat.add_assoc] using ai.fr.cell (aK 0 _ rfl) (by simp))) ?_
     refine WL.newM ai (fun b => .slice (some ⟨b, 0, none⟩) 1 1) (.cells #[.int .i64 ab] 3) 38 (fun _ => by kernel_rfl) (fun cg c3 cs a4 aR => ?_)
     have b2 := own_fr ac a4 (by simp)
     have b3 := own_fr aP a4 (by simp)
     obtain ⟨c4, c7, b5, b6, b7, b9, ca, cb⟩ := app_run Try.prog aR 1 (v := .slice A6 n6 c6) rfl 31 31 3 1 8 n6 1 1 (some ⟨cg, 0, none⟩) rfl b3 [.int .i64 ab] rfl (srcOk.blk 1 (aR.get 0 rfl)) rfl (by simp only [maxLen]; omega) (by omega)
     have a5 := own_snoc (enc := (Go.Tw.encI .i64)) (ys := (nextL ab ((sortR (xs.take i)).take j) dn)) ab b6
     obtain ⟨a6, a7, rfl, ch⟩ := own_form a5
     refine WL.sem (Builtin.append_ #[31, 31] 31 #[.slice A6 n6 c6, .slice (some ⟨cg, 0, none⟩) 1 1]) 39 (.slice a6 (n6 + 1) a7) (by kernel_rfl) b5 ?_
     have a8 := own_fr b2 b7 (aR.disj 0 1 rfl rfl (by decide))
     refine WLq 1 [(5, .slice a6 (n6 + 1) a7)] (WLd rfl (QXn (b1 _ _ ?_)))
     refine WCg (WLq 1 [(6, .bool true)] (WLd rfl (QXn (aO _ _ ?_))))
     refine WCg (WLq 3 [(42, .int .i64 (j : Int)), (41, .slice A5 n5 c5), (40, .slice a6 (n6 + 1) a7)] ?_)
     refine WLi A5 n5 c5 43 .i64 (j : Int) b68 0 j 1 (by kernel_rfl) ah (by omega) (by omega) j (by first | (simp; done) | omega) ?_
     refine WLo 3 (.pointer (some ⟨b68, j, none⟩)) (.int .i64 af) 44 (run_load1 rfl (by simpa [Nat.add_assoc] using Rd.cell (own_rd a8 (Go.Tw.encI_len _) (by decide)) ah ad 0 _ rfl)) ?_
     refine WL.newM b9 (fun b => .slice (some ⟨b, 0, none⟩) 1 1) (.cells #[.int .i64 af] 3) 45 (fun _ => by kernel_rfl) (fun a9 ct ci av ak => ?_)
     have ba := own_fr a8 av (by simp)
     have bb := own_fr a5 av (by simp)
     obtain ⟨cu, cv, bc, bd, be, bf, bK, bL⟩ := app_run Try.prog ak 1 (v := .slice a6 (n6 + 1) a7) rfl 31 31 3 1 8 (n6 + 1) 1 1 (some ⟨a9, 0, none⟩) rfl bb [.int .i64 af] rfl (srcOk.blk 1 (ak.get 1 rfl)) rfl (by simp only [maxLen]; omega) (by omega)
     have aw := own_snoc (enc := (Go.Tw.encI .i64)) (ys := (nextL ab ((sortR (xs.take i)).take j) dn) ++ [ab]) af bd
     obtain ⟨aS, aT, rfl, cc⟩ := own_form aw
     refine WL.sem (Builtin.append_ #[31, 31] 31 #[.slice a6 (n6 + 1) a7, .slice (some ⟨a9, 0, none⟩) 1 1]) 46 (.slice aS (n6 + 1 + 1) aT) (by kernel_rfl) bc ?_
     have bg := own_fr ba be (ak.disj 0 1 rfl rfl (by decide))
     refine WLq 1 [(5, .slice aS (n6 + 1 + 1) aT)] ?_
     refine WLd rfl ?_
     refine QXb ?_
     refine QXn (aN _ _ ?_)
     refine WCg (WLq 2 [(19, .int .i64 (IntKind.i64.wrap ((j : Int) + 1))), (18, .int .i64 (j : Int))] ?_)
     refine WLt (show (.int .i64 (IntKind.i64.wrap ((j : Int) + 1)) : Value) = .int .i64 ((j : Int) + 1) from by rw [wrap_in_i64 ((j : Int) + 1) (by omega) (by omega)]) ?_
     refine WLq 1 [(7, .int .i64 ((j : Int) + 1))] ?_
     refine WLd rfl ?_
     refine QXn ?_
     have bh := bf.pick [] [0, 1] rfl rfl
     refine fun a_ ha_ => aL _ _ _ ?_ ⟨j + 1, true, aS, n6 + 1 + 1, aT, rfl, rfl, bh, bg, (by have q_ := aw; rw [aq] at q_; rw [next_hit ad (by rw [← hdn, aq]) (by omega)]; exact q_), by omega, by rw [any_takeL ad, ← hdn, aq, decide_eq_true (by omega)]; rfl⟩ a_ (ha_.weaken (sub_of ⟨rfl, rfl, rfl, rfl, rfl, rfl, rfl, trivial⟩))
     omega
    ·
     have cr : af ≤ ab := by have q_ := of_decide_eq_false aQ; omega
     refine WCf rfl (WC.skip (QXn (aO _ _ ?_)))
     refine WCg (WLq 3 [(42, .int .i64 (j : Int)), (41, .slice A5 n5 c5), (40, .slice A6 n6 c6)] ?_)
     refine WLi A5 n5 c5 43 .i64 (j : Int) b68 0 j 1 (by kernel_rfl) ah (by omega) (by omega) j (by first | (simp; done) | omega) ?_
     refine WLo 3 (.pointer (some ⟨b68, j, none⟩)) (.int .i64 af) 44 (run_load1 rfl (by simpa [Nat.add_assoc] using Rd.cell (own_rd ac (Go.Tw.encI_len _) (by decide)) ah ad 0 _ rfl)) ?_
     refine WL.newM ai (fun b => .slice (some ⟨b, 0, none⟩) 1 1) (.cells #[.int .i64 af] 3) 45 (fun _ => by kernel_rfl) (fun bi cw cj ax al => ?_)
     have bj := own_fr ac ax (by simp)
     have bk := own_fr aP ax (by simp)
     obtain ⟨cx, cy, bl, bm, bn, bo, bM, bN⟩ := app_run Try.prog al 1 (v := .slice A6 n6 c6) rfl 31 31 3 1 8 n6 1 1 (some ⟨bi, 0, none⟩) rfl bk [.int .i64 af] rfl (srcOk.blk 1 (al.get 0 rfl)) rfl (by simp only [maxLen]; omega) (by omega)
     have ay := own_snoc (enc := (Go.Tw.encI .i64)) (ys := (nextL ab ((sortR (xs.take i)).take j) dn)) af bm
     obtain ⟨aU, aV, rfl, cd⟩ := own_form ay
     refine WL.sem (Builtin.append_ #[31, 31] 31 #[.slice A6 n6 c6, .slice (some ⟨bi, 0, none⟩) 1 1]) 46 (.slice aU (n6 + 1) aV) (by kernel_rfl) bl ?_
     have bp := own_fr bj bn (al.disj 0 1 rfl rfl (by decide))
     refine WLq 1 [(5, .slice aU (n6 + 1) aV)] ?_
     refine WLd rfl ?_
     refine QXb ?_
     refine QXn (aN _ _ ?_)
     refine WCg (WLq 2 [(19, .int .i64 (IntKind.i64.wrap ((j : Int) + 1))), (18, .int .i64 (j : Int))] ?_)
     refine WLt (show (.int .i64 (IntKind.i64.wrap ((j : Int) + 1)) : Value) = .int .i64 ((j : Int) + 1) from by rw [wrap_in_i64 ((j : Int) + 1) (by omega) (by omega)]) ?_
     refine WLq 1 [(7, .int .i64 ((j : Int) + 1))] ?_
     refine WLd rfl ?_
     refine QXn ?_
     have bq := bo.pick [] [0, 1] rfl rfl
     refine fun a_ ha_ => aL _ _ _ ?_ ⟨j + 1, dn, aU, n6 + 1, aV, rfl, rfl, bq, bp, (by have q_ := ay; rw [aq] at q_ ⊢; rw [next_miss ad]; exact q_), by omega, by rw [any_takeL ad, ← hdn, aq, decide_eq_false (by omega)]; rfl⟩ a_ (ha_.weaken (sub_of ⟨rfl, rfl, rfl, rfl, rfl, rfl, rfl, trivial⟩))
     omega
   ·
    have aq : dn = true := by first | (simpa only [Bool.not_eq_true', Bool.not_eq_false'] using aj) | simpa using aj
    refine WDq (NPt (NPt (NPb (NPt (NPt (NPb (NPt (NPb (NPt (NPt (NPb (NPt hN)))))))))))) 3 23 (undef) aa ?_
    refine WDq (NPt (NPt (NPb (NPt (NPt (NPb (NPt (NPb (NPt (NPt (NPb (NPt hN)))))))))))) 4 24 (undef) aa ?_
    refine WDq (NPt (NPt (NPb (NPt (NPt (NPb (NPt (NPb (NPt (NPt (NPb (NPt hN)))))))))))) 5 25 (undef) aa ?_
    refine WDq (NPt (NPt (NPb (NPt (NPt (NPb (NPt (NPb (NPt (NPt (NPb (NPt hN)))))))))))) 6 26 (undef) aa ?_
    refine WDq (NPt (NPt (NPb (NPt (NPt (NPb (NPt (NPb (NPt (NPt (NPb (NPt hN)))))))))))) 7 27 (undef) aa ?_
    refine WDq (NPt (NPt (NPb (NPt (NPt (NPb (NPt (NPb (NPt (NPt (NPb (NPt hN)))))))))))) 8 28 (undef) aa ?_
    refine WDq (NPt (NPt (NPb (NPt (NPt (NPb (NPt (NPb (NPt (NPt (NPb (NPt hN)))))))))))) 9 29 (undef) aa ?_
    refine WDq (NPt (NPt (NPb (NPt (NPt (NPb (NPt (NPb (NPt (NPt (NPb (NPt hN)))))))))))) 10 30 (undef) aa ?_
    refine WDq (NPt (NPt (NPb (NPt (NPt (NPb (NPt (NPb (NPt (NPt (NPb (NPt hN)))))))))))) 11 31 (undef) aa ?_
    refine WDq (NPt (NPt (NPb (NPt (NPt (NPb (NPt (NPb (NPt (NPt (NPb (NPt hN)))))))))))) 12 32 (.bool false) aa ?_
    refine WD.done (by kernel_rfl) ?_
    refine QXn (a2 _ _ ?_)
    refine WCf rfl (WC.skip (QXn (aO _ _ ?_)))
    refine WCg (WLq 3 [(42, .int .i64 (j : Int)), (41, .slice A5 n5 c5), (40, .slice A6 n6 c6)] ?_)
    have ck := own_count (Go.Tw.encI_len _) (by decide) ac
    obtain ⟨ar, ag⟩ := get_some (xs := (sortR (xs.take i))) (i := j) (by omega)
    obtain ⟨b150, az⟩ := own_addr (by decide) (Go.Tw.encI_len _) ac ag
    refine WLi A5 n5 c5 43 .i64 (j : Int) b150 0 j 1 (by kernel_rfl) az (by omega) (by omega) j (by first | (simp; done) | omega) ?_
    refine WLo 3 (.pointer (some ⟨b150, j, none⟩)) (.int .i64 ar) 44 (run_load1 rfl (by simpa [Nat.add_assoc] using Rd.cell (own_rd ac (Go.Tw.encI_len _) (by decide)) az ag 0 _ rfl)) ?_
    refine WL.newM ai (fun b => .slice (some ⟨b, 0, none⟩) 1 1) (.cells #[.int .i64 ar] 3) 45 (fun _ => by kernel_rfl) (fun br cz cl aA am => ?_)
    have bs := own_fr ac aA (by simp)
    have bt := own_fr aP aA (by simp)
    obtain ⟨cA, cB, bu, bv, bw, bx, bO, bP⟩ := app_run Try.prog am 1 (v := .slice A6 n6 c6) rfl 31 31 3 1 8 n6 1 1 (some ⟨br, 0, none⟩) rfl bt [.int .i64 ar] rfl (srcOk.blk 1 (am.get 0 rfl)) rfl (by simp only [maxLen]; omega) (by omega)
    have aB := own_snoc (enc := (Go.Tw.encI .i64)) (ys := (nextL ab ((sortR (xs.take i)).take j) dn)) ar bv
    obtain ⟨aW, aX, rfl, ce⟩ := own_form aB
    refine WL.sem (Builtin.append_ #[31, 31] 31 #[.slice A6 n6 c6, .slice (some ⟨br, 0, none⟩) 1 1]) 46 (.slice aW (n6 + 1) aX) (by kernel_rfl) bu ?_
    have bz := own_fr bs bw (am.disj 0 1 rfl rfl (by decide))
    refine WLq 1 [(5, .slice aW (n6 + 1) aX)] ?_
    refine WLd rfl ?_
    refine QXb ?_
    refine QXn (aN _ _ ?_)
    refine WCg (WLq 2 [(19, .int .i64 (IntKind.i64.wrap ((j : Int) + 1))), (18, .int .i64 (j : Int))] ?_)
    refine WLt (show (.int .i64 (IntKind.i64.wrap ((j : Int) + 1)) : Value) = .int .i64 ((j : Int) + 1) from by rw [wrap_in_i64 ((j : Int) + 1) (by omega) (by omega)]) ?_
    refine WLq 1 [(7, .int .i64 ((j : Int) + 1))] ?_
    refine WLd rfl ?_
    refine QXn ?_
    have bA := bx.pick [] [0, 1] rfl rfl
    refine fun a_ ha_ => aL _ _ _ ?_ ⟨j + 1, dn, aW, n6 + 1, aX, rfl, rfl, bA, bz, (by have q_ := aB; rw [aq] at q_ ⊢; rw [next_done ag (by rw [← hdn, aq])]; exact q_), by omega, by rw [any_takeL ag, ← hdn, aq]; rfl⟩ a_ (ha_.weaken (sub_of ⟨rfl, rfl, rfl, rfl, rfl, rfl, rfl, trivial⟩))
    omega
  ·
   have cp : (n5 : Int) ≤ (j : Int) := by have q_ := of_decide_eq_false aM; omega
   refine WCf rfl ?_
   refine WC.exit ?_
   refine QXe ?_
   refine QXe ?_
   refine QX.block_hit ?_
   refine QXn (bV _ _ ?_)
   refine WCs (fun cC aC => ?_)
   refine WCs (fun cD bB => ?_)
   refine WCg (WLq 2 [(48, .bool !dn), (47, .bool dn)] (WLd rfl (QXn (bB _ _ ?_))))
   refine WCa 48 (!dn) rfl (fun ae => ?_) (fun ae => ?_)
   ·
    have au : dn = false := by first | (simpa only [Bool.not_eq_true', Bool.not_eq_false'] using ae) | simpa using ae
    refine WCt rfl ?_
    refine WCg (WLq 3 [(51, .int .i64 (i : Int)), (50, .slice A xs.length c), (49, .slice A6 n6 c6)] ?_)
    refine WLi A xs.length c 52 .i64 (i : Int) b33 o35 i 1 (by kernel_rfl) aJ (by omega) (by omega) (o35 + i) (by first | (simp; done) | omega) ?_
    refine WLo 3 (.pointer (some ⟨b33, o35 + i, none⟩)) (.int .i64 ab) 53 (run_load1 rfl (by simpa [Nat.add_assoc] using ap.fr.cell (aK 0 _ rfl) (by simp))) ?_
    refine WL.newM ap (fun b => .slice (some ⟨b, 0, none⟩) 1 1) (.cells #[.int .i64 ab] 3) 54 (fun _ => by kernel_rfl) (fun bC cE cm bD aD => ?_)
    have bE := own_fr hnext bD (by simp)
    obtain ⟨cF, cG, bF, bG, cn, bH, bQ, bR⟩ := app_run Try.prog aD 1 (v := .slice A6 n6 c6) rfl 31 31 3 1 8 n6 1 1 (some ⟨bC, 0, none⟩) rfl bE [.int .i64 ab] rfl (srcOk.blk 1 (aD.get 0 rfl)) rfl (by simp only [maxLen]; omega) (by omega)
    have aE := own_snoc (enc := (Go.Tw.encI .i64)) (ys := (nextL ab ((sortR (xs.take i)).take j) dn)) ab bG
    obtain ⟨an, ao, rfl, cf⟩ := own_form aE
    refine WL.sem (Builtin.append_ #[31, 31] 31 #[.slice A6 n6 c6, .slice (some ⟨bC, 0, none⟩) 1 1]) 55 (.slice an (n6 + 1) ao) (by kernel_rfl) bF ?_
    refine WLq 1 [(5, .slice an (n6 + 1) ao)] (WLd rfl (QXn (aC _ _ ?_)))
    refine WCg (WLq 2 [(3, .slice an (n6 + 1) ao), (56, .slice an (n6 + 1) ao)] ?_)
    refine WLd rfl ?_
    refine QXb ?_
    refine QXn (a1 _ _ ?_)
    refine WCg (WLq 2 [(13, .int .i64 (IntKind.i64.wrap ((i : Int) + 1))), (12, .int .i64 (i : Int))] ?_)
    refine WLt (show (.int .i64 (IntKind.i64.wrap ((i : Int) + 1)) : Value) = .int .i64 ((i : Int) + 1) from by rw [wrap_in_i64 ((i : Int) + 1) (by omega) (by omega)]) ?_
    refine WLq 1 [(4, .int .i64 ((i : Int) + 1))] ?_
    refine WLd rfl ?_
    refine QXn ?_
    have bI := bH.pick [] [1] rfl rfl
    refine fun a_ ha_ => aY _ _ _ ?_ ⟨i + 1, an, n6 + 1, ao, rfl, rfl, bI, (by have q_ := aE; rw [au, List.take_of_length_le (by omega)] at q_; rw [sortR_take aI, ins_end (by have z_ := hdn; rw [au, List.take_of_length_le (by omega)] at z_; exact z_.symm)]; exact q_), by omega⟩ a_ (ha_.weaken (sub_of ⟨rfl, rfl, rfl, rfl, trivial⟩))
    omega
   ·
    have au : dn = true := by first | (simpa only [Bool.not_eq_true', Bool.not_eq_false'] using ae) | simpa using ae
    refine WCf rfl (WC.skip (QXn (aC _ _ ?_)))
    refine WCg (WLq 2 [(3, .slice A6 n6 c6), (56, .slice A6 n6 c6)] ?_)
    refine WLd rfl ?_
    refine QXb ?_
    refine QXn (a1 _ _ ?_)
    refine WCg (WLq 2 [(13, .int .i64 (IntKind.i64.wrap ((i : Int) + 1))), (12, .int .i64 (i : Int))] ?_)
    refine WLt (show (.int .i64 (IntKind.i64.wrap ((i : Int) + 1)) : Value) = .int .i64 ((i : Int) + 1) from by rw [wrap_in_i64 ((i : Int) + 1) (by omega) (by omega)]) ?_
    refine WLq 1 [(4, .int .i64 ((i : Int) + 1))] ?_
    refine WLd rfl ?_
    refine QXn ?_
    have bJ := ap.pick [] [1] rfl rfl
    refine fun a_ ha_ => aY _ _ _ ?_ ⟨i + 1, A6, n6, c6, rfl, rfl, bJ, (by have q_ := hnext; rw [au, List.take_of_length_le (by omega)] at q_; rw [sortR_take aI]; exact q_), by omega⟩ a_ (ha_.weaken (sub_of ⟨rfl, rfl, rfl, rfl, trivial⟩))
    omega
 ·
  have co : (xs.length : Int) ≤ (i : Int) := by have q_ := of_decide_eq_false aH; omega
  refine WCf rfl ?_
  refine WC.exit ?_
  refine QXe ?_
  refine QXe ?_
  refine QX.block_hit ?_
  refine QXn (hK6 _ _ ?_)
  refine WCs (fun cH aF => ?_)
  refine WCg (WLq 2 [(2, .slice A5 n5 c5), (57, .slice A5 n5 c5)] (WLd rfl (QXn (aF _ _ ?_))))
  refine WC.ret ?_
  refine (hret _ _ _ rfl ?_).1
  clear hN hret hret' aF a0 aZ hK8 hK6 hK4 hK2
  have ho_ := hout
  rw [List.take_of_length_le (by omega), sortR_eq] at ho_
  have hn_ : n5 = xs.length := by omega
  subst hn_
  exact ⟨_, rfl, aG.fr, own_base ho_ (aG.geF 0 rfl)⟩

theorem RSorted_n (A : Option Addr) (n c : Nat) (xs : List Int) (w : World) (hr : Rd w 1 (Go.Tw.encI .i64) A xs) (hn : xs.length = n) (hl : n ≤ 1099511627776) : Calls Try.prog 16 #[.slice A n c] w fun e w' => ∃ v, e = .returned v ∧ Fr w w' [] ∧ w'.ownsRow w.heap.size 3 1 v n ((sortI xs).flatMap (Go.Tw.encI .i64)) := by subst hn; exact RSorted_ct A c xs w hr hl
theorem mine_ct (A : Option Addr) (c : Nat) (xs : List Int) (w : World) (hr : Rd w 1 (Go.Tw.encI .i64) A xs) (hl : xs.length ≤ 1099511627776) : Calls Try.prog 25 #[.slice A xs.length c] w fun e w' => ∃ (A2 : Option Addr) (c2 : Nat), e = .returned (.slice A2 xs.length c2) ∧ Fr w w' [] ∧ w'.ownsRow w.heap.size 3 1 (.slice A2 (xs.length + 1) c2) (xs.length + 1) ((xs ++ [(-77 : Int)]).flatMap (Go.Tw.encI .i64)) := by
 refine enterD (n := 14) Try.func25 rfl rfl (Nat.le_of_ble_eq_true rfl) ?_
 intro Q0 hN hret hret'
 have hC := Cx.start w
 refine WCs (fun K1 hK2 => ?_)
 refine WCg (WLq 1 [(2, .slice none 0 0)] (WLd rfl (QXn (hK2 _ _ ?_))))
 refine WCs (fun K3 hK4 => ?_)
 refine WCg (WLq 3 [(5, .int .i64 (IntKind.i64.wrap ((xs.length : Int) + 1))), (4, .int .i64 (xs.length : Int)), (3, .slice A xs.length c)] ?_)
 refine WLt (show (.int .i64 (IntKind.i64.wrap ((xs.length : Int) + 1)) : Value) = .int .i64 ((xs.length : Int) + 1) from by rw [wrap_in_i64 ((xs.length : Int) + 1) (by omega) (by omega)]) ?_
 obtain ⟨g5, w6, hr7, ho8, hF9, ab, ax⟩ := make0_run Try.prog hC 31 3 1 8 (xs.length + 1) .i64 .i64 ((xs.length : Int) + 1) rfl (by omega) (by omega) (by simp only [maxLen]; omega)
 refine WL.sem (Instr.makeSlice 31 (.int .i64 0) (.int .i64 ((xs.length : Int) + 1))) 6 (.slice (some ⟨g5, 0, none⟩) 0 (xs.length + 1)) (by kernel_rfl) hr7 ?_
 refine WLq 1 [(7, .slice A xs.length c)] ?_
 obtain ⟨aF, aG, ah, ai, aB, aj, ak, al⟩ := app_run Try.prog ab 0 (v := .slice (some ⟨g5, 0, none⟩) 0 (xs.length + 1)) rfl 31 31 3 1 8 0 xs.length c A rfl ho8 (xs.flatMap (Go.Tw.encI .i64)) (flat_len_n (Go.Tw.encI_len _) (by first | rfl | assumption | (simp; done) | (simp; omega))) (Rd.src_n (Rd.fr hr ab.fr) (Go.Tw.encI_len _) (by decide) (by first | rfl | assumption | (simp; done) | (simp; omega))) (flat_one (Go.Tw.encI_one _) _) (by simp only [maxLen]; omega) (by omega)
 have ac := own_app (enc := (Go.Tw.encI .i64)) (ys := []) (zs := xs) ai
 obtain ⟨am, an, rfl, ay⟩ := own_form ac
 refine WL.sem (Builtin.append_ #[31, 31] 31 #[.slice (some ⟨g5, 0, none⟩) 0 (xs.length + 1), .slice A xs.length c]) 8 (.slice am (0 + xs.length) an) (by kernel_rfl) ah ?_
 refine WL.newM aj (fun b => .slice (some ⟨b, 0, none⟩) 1 1) (.cells #[.int .i64 (-77)] 3) 9 (fun _ => by kernel_rfl) (fun az aH aC ao ad => ?_)
 have ap := own_fr ac ao (by simp)
 obtain ⟨aI, aJ, aq, ar, aD, ae, au, av⟩ := app_run Try.prog ad 0 (v := .slice am (0 + xs.length) an) rfl 31 31 3 1 8 (0 + xs.length) 1 1 (some ⟨az, 0, none⟩) rfl ap [.int .i64 (-77)] rfl (srcOk.blk 1 (ad.get 0 rfl)) rfl (by simp only [maxLen]; omega) (by omega)
 have aa := own_snoc (enc := (Go.Tw.encI .i64)) (ys := [] ++ xs) (-77) ar
 obtain ⟨ag, af, rfl, aA⟩ := own_form aa
 refine WL.sem (Builtin.append_ #[31, 31] 31 #[.slice am (0 + xs.length) an, .slice (some ⟨az, 0, none⟩) 1 1]) 10 (.slice ag (0 + xs.length + 1) af) (by kernel_rfl) aq ?_
 refine WLq 2 [(12, .int .i64 (xs.length : Int)), (11, .slice A xs.length c)] ?_
 have hle_ := own_le aa
 have aw : xs.length ≤ af := by omega
 refine WL.slc 31 3 1 ag ag (0 + xs.length + 1) af 0 xs.length xs.length af none (some (.int .i64 (xs.length : Int))) 13 (by kernel_rfl) (by kernel_rfl) bnd.no (bnd.yes (by omega)) (by omega) aw (slcAt_pre _ _ _) (by first | rfl | omega) (by first | rfl | omega) ?_
 have aE := own_takeE (m := xs.length) (Go.Tw.encI_len _) aa (by omega)
 refine WLq 1 [(2, .slice ag xs.length af)] (WLd rfl (QXn (hK4 _ _ ?_)))
 refine WC.ret ?_
 refine (hret _ _ _ rfl ?_).1
 clear hN hret hret' hK4 hK2
 have hown_ := aa
 rw [show (0 + xs.length + 1 : Nat) = xs.length + 1 from by omega, show ([] : List Int) ++ xs ++ [-77] = xs ++ [-77] from by rw [List.nil_append]] at hown_
 exact ⟨_, _, rfl, ae.fr, own_base hown_ (by have z_ := ae.geF 0 rfl; intro x_ hx_; exact z_ x_ (blk_in3 hx_))⟩

theorem mine_n (A : Option Addr) (n c : Nat) (xs : List Int) (w : World) (hr : Rd w 1 (Go.Tw.encI .i64) A xs) (hn : xs.length = n) (hl : n ≤ 1099511627776) : Calls Try.prog 25 #[.slice A n c] w fun e w' => ∃ (A2 : Option Addr) (c2 : Nat), e = .returned (.slice A2 n c2) ∧ Fr w w' [] ∧ w'.ownsRow w.heap.size 3 1 (.slice A2 (n + 1) c2) (n + 1) ((xs ++ [(-77 : Int)]).flatMap (Go.Tw.encI .i64)) := by subst hn; exact mine_ct A c xs w hr hl
theorem kept_ct (A B : Option Addr) (c c2 : Nat) (xs : List Int) (w : World) (hA1 : Rd w 1 (Go.Tw.encI .i64) A xs) (hA : Rd w 1 (Go.Tw.encI .i64) A (xs ++ [(-77 : Int)])) (hB : Rd w 1 (Go.Tw.encI .i64) B xs) (hc : xs.length + 1 ≤ c) (hl : xs.length ≤ 1099511627776) : Calls Try.prog 29 #[.slice A xs.length c, .slice B xs.length c2] w fun e w' => e = .returned (.bool true) ∧ Fr w w' [] := by
 refine enterD (n := 20) Try.func29 rfl rfl (Nat.le_of_ble_eq_true rfl) ?_
 intro Q0 hN hret hret'
 have hxl_ : (xs ++ [(-77 : Int)]).length = xs.length + 1 := by simp
 have hC := Cx.start w
 refine WCs (fun K1 hK2 => ?_)
 refine WCg (WLq 1 [(4, .bool false)] (WLd rfl (QXn (hK2 _ _ ?_))))
 refine WCs (fun K3 hK4 => ?_)
 refine WCg (WLq 2 [(6, .slice B xs.length c2), (5, .slice A xs.length c)] ?_)
 refine WLc rfl rfl rfl rfl rfl (by kernel_rfl) (Ints_ct A B c c2 xs xs w (Rd.fr hA1 hC.fr) (Rd.fr hB hC.fr) (by omega) (by omega)) ?_
 rintro _ w6 ⟨rfl, hF5⟩
 refine ⟨_, rfl, ?_⟩
 have hC7 := hC.call hF5
 refine WLq 1 [(8, .bool (decide (xs = xs)))] ?_
 refine WL.know 8 (.bool (decide (xs = xs))) (.bool true) rfl (congrArg Value.bool (by simp)) ?_
 refine WLq 4 [(12, .int .i64 (IntKind.i64.wrap ((xs.length : Int) + 1))), (11, .int .i64 (xs.length : Int)), (10, .slice B xs.length c2), (9, .slice A xs.length c)] ?_
 refine WLt (show (.int .i64 (IntKind.i64.wrap ((xs.length : Int) + 1)) : Value) = .int .i64 ((xs.length : Int) + 1) from by rw [wrap_in_i64 ((xs.length : Int) + 1) (by omega) (by omega)]) ?_
 have hb8 : xs.length + 1 ≤ c := by omega
 refine WL.slc 31 3 1 A A xs.length c 0 (xs.length + 1) (xs.length + 1) c none (some (.int .i64 ((xs.length : Int) + 1))) 13 (by kernel_rfl) (by kernel_rfl) bnd.no (bnd.yes (by omega)) (by omega) hb8 (slcAt_pre _ _ _) (by first | rfl | omega) (by first | rfl | omega) ?_
 refine WLq 2 [(15, .int .i64 (xs.length : Int)), (14, .slice B xs.length c2)] ?_
 obtain ⟨e9, aa⟩ := get_some (xs := (xs ++ [(-77 : Int)])) (i := xs.length) (by omega)
 obtain ⟨b11, o13, ab, ac⟩ := hA.at_ _ _ aa
 refine WLi A (xs.length + 1) c 16 .i64 (xs.length : Int) b11 o13 xs.length 1 (by kernel_rfl) ab (by omega) (by omega) (o13 + xs.length) (by first | (simp; done) | omega) ?_
 refine WLo 3 (.pointer (some ⟨b11, o13 + xs.length, none⟩)) (.int .i64 e9) 17 (run_load1 rfl (by simpa [Nat.add_assoc] using hC7.fr.cell (ac 0 _ rfl) (by simp))) ?_
 refine WLq 3 [(4, .bool (e9 == (-77))), (19, .bool (e9 == (-77))), (18, .bool (e9 == (-77)))] (WLd rfl (QXn (hK4 _ _ ?_)))
 refine WC.ret ?_
 refine (hret _ _ _ rfl ?_).1
 exact ⟨congrArg (fun b_ => Ending.returned (Value.bool b_)) (show ((e9 == (-77))) = true from by exact mark_int aa), hC7.fr⟩

theorem kept_n (A B : Option Addr) (n c n2 c2 : Nat) (xs : List Int) (w : World) (hA1 : Rd w 1 (Go.Tw.encI .i64) A xs) (hA : Rd w 1 (Go.Tw.encI .i64) A (xs ++ [(-77 : Int)])) (hn : xs.length = n) (hB : Rd w 1 (Go.Tw.encI .i64) B xs) (hn2 : xs.length = n2) (hc : n + 1 ≤ c) (hl : n ≤ 1099511627776) : Calls Try.prog 29 #[.slice A n c, .slice B n2 c2] w fun e w' => e = .returned (.bool true) ∧ Fr w w' [] := by subst hn hn2; exact kept_ct A B c c2 xs w hA1 hA hB hc hl
theorem Num_nil  (w : World) : Calls Try.prog 27 #[.nilIface] w fun e w' => e = .returned (.int .i64 0) ∧ Fr w w' [] := by
 refine enterD (n := 19) Try.func27 rfl rfl (Nat.le_of_ble_eq_true rfl) ?_
 intro Q0 hN hret hret'
 have hC := Cx.start w
 refine WCs (fun K1 hK2 => ?_)
 refine WCg (WLq 1 [(2, .int .i64 0)] (WLd rfl (QXn (hK2 _ _ ?_))))
 refine WCs (fun K3 hK4 => ?_)
 refine WCs (fun K5 hK6 => ?_)
 refine WCg (WLq 2 [(6, .bool true), (5, .nilIface)] (WLd rfl (QXn (hK6 _ _ ?_))))
 refine WCt rfl ?_
 refine WCs (fun K7 hK8 => ?_)
 refine WCg (WLq 1 [(2, .int .i64 0)] (WLd rfl (QXn (hK8 _ _ ?_))))
 refine WC.ret ?_
 refine QXr ?_
 refine (hret _ _ _ rfl ?_).1
 exact ⟨rfl, hC.fr⟩

theorem Num_some (c : Int) (w : World) (hc : c ≠ 0) : Calls Try.prog 27 #[.iface 62 (.int .i64 c)] w fun e w' => e = .returned (.int .i64 c) ∧ Fr w w' [] := by
 refine enterD (n := 19) Try.func27 rfl rfl (Nat.le_of_ble_eq_true rfl) ?_
 intro Q0 hN hret hret'
 have hC := Cx.start w
 refine WCs (fun K1 hK2 => ?_)
 refine WCg (WLq 1 [(2, .int .i64 0)] (WLd rfl (QXn (hK2 _ _ ?_))))
 refine WCs (fun K3 hK4 => ?_)
 refine WCs (fun K5 hK6 => ?_)
 refine WCg (WLq 2 [(6, .bool false), (5, .iface 62 (.int .i64 c))] (WLd rfl (QXn (hK6 _ _ ?_))))
 refine WCf rfl (WC.skip (QXn (hK4 _ _ ?_)))
 refine WCs (fun K7 hK8 => ?_)
 refine WCg (WLq 7 [(4, .bool true), (3, .int .i64 c), (11, .bool true), (10, .int .i64 c), (7, .tuple #[.int .i64 c, .bool true]), (9, .tuple #[.int .i64 c, .bool true]), (8, .iface 62 (.int .i64 c))] (WLd rfl (QXn (hK8 _ _ ?_))))
 refine WCs (fun K9 aa => ?_)
 refine WCs (fun ad ab => ?_)
 refine WCg (WLq 6 [(17, .bool (c == 0)), (16, .bool (c == 0)), (15, .int .i64 c), (14, .bool false), (13, .bool false), (12, .bool true)] (WLd rfl (QXn (ab _ _ ?_))))
 refine WC.know 17 (.bool (c == 0)) (.bool false) rfl (congrArg Value.bool (by simpa using hc)) ?_
 refine WCf rfl (WC.skip (QXn (aa _ _ ?_)))
 refine WCs (fun ae ac => ?_)
 refine WCg (WLq 2 [(2, .int .i64 c), (18, .int .i64 c)] (WLd rfl (QXn (ac _ _ ?_))))
 refine WC.ret ?_
 refine (hret _ _ _ rfl ?_).1
 exact ⟨rfl, hC.fr⟩

theorem Num_er (c : Int) (w : World) (hc : c ≠ 0) : Calls Try.prog 27 #[errV 62 c] w fun e w' => e = .returned (.int .i64 c) ∧ Fr w w' [] := by
  unfold errV; rw [if_neg hc]; exact Num_some c w hc
theorem Good_n (per : Int) (A : Option Addr) (n c : Nat) (xs : List Int) (w : World) (hr : Rd w 1 (Go.Tw.encI .i64) A xs) (hn : xs.length = n) (hl : n ≤ 9223372036854775807) : Calls Try.prog 12 #[.int .i64 per, .slice A n c] w fun e w' => e = .returned (.int .i64 (goodR per xs)) ∧ Fr w w' [] := by subst hn; exact Good_ct per A c xs w hr hl
end Go.Proofs.Ytibkndhgeeoidaa
