/- Contracts of functions of the program, each proved by a walk through its code; conditions stand in the statements. -/
import Derived.Test.YtibkndhgeeoidaaRgP
namespace Go.Proofs.Ytibkndhgeeoidaa
set_option linter.unusedSimpArgs false
set_option linter.unusedVariables false
set_option linter.unusedSectionVars false
open Go Go.RowKit Go.Tw
set_option linter.unusedVariables false
set_option maxRecDepth 20000
/-! ### the reference's lists -/
def insL (x : Int) : List Int → List Int
  | [] => [x]
  | y :: r => if x < y then x :: y :: r else y :: insL x r
def anyLt (x : Int) (L : List Int) : Bool := L.any fun y => decide (x < y)
def nextL (x : Int) (L : List Int) (dn : Bool) : List Int := if dn then insL x L else L
def sortR (M : List Int) : List Int := M.foldl (fun o x => insL x o) []
/-! Good -/
def goodTo (M : List Int) (i : Nat) : Prop := ∀ k, k < i → ∀ m, M[k]? = some m → (0 ≤ m ∧ m ≤ 65535) ∧ (M.take k).contains m = false
theorem goodTo_0 (M : List Int) : goodTo M 0 := fun k h => absurd h (Nat.not_lt_zero _)
theorem goodTo_step {M : List Int} {i : Nat} {m : Int} (h : goodTo M i) (hm : M[i]? = some m) (h1 : (!inR m || (M.take i).contains m) = false) : goodTo M (i + 1) := by
  intro k hk m' hm'
  by_cases e : k = i
  · subst e; rw [hm] at hm'; cases hm'
    rw [Bool.or_eq_false_iff] at h1
    exact ⟨by simpa [inR] using h1.1, h1.2⟩
  · exact h k (by omega) m' hm'
theorem goodTo_ok {M : List Int} (h : goodTo M M.length) (hl : M.length ≤ 64) : okG M := by
  refine ⟨hl, fun m hm => ?_, ?_⟩
  · obtain ⟨i, hi, rfl⟩ := List.getElem_of_mem hm
    exact (h i hi _ (List.getElem?_eq_getElem hi)).1
  · refine List.pairwise_iff_getElem.2 fun i j hi hj hij e => ?_
    have h2 := (h j hj _ (List.getElem?_eq_getElem hj)).2
    have h3 : (M.take j).contains M[j] = true := by
      rw [List.contains_iff_mem, ← e]
      exact List.mem_iff_getElem?.2 ⟨i, by rw [List.getElem?_take, if_pos hij]; exact List.getElem?_eq_getElem hi⟩
    rw [h2] at h3; cases h3
theorem bad_ok {M : List Int} {i : Nat} {m : Int} (hm : M[i]? = some m) (h : (decide (64 < M.length) || (!inR m || (M.take i).contains m)) = true) : ¬ okG M := by
  rintro ⟨h1, h2, h3⟩
  rw [decide_eq_false (by omega), Bool.false_or, Bool.or_eq_true] at h
  rcases h with h | h
  · have := h2 m (List.mem_of_getElem? hm); simp [inR] at h; omega
  · rw [List.contains_iff_mem] at h
    obtain ⟨j, hj⟩ := List.mem_iff_getElem?.1 h
    rw [List.getElem?_take] at hj
    split at hj
    · rename_i hji
      obtain ⟨q1, q2⟩ := List.getElem?_eq_some_iff.1 hj
      obtain ⟨q3, q4⟩ := List.getElem?_eq_some_iff.1 hm
      exact List.pairwise_iff_getElem.1 h3 j i q1 q3 hji (q2.trans q4.symm)
    · cases hj
theorem has_takeS {M : List Int} {j : Nat} {y m : Int} (h : M[j]? = some y) : (M.take (j + 1)).contains m = ((M.take j).contains m || decide (y = m)) := by
  obtain ⟨hj, rfl⟩ := List.getElem?_eq_some_iff.1 h
  rw [List.take_succ_eq_append_getElem hj, Bool.eq_iff_iff]
  simp only [List.contains_iff_mem, List.mem_append, List.mem_singleton, Bool.or_eq_true, decide_eq_true_eq]
  constructor
  · rintro (h | h)
    · exact .inl h
    · exact .inr h.symm
  · rintro (h | h)
    · exact .inl h
    · exact .inr h.symm
theorem good_4 {per : Int} {M : List Int} (h : per < 1 ∨ 64 < per) : goodR per M = 4 := if_pos h
theorem good_9 {per : Int} {M : List Int} (h1 : 1 ≤ per ∧ per ≤ 64) (h : ¬ okG M) : goodR per M = 9 := by unfold goodR; rw [if_neg (by omega), if_neg h]
theorem good_0 {per : Int} {M : List Int} (h1 : 1 ≤ per ∧ per ≤ 64) (h : okG M) : goodR per M = 0 := by unfold goodR; rw [if_neg (by omega), if_pos h]
theorem bad_keep {M : List Int} {j : Nat} {y m : Int} {bd bd2 : Bool} (h : bd2 = (bd || (!inR m || (M.take j).contains m))) (hb : bd2 = true) (hy : M[j]? = some y) : true = (bd || (!inR m || (M.take (j + 1)).contains m)) := by
  rw [has_takeS hy]; rw [hb] at h
  revert h; cases bd <;> cases inR m <;> cases (M.take j).contains m <;> simp
theorem bad_new {M : List Int} {j : Nat} {y m : Int} {bd bd2 : Bool} (h : bd2 = (bd || (!inR m || (M.take j).contains m))) (hb : bd2 = false) (hy : M[j]? = some y) : (y == m) = (bd || (!inR m || (M.take (j + 1)).contains m)) := by
  rw [has_takeS hy]; rw [hb] at h
  have e : (y == m) = decide (y = m) := by rw [Bool.eq_iff_iff]; simp
  rw [e]
  revert h; cases bd <;> cases inR m <;> cases (M.take j).contains m <;> simp
theorem has_ct (A : Option Addr) (c : Nat) (xs : List Int) (x : Int) (w : World) (hr : Rd w 1 (Go.Tw.encI .i64) A xs) (hl : xs.length ≤ 1099511627776) : Calls Try.prog 49 #[.slice A xs.length c, .int .i64 x] w fun e w' => e = .returned (.bool (xs.contains x)) ∧ Fr w w' [] := by
 refine enterD (n := 18) Try.func49 rfl rfl (Nat.le_of_ble_eq_true rfl) ?_
 intro Q0 hN hret hret'
 have hC := Cx.start w
 refine WCs (fun K1 hK2 => ?_)
 refine WCg (WLq 1 [(4, .bool false)] (WLd rfl (QXn (hK2 _ _ ?_))))
 refine WCs (fun K3 hK4 => ?_)
 refine WCs (fun K5 hK6 => ?_)
 refine WCg (WLq 1 [(5, .int .i64 0)] (WLd rfl (QXn (hK6 _ _ ?_))))
 refine WC.block ?_
 refine WC.loop (fun m_ E_ w_ => ∃ (i : Nat), m_ = xs.length - i ∧ E_ = [(0, .slice A xs.length c), (1, .int .i64 x), (5, .int .i64 (i : Int))] ∧ Cx w [] w_ [] [] ∧ (i ≤ xs.length ∧ ((xs.take i).all fun e => !(x == e)) = true)) ⟨_, _, ⟨0, rfl, rfl, hC, Nat.zero_le _, rfl⟩, sub_of ⟨rfl, rfl, rfl, trivial⟩⟩ (fun m10 E_ aq K7 hK8 hI9 => ?_)
 obtain ⟨i, rfl, rfl, aa, hi, hall⟩ := hI9
 refine WCs (fun ar ae => ?_)
 refine WCs (fun au af => ?_)
 refine WCg (WLq 4 [(9, .bool (decide ((i : Int) < (xs.length : Int)))), (8, .int .i64 (xs.length : Int)), (7, .slice A xs.length c), (6, .int .i64 (i : Int))] (WLd rfl (QXn (af _ _ ?_))))
 refine WCa 9 (decide ((i : Int) < (xs.length : Int))) rfl (fun ab => ?_) (fun ab => ?_)
 ·
  have ao : (i : Int) < (xs.length : Int) := by have q_ := of_decide_eq_true ab; omega
  refine WCt rfl ?_
  refine WC.skip ?_
  refine QXn (ae _ _ ?_)
  refine WCs (fun av ai => ?_)
  refine WC.block ?_
  refine WCs (fun aw aj => ?_)
  refine WCg (WLq 2 [(13, .int .i64 (i : Int)), (12, .slice A xs.length c)] ?_)
  obtain ⟨ag, ac⟩ := get_some (xs := xs) (i := i) (by omega)
  obtain ⟨b24, o26, ak, al⟩ := hr.at_ _ _ ac
  refine WLi A xs.length c 14 .i64 (i : Int) b24 o26 i 1 (by kernel_rfl) ak (by omega) (by omega) (o26 + i) (by first | (simp; done) | omega) ?_
  refine WLo 3 (.pointer (some ⟨b24, o26 + i, none⟩)) (.int .i64 ag) 15 (run_load1 rfl (by simpa [Nat.add_assoc] using aa.fr.cell (al 0 _ rfl) (by simp))) ?_
  refine WLq 2 [(17, .bool (ag == x)), (16, .int .i64 x)] (WLd rfl (QXn (aj _ _ ?_)))
  refine WCa 17 (ag == x) rfl (fun ad => ?_) (fun ad => ?_)
  ·
   have ap : ag = x := by simpa using ad
   refine WCt rfl ?_
   refine WCs (fun ax am => ?_)
   refine WCg (WLq 1 [(4, .bool true)] (WLd rfl (QXn (am _ _ ?_))))
   refine WC.ret ?_
   refine QXk ?_
   refine QXr ?_
   refine QXr ?_
   refine QXk ?_
   refine QXr ?_
   refine (hret _ _ _ rfl ?_).1
   exact ⟨by rw [contains_idx ac (by omega)]; rfl, aa.fr⟩
  ·
   have ap : ¬ (ag = x) := by simpa using ad
   refine WCf rfl (WC.skip ?_)
   refine QXb ?_
   refine QXn (ai _ _ ?_)
   refine WCg (WLq 2 [(11, .int .i64 (IntKind.i64.wrap ((i : Int) + 1))), (10, .int .i64 (i : Int))] ?_)
   refine WLt (show (.int .i64 (IntKind.i64.wrap ((i : Int) + 1)) : Value) = .int .i64 ((i : Int) + 1) from by rw [wrap_in_i64 ((i : Int) + 1) (by omega) (by omega)]) ?_
   refine WLq 1 [(5, .int .i64 ((i : Int) + 1))] ?_
   refine WLd rfl ?_
   refine QXn ?_
   have an := aa.pick [] [] rfl rfl
   refine fun a_ ha_ => hK8 _ _ _ ?_ ⟨i + 1, rfl, rfl, an, by omega, all_snoc ac hall (by omega)⟩ a_ (ha_.weaken (sub_of ⟨rfl, rfl, rfl, trivial⟩))
   omega
 ·
  have ao : (xs.length : Int) ≤ (i : Int) := by have q_ := of_decide_eq_false ab; omega
  refine WCf rfl ?_
  refine WC.exit ?_
  refine QXe ?_
  refine QXe ?_
  refine QX.block_hit ?_
  refine QXn (hK4 _ _ ?_)
  refine WCs (fun ay ah => ?_)
  refine WCg (WLq 1 [(4, .bool false)] (WLd rfl (QXn (ah _ _ ?_))))
  refine WC.ret ?_
  refine (hret _ _ _ rfl ?_).1
  clear hN hret hret' ah af ae hK6 hK4 hK2
  rw [List.take_of_length_le (by omega)] at hall
  exact ⟨by rw [contains_all hall]; rfl, aa.fr⟩

theorem has_n (A : Option Addr) (n c : Nat) (xs : List Int) (x : Int) (w : World) (hr : Rd w 1 (Go.Tw.encI .i64) A xs) (hn : xs.length = n) (hl : n ≤ 1099511627776) : Calls Try.prog 49 #[.slice A n c, .int .i64 x] w fun e w' => e = .returned (.bool (xs.contains x)) ∧ Fr w w' [] := by subst hn; exact has_ct A c xs x w hr hl
theorem Good_ct (per : Int) (A : Option Addr) (c : Nat) (xs : List Int) (w : World) (hr : Rd w 1 (Go.Tw.encI .i64) A xs) (hl : xs.length ≤ 9223372036854775807) : Calls Try.prog 12 #[.int .i64 per, .slice A xs.length c] w fun e w' => e = .returned (.int .i64 (goodR per xs)) ∧ Fr w w' [] := by
 refine enterD (n := 61) Try.func12 rfl rfl (Nat.le_of_ble_eq_true rfl) ?_
 intro Q0 hN hret hret'
 have hC := Cx.start w
 refine WCs (fun K1 hK2 => ?_)
 refine WCg (WLq 1 [(4, .int .i64 0)] (WLd rfl (QXn (hK2 _ _ ?_))))
 refine WCs (fun K3 hK4 => ?_)
 refine WCs (fun K5 hK6 => ?_)
 refine WCg (WLq 3 [(10, .bool (decide (per < 1))), (9, .bool (decide (per < 1))), (8, .int .i64 per)] ?_)
 refine WLa 10 (decide (per < 1)) rfl (fun t7b => ?_) (fun t7b => ?_)
 ·
  have t7 : per < 1 := by have q_ := of_decide_eq_true t7b; omega
  refine WLq 3 [(13, .bool true), (12, undef), (11, undef)] (WLd rfl (QXn (hK6 _ _ ?_)))
  refine WCt rfl ?_
  refine WCs (fun K8 hK9 => ?_)
  refine WCg (WLq 1 [(4, .int .i64 4)] (WLd rfl (QXn (hK9 _ _ ?_))))
  refine WC.ret ?_
  refine QXr ?_
  refine (hret _ _ _ rfl ?_).1
  exact ⟨by rw [good_4 (by omega)]; rfl, hC.fr⟩
 ·
  have t7 : (1 : Int) ≤ per := by have q_ := of_decide_eq_false t7b; omega
  refine WLq 3 [(13, .bool (decide (per > 64))), (12, .bool (decide (per > 64))), (11, .int .i64 per)] (WLd rfl (QXn (hK6 _ _ ?_)))
  refine WCa 13 (decide (per > 64)) rfl (fun bi => ?_) (fun bi => ?_)
  ·
   have b6 : (64 : Int) < per := by have q_ := of_decide_eq_true bi; omega
   refine WCt rfl ?_
   refine WCs (fun cE bO => ?_)
   refine WCg (WLq 1 [(4, .int .i64 4)] (WLd rfl (QXn (bO _ _ ?_))))
   refine WC.ret ?_
   refine QXr ?_
   refine (hret _ _ _ rfl ?_).1
   exact ⟨by rw [good_4 (by omega)]; rfl, hC.fr⟩
  ·
   have b6 : per ≤ 64 := by have q_ := of_decide_eq_false bi; omega
   refine WCf rfl (WC.skip (QXn (hK4 _ _ ?_)))
   refine WCs (fun cF af => ?_)
   refine WCg (WLq 4 [(5, .bool (decide ((xs.length : Int) > 64))), (16, .bool (decide ((xs.length : Int) > 64))), (15, .int .i64 (xs.length : Int)), (14, .slice A xs.length c)] (WLd rfl (QXn (af _ _ ?_))))
   refine WCs (fun cG ag => ?_)
   refine WCs (fun cH ah => ?_)
   refine WCg (WLq 1 [(6, .int .i64 0)] (WLd rfl (QXn (ah _ _ ?_))))
   refine WC.block ?_
   refine WC.loop (fun m_ E_ w_ => ∃ (i : Nat) (bd : Bool), m_ = xs.length - i ∧ E_ = [(0, .int .i64 per), (1, .slice A xs.length c), (5, .bool bd), (6, .int .i64 (i : Int))] ∧ Cx w [] w_ [] [] ∧ (i ≤ xs.length ∧ (0 < i → bd = false) ∧ bd = decide (64 < xs.length) ∧ goodTo xs i)) ⟨_, _, ⟨0, (decide ((xs.length : Int) > 64)), rfl, rfl, hC, Nat.zero_le _, fun h_ => absurd h_ (Nat.not_lt_zero _), decide_eq_decide.2 (by omega), goodTo_0 _⟩, sub_of ⟨rfl, rfl, rfl, rfl, trivial⟩⟩ (fun m22 E_ cI cJ aA bP => ?_)
   obtain ⟨i, bd, rfl, rfl, aB, hi, hbi, hbd, hgt⟩ := bP
   refine WCs (fun cK ai => ?_)
   refine WCs (fun cL aj => ?_)
   refine WCg (WLq 4 [(20, .bool (decide ((i : Int) < (xs.length : Int)))), (19, .int .i64 (xs.length : Int)), (18, .slice A xs.length c), (17, .int .i64 (i : Int))] (WLd rfl (QXn (aj _ _ ?_))))
   refine WCa 20 (decide ((i : Int) < (xs.length : Int))) rfl (fun bj => ?_) (fun bj => ?_)
   ·
    have b7 : (i : Int) < (xs.length : Int) := by have q_ := of_decide_eq_true bj; omega
    refine WCt rfl ?_
    refine WC.skip ?_
    refine QXn (ai _ _ ?_)
    refine WCs (fun cM ae => ?_)
    refine WC.block ?_
    refine WCs (fun cN ak => ?_)
    refine WCg (WLq 2 [(24, .bool bd), (23, .bool bd)] ?_)
    refine WLa 24 (bd) rfl (fun aT => ?_) (fun aT => ?_)
    ·
     refine WLq 14 [(5, .bool true), (37, .bool true), (36, undef), (35, undef), (34, undef), (33, undef), (32, undef), (31, .bool true), (30, .bool true), (29, undef), (28, undef), (27, undef), (26, undef), (25, undef)] (WLd rfl (QXn (ak _ _ ?_)))
     refine WCs (fun cO aU => ?_)
     refine WCs (fun cP bk => ?_)
     refine WCg (WLq 1 [(7, .int .i64 0)] (WLd rfl (QXn (bk _ _ ?_))))
     refine WC.block ?_
     obtain ⟨a0, aC⟩ := get_some (xs := xs) (i := i) (by omega)
     obtain ⟨b41, o43, bQ, bR⟩ := hr.at_ _ _ aC
     refine WC.loop (fun m_ E_ w_ => ∃ (j : Nat) (bd2 : Bool), m_ = i - j ∧ E_ = [(0, .int .i64 per), (1, .slice A xs.length c), (5, .bool bd2), (6, .int .i64 (i : Int)), (7, .int .i64 (j : Int))] ∧ Cx w [] w_ [] [] ∧ (j ≤ i ∧ bd2 = (bd || (!inR a0 || (xs.take j).contains a0)))) ⟨_, _, ⟨0, true, rfl, rfl, aB, Nat.zero_le _, (by first | (rw [aT]; rfl) | (rw [show inR a0 = false from decide_eq_false (by omega)]; simp))⟩, sub_of ⟨rfl, rfl, rfl, rfl, rfl, trivial⟩⟩ (fun m48 E_ cQ cR br bS => ?_)
     obtain ⟨j, bd2, rfl, rfl, aD, hj, hb2⟩ := bS
     have hlb_ : i < 100 ∨ i = 0 := by
      rcases Nat.eq_zero_or_pos i with h_ | h_
      ·
       exact .inr h_
      ·
       have q_ := hbi h_; rw [hbd] at q_; have := of_decide_eq_false q_; omega
     refine WCs (fun cS bl => ?_)
     refine WCs (fun cT aV => ?_)
     refine WCg (WLq 4 [(41, .bool (decide ((j : Int) < (i : Int)))), (40, .bool (decide ((j : Int) < (i : Int)))), (39, .int .i64 (i : Int)), (38, .int .i64 (j : Int))] ?_)
     refine WLa 41 (decide ((j : Int) < (i : Int))) rfl (fun bm => ?_) (fun bm => ?_)
     ·
      have b9 : (j : Int) < (i : Int) := by have q_ := of_decide_eq_true bm; omega
      refine WLq 3 [(44, .bool (decide ((j : Int) < 100))), (43, .bool (decide ((j : Int) < 100))), (42, .int .i64 (j : Int))] (WLd rfl (QXn (aV _ _ ?_)))
      refine WCa 44 (decide ((j : Int) < 100)) rfl (fun bn => ?_) (fun bn => ?_)
      ·
       have ca : (j : Int) < 100 := by have q_ := of_decide_eq_true bn; omega
       refine WCt rfl ?_
       refine WC.skip ?_
       refine QXn (bl _ _ ?_)
       refine WCs (fun cU bs => ?_)
       refine WC.block ?_
       refine WC.drawC aD [] (by kernel_rfl) (fun cV cb aW ac => ?_)
       refine WDq (NPb (NPt (NPt (NPb (NPt (NPb (NPt (NPt (NPb (NPt hN)))))))))) 0 47 (.bool bd2) ac ?_
       refine WDq (NPb (NPt (NPt (NPb (NPt (NPb (NPt (NPt (NPb (NPt hN)))))))))) 1 48 (.bool bd2) ac ?_
       refine WDa 48 (bd2) rfl (fun bo => ?_) (fun bo => ?_)
       ·
        refine WDq (NPb (NPt (NPt (NPb (NPt (NPb (NPt (NPt (NPb (NPt hN)))))))))) 2 49 (undef) ac ?_
        refine WDq (NPb (NPt (NPt (NPb (NPt (NPb (NPt (NPt (NPb (NPt hN)))))))))) 3 50 (undef) ac ?_
        refine WDq (NPb (NPt (NPt (NPb (NPt (NPb (NPt (NPt (NPb (NPt hN)))))))))) 4 51 (undef) ac ?_
        refine WDq (NPb (NPt (NPt (NPb (NPt (NPb (NPt (NPt (NPb (NPt hN)))))))))) 5 52 (undef) ac ?_
        refine WDq (NPb (NPt (NPt (NPb (NPt (NPb (NPt (NPt (NPb (NPt hN)))))))))) 6 53 (undef) ac ?_
        refine WDq (NPb (NPt (NPt (NPb (NPt (NPb (NPt (NPt (NPb (NPt hN)))))))))) 7 54 (undef) ac ?_
        refine WDq (NPb (NPt (NPt (NPb (NPt (NPb (NPt (NPt (NPb (NPt hN)))))))))) 8 55 (undef) ac ?_
        refine WDq (NPb (NPt (NPt (NPb (NPt (NPb (NPt (NPt (NPb (NPt hN)))))))))) 9 56 (undef) ac ?_
        refine WDq (NPb (NPt (NPt (NPb (NPt (NPb (NPt (NPt (NPb (NPt hN)))))))))) 10 57 (undef) ac ?_
        refine WDq (NPb (NPt (NPt (NPb (NPt (NPb (NPt (NPt (NPb (NPt hN)))))))))) 11 58 (.bool true) ac ?_
        refine WDq (NPb (NPt (NPt (NPb (NPt (NPb (NPt (NPt (NPb (NPt hN)))))))))) 12 5 (.bool true) ac ?_
        refine WD.done (by kernel_rfl) ?_
        refine QXb ?_
        refine QXn (bs _ _ ?_)
        refine WCg (WLq 2 [(46, .int .i64 (IntKind.i64.wrap ((j : Int) + 1))), (45, .int .i64 (j : Int))] ?_)
        refine WLt (show (.int .i64 (IntKind.i64.wrap ((j : Int) + 1)) : Value) = .int .i64 ((j : Int) + 1) from by rw [wrap_in_i64 ((j : Int) + 1) (by omega) (by omega)]) ?_
        refine WLq 1 [(7, .int .i64 ((j : Int) + 1))] ?_
        refine WLd rfl ?_
        refine QXn ?_
        have bT := aW.pick [] [] rfl rfl
        refine fun a_ ha_ => br _ _ _ ?_ ⟨j + 1, true, rfl, rfl, bT, by omega, (by obtain ⟨y_, hy_⟩ := get_some (xs := xs) (i := j) (by omega); exact bad_keep hb2 bo hy_)⟩ a_ (ha_.weaken (sub_of ⟨rfl, rfl, rfl, rfl, rfl, trivial⟩))
        omega
       ·
        refine WDq (NPb (NPt (NPt (NPb (NPt (NPb (NPt (NPt (NPb (NPt hN)))))))))) 2 49 (.slice A xs.length c) ac ?_
        refine WDq (NPb (NPt (NPt (NPb (NPt (NPb (NPt (NPt (NPb (NPt hN)))))))))) 3 50 (.int .i64 (j : Int)) ac ?_
        obtain ⟨bt, bu⟩ := get_some (xs := xs) (i := j) (by omega)
        obtain ⟨b67, o69, bU, bV⟩ := hr.at_ _ _ bu
        refine WDi (NPb (NPt (NPt (NPb (NPt (NPb (NPt (NPt (NPb (NPt hN)))))))))) 4 A xs.length c 51 .i64 (j : Int) b67 o69 j 1 (by kernel_rfl) (by kernel_rfl) bU (by omega) (by omega) (o69 + j) (by first | (simp; done) | omega) ac ?_
        refine WDq (NPb (NPt (NPt (NPb (NPt (NPb (NPt (NPt (NPb (NPt hN)))))))))) 6 53 (.slice A xs.length c) ac ?_
        refine WDq (NPb (NPt (NPt (NPb (NPt (NPb (NPt (NPt (NPb (NPt hN)))))))))) 7 54 (.int .i64 (i : Int)) ac ?_
        refine WDi (NPb (NPt (NPt (NPb (NPt (NPb (NPt (NPt (NPb (NPt hN)))))))))) 8 A xs.length c 55 .i64 (i : Int) b41 o43 i 1 (by kernel_rfl) (by kernel_rfl) bQ (by omega) (by omega) (o43 + i) (by first | (simp; done) | omega) ac ?_
        refine WDm (NPb (NPt (NPt (NPb (NPt (NPb (NPt (NPt (NPb (NPt hN)))))))))) 5 3 (.pointer (some ⟨b67, o69 + j, none⟩)) (.int .i64 bt) 52 (fun _ hS_ => run_load1 rfl (by simpa [Nat.add_assoc] using Fr.cell hS_ (aW.fr.cell (bV 0 _ rfl) (by simp)) (by simp))) ac ?_
        refine WDm (NPb (NPt (NPt (NPb (NPt (NPb (NPt (NPt (NPb (NPt hN)))))))))) 9 3 (.pointer (some ⟨b41, o43 + i, none⟩)) (.int .i64 a0) 56 (fun _ hS_ => run_load1 rfl (by simpa [Nat.add_assoc] using Fr.cell hS_ (aW.fr.cell (bR 0 _ rfl) (by simp)) (by simp))) ac ?_
        refine WDq (NPb (NPt (NPt (NPb (NPt (NPb (NPt (NPt (NPb (NPt hN)))))))))) 10 57 (.bool (bt == a0)) ac ?_
        refine WDq (NPb (NPt (NPt (NPb (NPt (NPb (NPt (NPt (NPb (NPt hN)))))))))) 11 58 (.bool (bt == a0)) ac ?_
        refine WDq (NPb (NPt (NPt (NPb (NPt (NPb (NPt (NPt (NPb (NPt hN)))))))))) 12 5 (.bool (bt == a0)) ac ?_
        refine WD.done (by kernel_rfl) ?_
        refine QXb ?_
        refine QXn (bs _ _ ?_)
        refine WCg (WLq 2 [(46, .int .i64 (IntKind.i64.wrap ((j : Int) + 1))), (45, .int .i64 (j : Int))] ?_)
        refine WLt (show (.int .i64 (IntKind.i64.wrap ((j : Int) + 1)) : Value) = .int .i64 ((j : Int) + 1) from by rw [wrap_in_i64 ((j : Int) + 1) (by omega) (by omega)]) ?_
        refine WLq 1 [(7, .int .i64 ((j : Int) + 1))] ?_
        refine WLd rfl ?_
        refine QXn ?_
        have bW := aW.pick [] [] rfl rfl
        refine fun a_ ha_ => br _ _ _ ?_ ⟨j + 1, (bt == a0), rfl, rfl, bW, by omega, bad_new hb2 bo bu⟩ a_ (ha_.weaken (sub_of ⟨rfl, rfl, rfl, rfl, rfl, trivial⟩))
        omega
      ·
       have ca : (100 : Int) ≤ (j : Int) := by have q_ := of_decide_eq_false bn; omega
       refine WCf rfl ?_
       refine WC.exit ?_
       refine QXe ?_
       refine QXe ?_
       refine QX.block_hit ?_
       refine QXn (aU _ _ ?_)
       refine WCs (fun cW bv => ?_)
       refine WCg (WLq 1 [(59, .bool bd2)] (WLd rfl (QXn (bv _ _ ?_))))
       refine WCa 59 (bd2) rfl (fun aE => ?_) (fun aE => ?_)
       ·
        refine WCt rfl ?_
        refine WCs (fun cX bw => ?_)
        refine WCg (WLq 1 [(4, .int .i64 9)] (WLd rfl (QXn (bw _ _ ?_))))
        refine WC.ret ?_
        refine QXk ?_
        refine QXr ?_
        refine QXr ?_
        refine QXk ?_
        refine QXr ?_
        refine (hret _ _ _ rfl ?_).1
        clear hN hret hret' bw bv aV bl bk aU ak ae aj ai ah ag af hK6 hK4 hK2
        have hj_ : j = i := by omega
        subst hj_
        exact ⟨by rw [good_9 ⟨by omega, by omega⟩ (bad_ok aC (by rw [← hbd, ← hb2, aE]))]; rfl, aD.fr⟩
       ·
        refine WCf rfl (WC.skip ?_)
        refine QXb ?_
        refine QXn (ae _ _ ?_)
        refine WCg (WLq 2 [(22, .int .i64 (IntKind.i64.wrap ((i : Int) + 1))), (21, .int .i64 (i : Int))] ?_)
        refine WLt (show (.int .i64 (IntKind.i64.wrap ((i : Int) + 1)) : Value) = .int .i64 ((i : Int) + 1) from by rw [wrap_in_i64 ((i : Int) + 1) (by omega) (by omega)]) ?_
        refine WLq 1 [(6, .int .i64 ((i : Int) + 1))] ?_
        refine WLd rfl ?_
        refine QXn ?_
        have bX := aD.pick [] [] rfl rfl
        refine fun a_ ha_ => aA _ _ _ ?_ ⟨i + 1, bd2, rfl, rfl, bX, (by omega), (fun _ => aE), (by have q_ := hb2; rw [aE] at q_ ⊢; have q1_ := (Bool.or_eq_false_iff.1 q_.symm); rw [← hbd, q1_.1]), (by have hj_ : j = i := (by omega); have q_ := hb2; rw [aE, hj_] at q_; exact goodTo_step hgt aC (Bool.or_eq_false_iff.1 q_.symm).2)⟩ a_ (ha_.weaken (sub_of ⟨rfl, rfl, rfl, rfl, trivial⟩))
        omega
     ·
      have b9 : (i : Int) ≤ (j : Int) := by have q_ := of_decide_eq_false bm; omega
      refine WLq 3 [(44, .bool false), (43, undef), (42, undef)] (WLd rfl (QXn (aV _ _ ?_)))
      refine WCf rfl ?_
      refine WC.exit ?_
      refine QXe ?_
      refine QXe ?_
      refine QX.block_hit ?_
      refine QXn (aU _ _ ?_)
      refine WCs (fun cY bx => ?_)
      refine WCg (WLq 1 [(59, .bool bd2)] (WLd rfl (QXn (bx _ _ ?_))))
      refine WCa 59 (bd2) rfl (fun aF => ?_) (fun aF => ?_)
      ·
       refine WCt rfl ?_
       refine WCs (fun cZ bz => ?_)
       refine WCg (WLq 1 [(4, .int .i64 9)] (WLd rfl (QXn (bz _ _ ?_))))
       refine WC.ret ?_
       refine QXk ?_
       refine QXr ?_
       refine QXr ?_
       refine QXk ?_
       refine QXr ?_
       refine (hret _ _ _ rfl ?_).1
       clear hN hret hret' bz bx aV bl bk aU ak ae aj ai ah ag af hK6 hK4 hK2
       have hj_ : j = i := by omega
       subst hj_
       exact ⟨by rw [good_9 ⟨by omega, by omega⟩ (bad_ok aC (by rw [← hbd, ← hb2, aF]))]; rfl, aD.fr⟩
      ·
       refine WCf rfl (WC.skip ?_)
       refine QXb ?_
       refine QXn (ae _ _ ?_)
       refine WCg (WLq 2 [(22, .int .i64 (IntKind.i64.wrap ((i : Int) + 1))), (21, .int .i64 (i : Int))] ?_)
       refine WLt (show (.int .i64 (IntKind.i64.wrap ((i : Int) + 1)) : Value) = .int .i64 ((i : Int) + 1) from by rw [wrap_in_i64 ((i : Int) + 1) (by omega) (by omega)]) ?_
       refine WLq 1 [(6, .int .i64 ((i : Int) + 1))] ?_
       refine WLd rfl ?_
       refine QXn ?_
       have bY := aD.pick [] [] rfl rfl
       refine fun a_ ha_ => aA _ _ _ ?_ ⟨i + 1, bd2, rfl, rfl, bY, (by omega), (fun _ => aF), (by have q_ := hb2; rw [aF] at q_ ⊢; have q1_ := (Bool.or_eq_false_iff.1 q_.symm); rw [← hbd, q1_.1]), (by have hj_ : j = i := (by omega); have q_ := hb2; rw [aF, hj_] at q_; exact goodTo_step hgt aC (Bool.or_eq_false_iff.1 q_.symm).2)⟩ a_ (ha_.weaken (sub_of ⟨rfl, rfl, rfl, rfl, trivial⟩))
       omega
    ·
     refine WLq 2 [(26, .int .i64 (i : Int)), (25, .slice A xs.length c)] ?_
     obtain ⟨ad, al⟩ := get_some (xs := xs) (i := i) (by omega)
     obtain ⟨b90, o92, aX, aY⟩ := hr.at_ _ _ al
     refine WLi A xs.length c 27 .i64 (i : Int) b90 o92 i 1 (by kernel_rfl) aX (by omega) (by omega) (o92 + i) (by first | (simp; done) | omega) ?_
     refine WLo 3 (.pointer (some ⟨b90, o92 + i, none⟩)) (.int .i64 ad) 28 (run_load1 rfl (by simpa [Nat.add_assoc] using aB.fr.cell (aY 0 _ rfl) (by simp))) ?_
     refine WLq 3 [(31, .bool (decide (ad < 0))), (30, .bool (decide (ad < 0))), (29, .bool (decide (ad < 0)))] ?_
     refine WLa 31 (decide (ad < 0)) rfl (fun bp => ?_) (fun bp => ?_)
     ·
      have cc : ad < 0 := by have q_ := of_decide_eq_true bp; omega
      refine WLq 7 [(5, .bool true), (37, .bool true), (36, undef), (35, undef), (34, undef), (33, undef), (32, undef)] (WLd rfl (QXn (ak _ _ ?_)))
      refine WCs (fun c3 aZ => ?_)
      refine WCs (fun c4 bq => ?_)
      refine WCg (WLq 1 [(7, .int .i64 0)] (WLd rfl (QXn (bq _ _ ?_))))
      refine WC.block ?_
      refine WC.loop (fun m_ E_ w_ => ∃ (j : Nat) (bd2 : Bool), m_ = i - j ∧ E_ = [(0, .int .i64 per), (1, .slice A xs.length c), (5, .bool bd2), (6, .int .i64 (i : Int)), (7, .int .i64 (j : Int))] ∧ Cx w [] w_ [] [] ∧ (j ≤ i ∧ bd2 = (bd || (!inR ad || (xs.take j).contains ad)))) ⟨_, _, ⟨0, true, rfl, rfl, aB, Nat.zero_le _, (by first | (rw [aT]; rfl) | (rw [show inR ad = false from decide_eq_false (by omega)]; simp))⟩, sub_of ⟨rfl, rfl, rfl, rfl, rfl, trivial⟩⟩ (fun m106 E_ cd ce a1 bA => ?_)
      obtain ⟨j, bd2, rfl, rfl, am, hj, hb2⟩ := bA
      have hlb_ : i < 100 ∨ i = 0 := by
       rcases Nat.eq_zero_or_pos i with h_ | h_
       ·
        exact .inr h_
       ·
        have q_ := hbi h_; rw [hbd] at q_; have := of_decide_eq_false q_; omega
      refine WCs (fun cf aG => ?_)
      refine WCs (fun cg au => ?_)
      refine WCg (WLq 4 [(41, .bool (decide ((j : Int) < (i : Int)))), (40, .bool (decide ((j : Int) < (i : Int)))), (39, .int .i64 (i : Int)), (38, .int .i64 (j : Int))] ?_)
      refine WLa 41 (decide ((j : Int) < (i : Int))) rfl (fun aH => ?_) (fun aH => ?_)
      ·
       have bZ : (j : Int) < (i : Int) := by have q_ := of_decide_eq_true aH; omega
       refine WLq 3 [(44, .bool (decide ((j : Int) < 100))), (43, .bool (decide ((j : Int) < 100))), (42, .int .i64 (j : Int))] (WLd rfl (QXn (au _ _ ?_)))
       refine WCa 44 (decide ((j : Int) < 100)) rfl (fun aI => ?_) (fun aI => ?_)
       ·
        have b0 : (j : Int) < 100 := by have q_ := of_decide_eq_true aI; omega
        refine WCt rfl ?_
        refine WC.skip ?_
        refine QXn (aG _ _ ?_)
        refine WCs (fun ch a2 => ?_)
        refine WC.block ?_
        refine WC.drawC am [] (by kernel_rfl) (fun ci b3 av aa => ?_)
        refine WDq (NPb (NPt (NPt (NPb (NPt (NPb (NPt (NPt (NPb (NPt hN)))))))))) 0 47 (.bool bd2) aa ?_
        refine WDq (NPb (NPt (NPt (NPb (NPt (NPb (NPt (NPt (NPb (NPt hN)))))))))) 1 48 (.bool bd2) aa ?_
        refine WDa 48 (bd2) rfl (fun aJ => ?_) (fun aJ => ?_)
        ·
         refine WDq (NPb (NPt (NPt (NPb (NPt (NPb (NPt (NPt (NPb (NPt hN)))))))))) 2 49 (undef) aa ?_
         refine WDq (NPb (NPt (NPt (NPb (NPt (NPb (NPt (NPt (NPb (NPt hN)))))))))) 3 50 (undef) aa ?_
         refine WDq (NPb (NPt (NPt (NPb (NPt (NPb (NPt (NPt (NPb (NPt hN)))))))))) 4 51 (undef) aa ?_
         refine WDq (NPb (NPt (NPt (NPb (NPt (NPb (NPt (NPt (NPb (NPt hN)))))))))) 5 52 (undef) aa ?_
         refine WDq (NPb (NPt (NPt (NPb (NPt (NPb (NPt (NPt (NPb (NPt hN)))))))))) 6 53 (undef) aa ?_
         refine WDq (NPb (NPt (NPt (NPb (NPt (NPb (NPt (NPt (NPb (NPt hN)))))))))) 7 54 (undef) aa ?_
         refine WDq (NPb (NPt (NPt (NPb (NPt (NPb (NPt (NPt (NPb (NPt hN)))))))))) 8 55 (undef) aa ?_
         refine WDq (NPb (NPt (NPt (NPb (NPt (NPb (NPt (NPt (NPb (NPt hN)))))))))) 9 56 (undef) aa ?_
         refine WDq (NPb (NPt (NPt (NPb (NPt (NPb (NPt (NPt (NPb (NPt hN)))))))))) 10 57 (undef) aa ?_
         refine WDq (NPb (NPt (NPt (NPb (NPt (NPb (NPt (NPt (NPb (NPt hN)))))))))) 11 58 (.bool true) aa ?_
         refine WDq (NPb (NPt (NPt (NPb (NPt (NPb (NPt (NPt (NPb (NPt hN)))))))))) 12 5 (.bool true) aa ?_
         refine WD.done (by kernel_rfl) ?_
         refine QXb ?_
         refine QXn (a2 _ _ ?_)
         refine WCg (WLq 2 [(46, .int .i64 (IntKind.i64.wrap ((j : Int) + 1))), (45, .int .i64 (j : Int))] ?_)
         refine WLt (show (.int .i64 (IntKind.i64.wrap ((j : Int) + 1)) : Value) = .int .i64 ((j : Int) + 1) from by rw [wrap_in_i64 ((j : Int) + 1) (by omega) (by omega)]) ?_
         refine WLq 1 [(7, .int .i64 ((j : Int) + 1))] ?_
         refine WLd rfl ?_
         refine QXn ?_
         have bB := av.pick [] [] rfl rfl
         refine fun a_ ha_ => a1 _ _ _ ?_ ⟨j + 1, true, rfl, rfl, bB, by omega, (by obtain ⟨y_, hy_⟩ := get_some (xs := xs) (i := j) (by omega); exact bad_keep hb2 aJ hy_)⟩ a_ (ha_.weaken (sub_of ⟨rfl, rfl, rfl, rfl, rfl, trivial⟩))
         omega
        ·
         refine WDq (NPb (NPt (NPt (NPb (NPt (NPb (NPt (NPt (NPb (NPt hN)))))))))) 2 49 (.slice A xs.length c) aa ?_
         refine WDq (NPb (NPt (NPt (NPb (NPt (NPb (NPt (NPt (NPb (NPt hN)))))))))) 3 50 (.int .i64 (j : Int)) aa ?_
         obtain ⟨aK, a3⟩ := get_some (xs := xs) (i := j) (by omega)
         obtain ⟨b125, o127, bC, bD⟩ := hr.at_ _ _ a3
         refine WDi (NPb (NPt (NPt (NPb (NPt (NPb (NPt (NPt (NPb (NPt hN)))))))))) 4 A xs.length c 51 .i64 (j : Int) b125 o127 j 1 (by kernel_rfl) (by kernel_rfl) bC (by omega) (by omega) (o127 + j) (by first | (simp; done) | omega) aa ?_
         refine WDq (NPb (NPt (NPt (NPb (NPt (NPb (NPt (NPt (NPb (NPt hN)))))))))) 6 53 (.slice A xs.length c) aa ?_
         refine WDq (NPb (NPt (NPt (NPb (NPt (NPb (NPt (NPt (NPb (NPt hN)))))))))) 7 54 (.int .i64 (i : Int)) aa ?_
         refine WDi (NPb (NPt (NPt (NPb (NPt (NPb (NPt (NPt (NPb (NPt hN)))))))))) 8 A xs.length c 55 .i64 (i : Int) b90 o92 i 1 (by kernel_rfl) (by kernel_rfl) aX (by omega) (by omega) (o92 + i) (by first | (simp; done) | omega) aa ?_
         refine WDm (NPb (NPt (NPt (NPb (NPt (NPb (NPt (NPt (NPb (NPt hN)))))))))) 5 3 (.pointer (some ⟨b125, o127 + j, none⟩)) (.int .i64 aK) 52 (fun _ hS_ => run_load1 rfl (by simpa [Nat.add_assoc] using Fr.cell hS_ (av.fr.cell (bD 0 _ rfl) (by simp)) (by simp))) aa ?_
         refine WDm (NPb (NPt (NPt (NPb (NPt (NPb (NPt (NPt (NPb (NPt hN)))))))))) 9 3 (.pointer (some ⟨b90, o92 + i, none⟩)) (.int .i64 ad) 56 (fun _ hS_ => run_load1 rfl (by simpa [Nat.add_assoc] using Fr.cell hS_ (av.fr.cell (aY 0 _ rfl) (by simp)) (by simp))) aa ?_
         refine WDq (NPb (NPt (NPt (NPb (NPt (NPb (NPt (NPt (NPb (NPt hN)))))))))) 10 57 (.bool (aK == ad)) aa ?_
         refine WDq (NPb (NPt (NPt (NPb (NPt (NPb (NPt (NPt (NPb (NPt hN)))))))))) 11 58 (.bool (aK == ad)) aa ?_
         refine WDq (NPb (NPt (NPt (NPb (NPt (NPb (NPt (NPt (NPb (NPt hN)))))))))) 12 5 (.bool (aK == ad)) aa ?_
         refine WD.done (by kernel_rfl) ?_
         refine QXb ?_
         refine QXn (a2 _ _ ?_)
         refine WCg (WLq 2 [(46, .int .i64 (IntKind.i64.wrap ((j : Int) + 1))), (45, .int .i64 (j : Int))] ?_)
         refine WLt (show (.int .i64 (IntKind.i64.wrap ((j : Int) + 1)) : Value) = .int .i64 ((j : Int) + 1) from by rw [wrap_in_i64 ((j : Int) + 1) (by omega) (by omega)]) ?_
         refine WLq 1 [(7, .int .i64 ((j : Int) + 1))] ?_
         refine WLd rfl ?_
         refine QXn ?_
         have bE := av.pick [] [] rfl rfl
         refine fun a_ ha_ => a1 _ _ _ ?_ ⟨j + 1, (aK == ad), rfl, rfl, bE, by omega, bad_new hb2 aJ a3⟩ a_ (ha_.weaken (sub_of ⟨rfl, rfl, rfl, rfl, rfl, trivial⟩))
         omega
       ·
        have b0 : (100 : Int) ≤ (j : Int) := by have q_ := of_decide_eq_false aI; omega
        refine WCf rfl ?_
        refine WC.exit ?_
        refine QXe ?_
        refine QXe ?_
        refine QX.block_hit ?_
        refine QXn (aZ _ _ ?_)
        refine WCs (fun cj a4 => ?_)
        refine WCg (WLq 1 [(59, .bool bd2)] (WLd rfl (QXn (a4 _ _ ?_))))
        refine WCa 59 (bd2) rfl (fun an => ?_) (fun an => ?_)
        ·
         refine WCt rfl ?_
         refine WCs (fun ck a5 => ?_)
         refine WCg (WLq 1 [(4, .int .i64 9)] (WLd rfl (QXn (a5 _ _ ?_))))
         refine WC.ret ?_
         refine QXk ?_
         refine QXr ?_
         refine QXr ?_
         refine QXk ?_
         refine QXr ?_
         refine (hret _ _ _ rfl ?_).1
         clear hN hret hret' a5 a4 au aG bq aZ ak ae aj ai ah ag af hK6 hK4 hK2
         have hj_ : j = i := by omega
         subst hj_
         exact ⟨by rw [good_9 ⟨by omega, by omega⟩ (bad_ok al (by rw [← hbd, ← hb2, an]))]; rfl, am.fr⟩
        ·
         refine WCf rfl (WC.skip ?_)
         refine QXb ?_
         refine QXn (ae _ _ ?_)
         refine WCg (WLq 2 [(22, .int .i64 (IntKind.i64.wrap ((i : Int) + 1))), (21, .int .i64 (i : Int))] ?_)
         refine WLt (show (.int .i64 (IntKind.i64.wrap ((i : Int) + 1)) : Value) = .int .i64 ((i : Int) + 1) from by rw [wrap_in_i64 ((i : Int) + 1) (by omega) (by omega)]) ?_
         refine WLq 1 [(6, .int .i64 ((i : Int) + 1))] ?_
         refine WLd rfl ?_
         refine QXn ?_
         have bF := am.pick [] [] rfl rfl
         refine fun a_ ha_ => aA _ _ _ ?_ ⟨i + 1, bd2, rfl, rfl, bF, (by omega), (fun _ => an), (by have q_ := hb2; rw [an] at q_ ⊢; have q1_ := (Bool.or_eq_false_iff.1 q_.symm); rw [← hbd, q1_.1]), (by have hj_ : j = i := (by omega); have q_ := hb2; rw [an, hj_] at q_; exact goodTo_step hgt al (Bool.or_eq_false_iff.1 q_.symm).2)⟩ a_ (ha_.weaken (sub_of ⟨rfl, rfl, rfl, rfl, trivial⟩))
         omega
      ·
       have bZ : (i : Int) ≤ (j : Int) := by have q_ := of_decide_eq_false aH; omega
       refine WLq 3 [(44, .bool false), (43, undef), (42, undef)] (WLd rfl (QXn (au _ _ ?_)))
       refine WCf rfl ?_
       refine WC.exit ?_
       refine QXe ?_
       refine QXe ?_
       refine QX.block_hit ?_
       refine QXn (aZ _ _ ?_)
       refine WCs (fun cl a6 => ?_)
       refine WCg (WLq 1 [(59, .bool bd2)] (WLd rfl (QXn (a6 _ _ ?_))))
       refine WCa 59 (bd2) rfl (fun ao => ?_) (fun ao => ?_)
       ·
        refine WCt rfl ?_
        refine WCs (fun cm a7 => ?_)
        refine WCg (WLq 1 [(4, .int .i64 9)] (WLd rfl (QXn (a7 _ _ ?_))))
        refine WC.ret ?_
        refine QXk ?_
        refine QXr ?_
        refine QXr ?_
        refine QXk ?_
        refine QXr ?_
        refine (hret _ _ _ rfl ?_).1
        clear hN hret hret' a7 a6 au aG bq aZ ak ae aj ai ah ag af hK6 hK4 hK2
        have hj_ : j = i := by omega
        subst hj_
        exact ⟨by rw [good_9 ⟨by omega, by omega⟩ (bad_ok al (by rw [← hbd, ← hb2, ao]))]; rfl, am.fr⟩
       ·
        refine WCf rfl (WC.skip ?_)
        refine QXb ?_
        refine QXn (ae _ _ ?_)
        refine WCg (WLq 2 [(22, .int .i64 (IntKind.i64.wrap ((i : Int) + 1))), (21, .int .i64 (i : Int))] ?_)
        refine WLt (show (.int .i64 (IntKind.i64.wrap ((i : Int) + 1)) : Value) = .int .i64 ((i : Int) + 1) from by rw [wrap_in_i64 ((i : Int) + 1) (by omega) (by omega)]) ?_
        refine WLq 1 [(6, .int .i64 ((i : Int) + 1))] ?_
        refine WLd rfl ?_
        refine QXn ?_
        have bG := am.pick [] [] rfl rfl
        refine fun a_ ha_ => aA _ _ _ ?_ ⟨i + 1, bd2, rfl, rfl, bG, (by omega), (fun _ => ao), (by have q_ := hb2; rw [ao] at q_ ⊢; have q1_ := (Bool.or_eq_false_iff.1 q_.symm); rw [← hbd, q1_.1]), (by have hj_ : j = i := (by omega); have q_ := hb2; rw [ao, hj_] at q_; exact goodTo_step hgt al (Bool.or_eq_false_iff.1 q_.symm).2)⟩ a_ (ha_.weaken (sub_of ⟨rfl, rfl, rfl, rfl, trivial⟩))
        omega
     ·
      have cc : (0 : Int) ≤ ad := by have q_ := of_decide_eq_false bp; omega
      refine WLq 2 [(33, .int .i64 (i : Int)), (32, .slice A xs.length c)] ?_
      refine WLi A xs.length c 34 .i64 (i : Int) b90 o92 i 1 (by kernel_rfl) aX (by omega) (by omega) (o92 + i) (by first | (simp; done) | omega) ?_
      refine WLo 3 (.pointer (some ⟨b90, o92 + i, none⟩)) (.int .i64 ad) 35 (run_load1 rfl (by simpa [Nat.add_assoc] using aB.fr.cell (aY 0 _ rfl) (by simp))) ?_
      refine WLq 3 [(5, .bool (decide (ad > 65535))), (37, .bool (decide (ad > 65535))), (36, .bool (decide (ad > 65535)))] (WLd rfl (QXn (ak _ _ ?_)))
      refine WCs (fun cn aw => ?_)
      refine WCs (fun co aL => ?_)
      refine WCg (WLq 1 [(7, .int .i64 0)] (WLd rfl (QXn (aL _ _ ?_))))
      refine WC.block ?_
      refine WC.loop (fun m_ E_ w_ => ∃ (j : Nat) (bd2 : Bool), m_ = i - j ∧ E_ = [(0, .int .i64 per), (1, .slice A xs.length c), (5, .bool bd2), (6, .int .i64 (i : Int)), (7, .int .i64 (j : Int))] ∧ Cx w [] w_ [] [] ∧ (j ≤ i ∧ bd2 = (bd || (!inR ad || (xs.take j).contains ad)))) ⟨_, _, ⟨0, (decide (ad > 65535)), rfl, rfl, aB, Nat.zero_le _, (by simp only [List.take_zero, List.contains_nil, Bool.or_false]; rw [aT, Bool.false_or]; unfold inR; rw [← decide_not]; exact decide_eq_decide.2 (by omega))⟩, sub_of ⟨rfl, rfl, rfl, rfl, rfl, trivial⟩⟩ (fun m161 E_ cp cq a8 bH => ?_)
      obtain ⟨j, bd2, rfl, rfl, ap, hj, hb2⟩ := bH
      have hlb_ : i < 100 ∨ i = 0 := by
       rcases Nat.eq_zero_or_pos i with h_ | h_
       ·
        exact .inr h_
       ·
        have q_ := hbi h_; rw [hbd] at q_; have := of_decide_eq_false q_; omega
      refine WCs (fun cr aM => ?_)
      refine WCs (fun cs ax => ?_)
      refine WCg (WLq 4 [(41, .bool (decide ((j : Int) < (i : Int)))), (40, .bool (decide ((j : Int) < (i : Int)))), (39, .int .i64 (i : Int)), (38, .int .i64 (j : Int))] ?_)
      refine WLa 41 (decide ((j : Int) < (i : Int))) rfl (fun aN => ?_) (fun aN => ?_)
      ·
       have b1 : (j : Int) < (i : Int) := by have q_ := of_decide_eq_true aN; omega
       refine WLq 3 [(44, .bool (decide ((j : Int) < 100))), (43, .bool (decide ((j : Int) < 100))), (42, .int .i64 (j : Int))] (WLd rfl (QXn (ax _ _ ?_)))
       refine WCa 44 (decide ((j : Int) < 100)) rfl (fun aO => ?_) (fun aO => ?_)
       ·
        have b2 : (j : Int) < 100 := by have q_ := of_decide_eq_true aO; omega
        refine WCt rfl ?_
        refine WC.skip ?_
        refine QXn (aM _ _ ?_)
        refine WCs (fun ct a9 => ?_)
        refine WC.block ?_
        refine WC.drawC ap [] (by kernel_rfl) (fun cu b5 ay ab => ?_)
        refine WDq (NPb (NPt (NPt (NPb (NPt (NPb (NPt (NPt (NPb (NPt hN)))))))))) 0 47 (.bool bd2) ab ?_
        refine WDq (NPb (NPt (NPt (NPb (NPt (NPb (NPt (NPt (NPb (NPt hN)))))))))) 1 48 (.bool bd2) ab ?_
        refine WDa 48 (bd2) rfl (fun aP => ?_) (fun aP => ?_)
        ·
         refine WDq (NPb (NPt (NPt (NPb (NPt (NPb (NPt (NPt (NPb (NPt hN)))))))))) 2 49 (undef) ab ?_
         refine WDq (NPb (NPt (NPt (NPb (NPt (NPb (NPt (NPt (NPb (NPt hN)))))))))) 3 50 (undef) ab ?_
         refine WDq (NPb (NPt (NPt (NPb (NPt (NPb (NPt (NPt (NPb (NPt hN)))))))))) 4 51 (undef) ab ?_
         refine WDq (NPb (NPt (NPt (NPb (NPt (NPb (NPt (NPt (NPb (NPt hN)))))))))) 5 52 (undef) ab ?_
         refine WDq (NPb (NPt (NPt (NPb (NPt (NPb (NPt (NPt (NPb (NPt hN)))))))))) 6 53 (undef) ab ?_
         refine WDq (NPb (NPt (NPt (NPb (NPt (NPb (NPt (NPt (NPb (NPt hN)))))))))) 7 54 (undef) ab ?_
         refine WDq (NPb (NPt (NPt (NPb (NPt (NPb (NPt (NPt (NPb (NPt hN)))))))))) 8 55 (undef) ab ?_
         refine WDq (NPb (NPt (NPt (NPb (NPt (NPb (NPt (NPt (NPb (NPt hN)))))))))) 9 56 (undef) ab ?_
         refine WDq (NPb (NPt (NPt (NPb (NPt (NPb (NPt (NPt (NPb (NPt hN)))))))))) 10 57 (undef) ab ?_
         refine WDq (NPb (NPt (NPt (NPb (NPt (NPb (NPt (NPt (NPb (NPt hN)))))))))) 11 58 (.bool true) ab ?_
         refine WDq (NPb (NPt (NPt (NPb (NPt (NPb (NPt (NPt (NPb (NPt hN)))))))))) 12 5 (.bool true) ab ?_
         refine WD.done (by kernel_rfl) ?_
         refine QXb ?_
         refine QXn (a9 _ _ ?_)
         refine WCg (WLq 2 [(46, .int .i64 (IntKind.i64.wrap ((j : Int) + 1))), (45, .int .i64 (j : Int))] ?_)
         refine WLt (show (.int .i64 (IntKind.i64.wrap ((j : Int) + 1)) : Value) = .int .i64 ((j : Int) + 1) from by rw [wrap_in_i64 ((j : Int) + 1) (by omega) (by omega)]) ?_
         refine WLq 1 [(7, .int .i64 ((j : Int) + 1))] ?_
         refine WLd rfl ?_
         refine QXn ?_
         have bI := ay.pick [] [] rfl rfl
         refine fun a_ ha_ => a8 _ _ _ ?_ ⟨j + 1, true, rfl, rfl, bI, by omega, (by obtain ⟨y_, hy_⟩ := get_some (xs := xs) (i := j) (by omega); exact bad_keep hb2 aP hy_)⟩ a_ (ha_.weaken (sub_of ⟨rfl, rfl, rfl, rfl, rfl, trivial⟩))
         omega
        ·
         refine WDq (NPb (NPt (NPt (NPb (NPt (NPb (NPt (NPt (NPb (NPt hN)))))))))) 2 49 (.slice A xs.length c) ab ?_
         refine WDq (NPb (NPt (NPt (NPb (NPt (NPb (NPt (NPt (NPb (NPt hN)))))))))) 3 50 (.int .i64 (j : Int)) ab ?_
         obtain ⟨aQ, ba⟩ := get_some (xs := xs) (i := j) (by omega)
         obtain ⟨b180, o182, bJ, bK⟩ := hr.at_ _ _ ba
         refine WDi (NPb (NPt (NPt (NPb (NPt (NPb (NPt (NPt (NPb (NPt hN)))))))))) 4 A xs.length c 51 .i64 (j : Int) b180 o182 j 1 (by kernel_rfl) (by kernel_rfl) bJ (by omega) (by omega) (o182 + j) (by first | (simp; done) | omega) ab ?_
         refine WDq (NPb (NPt (NPt (NPb (NPt (NPb (NPt (NPt (NPb (NPt hN)))))))))) 6 53 (.slice A xs.length c) ab ?_
         refine WDq (NPb (NPt (NPt (NPb (NPt (NPb (NPt (NPt (NPb (NPt hN)))))))))) 7 54 (.int .i64 (i : Int)) ab ?_
         refine WDi (NPb (NPt (NPt (NPb (NPt (NPb (NPt (NPt (NPb (NPt hN)))))))))) 8 A xs.length c 55 .i64 (i : Int) b90 o92 i 1 (by kernel_rfl) (by kernel_rfl) aX (by omega) (by omega) (o92 + i) (by first | (simp; done) | omega) ab ?_
         refine WDm (NPb (NPt (NPt (NPb (NPt (NPb (NPt (NPt (NPb (NPt hN)))))))))) 5 3 (.pointer (some ⟨b180, o182 + j, none⟩)) (.int .i64 aQ) 52 (fun _ hS_ => run_load1 rfl (by simpa [Nat.add_assoc] using Fr.cell hS_ (ay.fr.cell (bK 0 _ rfl) (by simp)) (by simp))) ab ?_
         refine WDm (NPb (NPt (NPt (NPb (NPt (NPb (NPt (NPt (NPb (NPt hN)))))))))) 9 3 (.pointer (some ⟨b90, o92 + i, none⟩)) (.int .i64 ad) 56 (fun _ hS_ => run_load1 rfl (by simpa [Nat.add_assoc] using Fr.cell hS_ (ay.fr.cell (aY 0 _ rfl) (by simp)) (by simp))) ab ?_
         refine WDq (NPb (NPt (NPt (NPb (NPt (NPb (NPt (NPt (NPb (NPt hN)))))))))) 10 57 (.bool (aQ == ad)) ab ?_
         refine WDq (NPb (NPt (NPt (NPb (NPt (NPb (NPt (NPt (NPb (NPt hN)))))))))) 11 58 (.bool (aQ == ad)) ab ?_
         refine WDq (NPb (NPt (NPt (NPb (NPt (NPb (NPt (NPt (NPb (NPt hN)))))))))) 12 5 (.bool (aQ == ad)) ab ?_
         refine WD.done (by kernel_rfl) ?_
         refine QXb ?_
         refine QXn (a9 _ _ ?_)
         refine WCg (WLq 2 [(46, .int .i64 (IntKind.i64.wrap ((j : Int) + 1))), (45, .int .i64 (j : Int))] ?_)
         refine WLt (show (.int .i64 (IntKind.i64.wrap ((j : Int) + 1)) : Value) = .int .i64 ((j : Int) + 1) from by rw [wrap_in_i64 ((j : Int) + 1) (by omega) (by omega)]) ?_
         refine WLq 1 [(7, .int .i64 ((j : Int) + 1))] ?_
         refine WLd rfl ?_
         refine QXn ?_
         have bL := ay.pick [] [] rfl rfl
         refine fun a_ ha_ => a8 _ _ _ ?_ ⟨j + 1, (aQ == ad), rfl, rfl, bL, by omega, bad_new hb2 aP ba⟩ a_ (ha_.weaken (sub_of ⟨rfl, rfl, rfl, rfl, rfl, trivial⟩))
         omega
       ·
        have b2 : (100 : Int) ≤ (j : Int) := by have q_ := of_decide_eq_false aO; omega
        refine WCf rfl ?_
        refine WC.exit ?_
        refine QXe ?_
        refine QXe ?_
        refine QX.block_hit ?_
        refine QXn (aw _ _ ?_)
        refine WCs (fun cv bb => ?_)
        refine WCg (WLq 1 [(59, .bool bd2)] (WLd rfl (QXn (bb _ _ ?_))))
        refine WCa 59 (bd2) rfl (fun aq => ?_) (fun aq => ?_)
        ·
         refine WCt rfl ?_
         refine WCs (fun cw bc => ?_)
         refine WCg (WLq 1 [(4, .int .i64 9)] (WLd rfl (QXn (bc _ _ ?_))))
         refine WC.ret ?_
         refine QXk ?_
         refine QXr ?_
         refine QXr ?_
         refine QXk ?_
         refine QXr ?_
         refine (hret _ _ _ rfl ?_).1
         clear hN hret hret' bc bb ax aM aL aw ak ae aj ai ah ag af hK6 hK4 hK2
         have hj_ : j = i := by omega
         subst hj_
         exact ⟨by rw [good_9 ⟨by omega, by omega⟩ (bad_ok al (by rw [← hbd, ← hb2, aq]))]; rfl, ap.fr⟩
        ·
         refine WCf rfl (WC.skip ?_)
         refine QXb ?_
         refine QXn (ae _ _ ?_)
         refine WCg (WLq 2 [(22, .int .i64 (IntKind.i64.wrap ((i : Int) + 1))), (21, .int .i64 (i : Int))] ?_)
         refine WLt (show (.int .i64 (IntKind.i64.wrap ((i : Int) + 1)) : Value) = .int .i64 ((i : Int) + 1) from by rw [wrap_in_i64 ((i : Int) + 1) (by omega) (by omega)]) ?_
         refine WLq 1 [(6, .int .i64 ((i : Int) + 1))] ?_
         refine WLd rfl ?_
         refine QXn ?_
         have bM := ap.pick [] [] rfl rfl
         refine fun a_ ha_ => aA _ _ _ ?_ ⟨i + 1, bd2, rfl, rfl, bM, (by omega), (fun _ => aq), (by have q_ := hb2; rw [aq] at q_ ⊢; have q1_ := (Bool.or_eq_false_iff.1 q_.symm); rw [← hbd, q1_.1]), (by have hj_ : j = i := (by omega); have q_ := hb2; rw [aq, hj_] at q_; exact goodTo_step hgt al (Bool.or_eq_false_iff.1 q_.symm).2)⟩ a_ (ha_.weaken (sub_of ⟨rfl, rfl, rfl, rfl, trivial⟩))
         omega
      ·
       have b1 : (i : Int) ≤ (j : Int) := by have q_ := of_decide_eq_false aN; omega
       refine WLq 3 [(44, .bool false), (43, undef), (42, undef)] (WLd rfl (QXn (ax _ _ ?_)))
       refine WCf rfl ?_
       refine WC.exit ?_
       refine QXe ?_
       refine QXe ?_
       refine QX.block_hit ?_
       refine QXn (aw _ _ ?_)
       refine WCs (fun cx be => ?_)
       refine WCg (WLq 1 [(59, .bool bd2)] (WLd rfl (QXn (be _ _ ?_))))
       refine WCa 59 (bd2) rfl (fun ar => ?_) (fun ar => ?_)
       ·
        refine WCt rfl ?_
        refine WCs (fun cy bf => ?_)
        refine WCg (WLq 1 [(4, .int .i64 9)] (WLd rfl (QXn (bf _ _ ?_))))
        refine WC.ret ?_
        refine QXk ?_
        refine QXr ?_
        refine QXr ?_
        refine QXk ?_
        refine QXr ?_
        refine (hret _ _ _ rfl ?_).1
        clear hN hret hret' bf be ax aM aL aw ak ae aj ai ah ag af hK6 hK4 hK2
        have hj_ : j = i := by omega
        subst hj_
        exact ⟨by rw [good_9 ⟨by omega, by omega⟩ (bad_ok al (by rw [← hbd, ← hb2, ar]))]; rfl, ap.fr⟩
       ·
        refine WCf rfl (WC.skip ?_)
        refine QXb ?_
        refine QXn (ae _ _ ?_)
        refine WCg (WLq 2 [(22, .int .i64 (IntKind.i64.wrap ((i : Int) + 1))), (21, .int .i64 (i : Int))] ?_)
        refine WLt (show (.int .i64 (IntKind.i64.wrap ((i : Int) + 1)) : Value) = .int .i64 ((i : Int) + 1) from by rw [wrap_in_i64 ((i : Int) + 1) (by omega) (by omega)]) ?_
        refine WLq 1 [(6, .int .i64 ((i : Int) + 1))] ?_
        refine WLd rfl ?_
        refine QXn ?_
        have bN := ap.pick [] [] rfl rfl
        refine fun a_ ha_ => aA _ _ _ ?_ ⟨i + 1, bd2, rfl, rfl, bN, (by omega), (fun _ => ar), (by have q_ := hb2; rw [ar] at q_ ⊢; have q1_ := (Bool.or_eq_false_iff.1 q_.symm); rw [← hbd, q1_.1]), (by have hj_ : j = i := (by omega); have q_ := hb2; rw [ar, hj_] at q_; exact goodTo_step hgt al (Bool.or_eq_false_iff.1 q_.symm).2)⟩ a_ (ha_.weaken (sub_of ⟨rfl, rfl, rfl, rfl, trivial⟩))
        omega
   ·
    have b7 : (xs.length : Int) ≤ (i : Int) := by have q_ := of_decide_eq_false bj; omega
    refine WCf rfl ?_
    refine WC.exit ?_
    refine QXe ?_
    refine QXe ?_
    refine QX.block_hit ?_
    refine QXn (ag _ _ ?_)
    refine WCs (fun cz aR => ?_)
    refine WCs (fun cA aS => ?_)
    refine WCg (WLq 1 [(60, .bool bd)] (WLd rfl (QXn (aS _ _ ?_))))
    refine WCa 60 (bd) rfl (fun az => ?_) (fun az => ?_)
    ·
     refine WCt rfl ?_
     refine WCs (fun cB bg => ?_)
     refine WCg (WLq 1 [(4, .int .i64 9)] (WLd rfl (QXn (bg _ _ ?_))))
     refine WC.ret ?_
     refine QXr ?_
     refine (hret _ _ _ rfl ?_).1
     clear hN hret hret' bg aS aR aj ai ah ag af hK6 hK4 hK2
     exfalso
     have h0_ : i = 0 := by
      rcases Nat.eq_zero_or_pos i with h_ | h_
      ·
       exact h_
      ·
       have q_ := hbi h_; rw [az] at q_; cases q_
     rw [az] at hbd
     have := of_decide_eq_true hbd.symm
     omega
    ·
     refine WCf rfl (WC.skip (QXn (aR _ _ ?_)))
     refine WCs (fun cC bh => ?_)
     refine WCg (WLq 1 [(4, .int .i64 0)] (WLd rfl (QXn (bh _ _ ?_))))
     refine WC.ret ?_
     refine (hret _ _ _ rfl ?_).1
     clear hN hret hret' bh aS aR aj ai ah ag af hK6 hK4 hK2
     rw [az] at hbd
     have cD := of_decide_eq_false hbd.symm
     have hie_ : i = xs.length := by omega
     rw [hie_] at hgt
     exact ⟨by rw [good_0 ⟨by omega, by omega⟩ (goodTo_ok hgt (by omega))]; rfl, aB.fr⟩

theorem RWithout_ct (A : Option Addr) (c : Nat) (xs : List Int) (B : Option Addr) (cB : Nat) (k : List Int) (w : World) (hr : Rd w 1 (Go.Tw.encI .i64) A xs) (hl : xs.length ≤ 1099511627776) (hrB : Rd w 1 (Go.Tw.encI .i64) B k) (hkl : k.length ≤ 1099511627776) : Calls Try.prog 24 #[.slice A xs.length c, .slice B k.length cB] w fun e w' => ∃ v, e = .returned v ∧ Fr w w' [] ∧ w'.ownsRow w.heap.size 3 1 v (outK k xs).length ((outK k xs).flatMap (Go.Tw.encI .i64)) := by
 refine enterD (n := 28) Try.func24 rfl rfl (Nat.le_of_ble_eq_true rfl) ?_
 intro Q0 hN hret hret'
 have hC := Cx.start w
 refine WCs (fun K1 hK2 => ?_)
 refine WCg (WLq 1 [(4, .slice none 0 0)] (WLd rfl (QXn (hK2 _ _ ?_))))
 refine WCs (fun K3 hK4 => ?_)
 refine WCg (WLq 1 [(5, .slice none 0 0)] (WLd rfl (QXn (hK4 _ _ ?_))))
 refine WCs (fun K5 hK6 => ?_)
 refine WCs (fun K7 hK8 => ?_)
 refine WCg (WLq 1 [(6, .int .i64 0)] (WLd rfl (QXn (hK8 _ _ ?_))))
 refine WC.block ?_
 have hC9 := hC.addNil
 refine WC.loop (fun m_ E_ w_ => ∃ (i : Nat) (A5 : Option Addr) (n5 c5 : Nat), m_ = xs.length - i ∧ E_ = [(0, .slice A xs.length c), (1, .slice B k.length cB), (4, .slice none 0 0), (5, .slice A5 n5 c5), (6, .int .i64 (i : Int))] ∧ Cx w [] w_ [] [blk (.slice A5 n5 c5)] ∧ World.ownsRow w_ 0 3 1 (.slice A5 n5 c5) n5 ((outK k (xs.take i)).flatMap (Go.Tw.encI .i64)) ∧ (i ≤ xs.length)) ⟨_, _, ⟨0, none, 0, 0, rfl, rfl, hC9, own_nil _ _ _ _, Nat.zero_le _⟩, sub_of ⟨rfl, rfl, rfl, rfl, rfl, trivial⟩⟩ (fun m13 E_ aJ aN ag ar => ?_)
 obtain ⟨i, A5, n5, c5, rfl, rfl, ab, hrow, hi⟩ := ar
 have hcn_ := own_count (Go.Tw.encI_len _) (by decide) hrow
 have hol_ : (outK k (xs.take i)).length ≤ (xs.take i).length := List.length_filter_le _ _
 rw [List.length_take] at hol_
 refine WCs (fun aO ah => ?_)
 refine WCs (fun aP ai => ?_)
 refine WCg (WLq 4 [(10, .bool (decide ((i : Int) < (xs.length : Int)))), (9, .int .i64 (xs.length : Int)), (8, .slice A xs.length c), (7, .int .i64 (i : Int))] (WLd rfl (QXn (ai _ _ ?_))))
 refine WCa 10 (decide ((i : Int) < (xs.length : Int))) rfl (fun ad => ?_) (fun ad => ?_)
 ·
  have aK : (i : Int) < (xs.length : Int) := by have q_ := of_decide_eq_true ad; omega
  refine WCt rfl ?_
  refine WC.skip ?_
  refine QXn (ah _ _ ?_)
  refine WCs (fun aQ aj => ?_)
  refine WC.block ?_
  refine WCs (fun aR au => ?_)
  refine WCg (WLq 3 [(15, .int .i64 (i : Int)), (14, .slice A xs.length c), (13, .slice B k.length cB)] ?_)
  obtain ⟨aa, ae⟩ := get_some (xs := xs) (i := i) (by omega)
  obtain ⟨b27, o29, ak, al⟩ := hr.at_ _ _ ae
  refine WLi A xs.length c 16 .i64 (i : Int) b27 o29 i 1 (by kernel_rfl) ak (by omega) (by omega) (o29 + i) (by first | (simp; done) | omega) ?_
  refine WLo 3 (.pointer (some ⟨b27, o29 + i, none⟩)) (.int .i64 aa) 17 (run_load1 rfl (by simpa [Nat.add_assoc] using ab.fr.cell (al 0 _ rfl) (by simp))) ?_
  refine WLc rfl rfl rfl rfl rfl (by kernel_rfl) (has_n B k.length cB k aa aJ (Rd.fr hrB ab.fr) (by first | rfl | assumption | omega) (by first | omega | (simp; done) | (simp; omega))) ?_
  rintro _ aS ⟨rfl, am⟩
  refine ⟨_, rfl, ?_⟩
  have af := ab.call am
  have an := own_fr hrow am (by simp)
  refine WLq 1 [(19, .bool (!(k.contains aa)))] (WLd rfl (QXn (au _ _ ?_)))
  refine WCa 19 (!(k.contains aa)) rfl (fun ac => ?_) (fun ac => ?_)
  ·
   have av : (k.contains aa) = false := by first | (simpa only [Bool.not_eq_true', Bool.not_eq_false'] using ac) | simpa using ac
   refine WCt rfl ?_
   refine WCg (WLq 3 [(22, .int .i64 (i : Int)), (21, .slice A xs.length c), (20, .slice A5 n5 c5)] ?_)
   refine WLi A xs.length c 23 .i64 (i : Int) b27 o29 i 1 (by kernel_rfl) ak (by omega) (by omega) (o29 + i) (by first | (simp; done) | omega) ?_
   refine WLo 3 (.pointer (some ⟨b27, o29 + i, none⟩)) (.int .i64 aa) 24 (run_load1 rfl (by simpa [Nat.add_assoc] using af.fr.cell (al 0 _ rfl) (by simp))) ?_
   refine WL.newM af (fun b => .slice (some ⟨b, 0, none⟩) 1 1) (.cells #[.int .i64 aa] 3) 25 (fun _ => by kernel_rfl) (fun aH aT aL aw ao => ?_)
   have ax := own_fr an aw (by simp)
   obtain ⟨aU, aV, ay, az, aM, aA, aB, aC⟩ := app_run Try.prog ao 0 (v := .slice A5 n5 c5) rfl 31 31 3 1 8 n5 1 1 (some ⟨aH, 0, none⟩) rfl ax [.int .i64 aa] rfl (srcOk.blk 1 (ao.get 0 rfl)) rfl (by simp only [maxLen]; omega) (by omega)
   have ap := own_snoc (enc := (Go.Tw.encI .i64)) (ys := (outK k (xs.take i))) aa az
   obtain ⟨aD, aE, rfl, aI⟩ := own_form ap
   refine WL.sem (Builtin.append_ #[31, 31] 31 #[.slice A5 n5 c5, .slice (some ⟨aH, 0, none⟩) 1 1]) 26 (.slice aD (n5 + 1) aE) (by kernel_rfl) ay ?_
   refine WLq 1 [(5, .slice aD (n5 + 1) aE)] ?_
   refine WLd rfl ?_
   refine QXb ?_
   refine QXn (aj _ _ ?_)
   refine WCg (WLq 2 [(12, .int .i64 (IntKind.i64.wrap ((i : Int) + 1))), (11, .int .i64 (i : Int))] ?_)
   refine WLt (show (.int .i64 (IntKind.i64.wrap ((i : Int) + 1)) : Value) = .int .i64 ((i : Int) + 1) from by rw [wrap_in_i64 ((i : Int) + 1) (by omega) (by omega)]) ?_
   refine WLq 1 [(6, .int .i64 ((i : Int) + 1))] ?_
   refine WLd rfl ?_
   refine QXn ?_
   have aF := aA.pick [] [0] rfl rfl
   refine fun a_ ha_ => ag _ _ _ ?_ ⟨i + 1, aD, n5 + 1, aE, rfl, rfl, aF, (by rw [outK_snoc ae, show inK k aa = false from av]; simpa using ap), by omega⟩ a_ (ha_.weaken (sub_of ⟨rfl, rfl, rfl, rfl, rfl, trivial⟩))
   omega
  ·
   have av : (k.contains aa) = true := by first | (simpa only [Bool.not_eq_true', Bool.not_eq_false'] using ac) | simpa using ac
   refine WCf rfl (WC.skip ?_)
   refine QXb ?_
   refine QXn (aj _ _ ?_)
   refine WCg (WLq 2 [(12, .int .i64 (IntKind.i64.wrap ((i : Int) + 1))), (11, .int .i64 (i : Int))] ?_)
   refine WLt (show (.int .i64 (IntKind.i64.wrap ((i : Int) + 1)) : Value) = .int .i64 ((i : Int) + 1) from by rw [wrap_in_i64 ((i : Int) + 1) (by omega) (by omega)]) ?_
   refine WLq 1 [(6, .int .i64 ((i : Int) + 1))] ?_
   refine WLd rfl ?_
   refine QXn ?_
   have aG := af.pick [] [0] rfl rfl
   refine fun a_ ha_ => ag _ _ _ ?_ ⟨i + 1, A5, n5, c5, rfl, rfl, aG, (by rw [outK_snoc ae, show inK k aa = true from av]; simpa using an), by omega⟩ a_ (ha_.weaken (sub_of ⟨rfl, rfl, rfl, rfl, rfl, trivial⟩))
   omega
 ·
  have aK : (xs.length : Int) ≤ (i : Int) := by have q_ := of_decide_eq_false ad; omega
  refine WCf rfl ?_
  refine WC.exit ?_
  refine QXe ?_
  refine QXe ?_
  refine QX.block_hit ?_
  refine QXn (hK6 _ _ ?_)
  refine WCs (fun aW aq => ?_)
  refine WCg (WLq 2 [(4, .slice A5 n5 c5), (27, .slice A5 n5 c5)] (WLd rfl (QXn (aq _ _ ?_))))
  refine WC.ret ?_
  refine (hret _ _ _ rfl ?_).1
  clear hN hret hret' aq ai ah hK8 hK6 hK4 hK2
  have ho_ := hrow
  rw [List.take_of_length_le (by omega)] at ho_ hcn_
  rw [hcn_]
  exact ⟨_, rfl, ab.fr, own_base ho_ (ab.geF 0 rfl)⟩

theorem RWithout_n (A : Option Addr) (n c : Nat) (xs : List Int) (B : Option Addr) (n2 cB : Nat) (k : List Int) (w : World) (hr : Rd w 1 (Go.Tw.encI .i64) A xs) (hn : xs.length = n) (hl : n ≤ 1099511627776) (hrB : Rd w 1 (Go.Tw.encI .i64) B k) (hn2 : k.length = n2) (hkl : n2 ≤ 1099511627776) : Calls Try.prog 24 #[.slice A n c, .slice B n2 cB] w fun e w' => ∃ v, e = .returned v ∧ Fr w w' [] ∧ w'.ownsRow w.heap.size 3 1 v (outK k xs).length ((outK k xs).flatMap (Go.Tw.encI .i64)) := by subst hn hn2; exact RWithout_ct A c xs B cB k w hr hl hrB hkl
theorem Good_n (per : Int) (A : Option Addr) (n c : Nat) (xs : List Int) (w : World) (hr : Rd w 1 (Go.Tw.encI .i64) A xs) (hn : xs.length = n) (hl : n ≤ 9223372036854775807) : Calls Try.prog 12 #[.int .i64 per, .slice A n c] w fun e w' => e = .returned (.int .i64 (goodR per xs)) ∧ Fr w w' [] := by subst hn; exact Good_ct per A c xs w hr hl
end Go.Proofs.Ytibkndhgeeoidaa
