/- Contracts of functions of the program, each proved by a walk through its code; conditions stand in the statements. -/
import Derived.Test.YtfligklljkcbfaaGreatDoorStW16
namespace Go.Proofs.YtfligklljkcbfaaGreatDoor
set_option linter.unusedSimpArgs false
set_option linter.unusedVariables false
set_option linter.unusedSectionVars false
open Go Go.RowKit Go.Tw
set_option linter.unusedVariables false
set_option maxRecDepth 20000
theorem home_none {a : Int} (h : ∀ h' v' : Nat, h' < 8 → v' < 16 → 167837696 + 256 * (h' : Int) + (v' : Int) ≠ a) : isHome a = false := by
  cases hc : isHome a
  · rfl
  · simp only [isHome, decide_eq_true_eq] at hc
    exact absurd (by omega) (h ((a - 167837696) / 256).toNat ((a - 167837696) % 256).toNat (by omega) (by omega))
theorem home_some {a : Int} {h v : Nat} (hh : h < 8) (hv : v < 16) (e : 167837696 + 256 * (h : Int) + (v : Int) = a) : isHome a = true := by
  simp only [isHome, decide_eq_true_eq]; omega
def dupK {α κ : Type} (f : α → κ) (xs : List α) (i j : Nat) : Prop := ∃ a b k, k < j ∧ xs[i]? = some a ∧ xs[k]? = some b ∧ f b = f a
theorem Dip2_ct (h v : Int) (w : World) (h0 : 0 ≤ h ∧ h < 8) (v0 : 0 ≤ v ∧ v < 16) : Calls Tryz.prog 96 #[.int .i64 h, .int .i64 v] w fun e w' => e = .returned (.int .u32 (167837696 + 256 * h + v)) ∧ Fr w w' [] := by
 refine enterD (n := 11) Tryz.func96 rfl rfl (Nat.le_of_ble_eq_true rfl) ?_
 intro Q0 hN hret hret'
 have hC := Cx.start w
 refine WCs (fun K1 hK2 => ?_)
 refine WCg (WLq 1 [(4, .int .u32 0)] (WLd rfl (QXn (hK2 _ _ ?_))))
 refine WCs (fun K3 hK4 => ?_)
 refine WCg (WLq 2 [(6, .int .i64 (IntKind.i64.wrap (256 * h))), (5, .int .i64 h)] ?_)
 refine WLt (show (.int .i64 (IntKind.i64.wrap (256 * h)) : Value) = .int .i64 (256 * h) from by rw [wrap_in_i64 (256 * h) (by omega) (by omega)]) ?_
 refine WLq 1 [(7, .int .i64 (IntKind.i64.wrap (167837696 + (256 * h))))] ?_
 refine WLt (show (.int .i64 (IntKind.i64.wrap (167837696 + (256 * h))) : Value) = .int .i64 (167837696 + (256 * h)) from by rw [wrap_in_i64 (167837696 + (256 * h)) (by omega) (by omega)]) ?_
 refine WLq 2 [(9, .int .i64 (IntKind.i64.wrap ((167837696 + (256 * h)) + v))), (8, .int .i64 v)] ?_
 refine WLt (show (.int .i64 (IntKind.i64.wrap ((167837696 + (256 * h)) + v)) : Value) = .int .i64 ((167837696 + (256 * h)) + v) from by rw [wrap_in_i64 ((167837696 + (256 * h)) + v) (by omega) (by omega)]) ?_
 refine WLq 1 [(10, .int .u32 (IntKind.u32.wrap ((167837696 + (256 * h)) + v)))] ?_
 refine WLt (show (.int .u32 (IntKind.u32.wrap ((167837696 + (256 * h)) + v)) : Value) = .int .u32 ((167837696 + (256 * h)) + v) from by rw [wrap_in_u32 ((167837696 + (256 * h)) + v) (by omega) (by omega)]) ?_
 refine WLq 1 [(4, .int .u32 ((167837696 + (256 * h)) + v))] (WLd rfl (QXn (hK4 _ _ ?_)))
 refine WC.ret ?_
 refine (hret _ _ _ rfl ?_).1
 exact ⟨rfl, hC.fr⟩

theorem Home2_ct (a : Int) (w : World) (h0 : 0 ≤ a) (h1 : a ≤ 4294967295) : Calls Tryz.prog 71 #[.int .u32 a] w fun e w' => ∃ h v : Int, e = .returned (.tuple #[.int .i64 h, .int .i64 v, .bool (isHome a)]) ∧ Fr w w' [] := by
 refine enterD (n := 22) Tryz.func71 rfl rfl (Nat.le_of_ble_eq_true rfl) ?_
 intro Q0 hN hret hret'
 have hC := Cx.start w
 refine WCs (fun K1 hK2 => ?_)
 refine WCg (WLq 3 [(4, .bool false), (3, .int .i64 0), (2, .int .i64 0)] (WLd rfl (QXn (hK2 _ _ ?_))))
 refine WCs (fun K3 hK4 => ?_)
 refine WCs (fun K5 hK6 => ?_)
 refine WCg (WLq 1 [(5, .int .i64 0)] (WLd rfl (QXn (hK6 _ _ ?_))))
 refine WC.block ?_
 refine WC.loop (fun m_ E_ w_ => ∃ (h : Nat), m_ = 8 - h ∧ E_ = [(0, .int .u32 a), (5, .int .i64 (h : Int))] ∧ Cx w [] w_ [] [] ∧ (h ≤ 8 ∧ ∀ h' v' : Nat, h' < h → v' < 16 → 167837696 + 256 * (h' : Int) + (v' : Int) ≠ a)) ⟨_, _, ⟨0, rfl, rfl, hC, Nat.zero_le _, fun h' v' q => absurd q (Nat.not_lt_zero _)⟩, sub_of ⟨rfl, rfl, trivial⟩⟩ (fun m10 E_ aB K7 hK8 hI9 => ?_)
 obtain ⟨h, rfl, rfl, ad, hh, hno⟩ := hI9
 refine WCs (fun aC ae => ?_)
 refine WCs (fun aD af => ?_)
 refine WCg (WLq 2 [(8, .bool (decide ((h : Int) < 8))), (7, .int .i64 (h : Int))] (WLd rfl (QXn (af _ _ ?_))))
 refine WCa 8 (decide ((h : Int) < 8)) rfl (fun aa => ?_) (fun aa => ?_)
 ·
  have ax : (h : Int) < 8 := by have q_ := of_decide_eq_true aa; omega
  refine WCt rfl ?_
  refine WC.skip ?_
  refine QXn (ae _ _ ?_)
  refine WCs (fun aE ag => ?_)
  refine WC.block ?_
  refine WCs (fun aF ah => ?_)
  refine WCg (WLq 1 [(6, .int .i64 0)] (WLd rfl (QXn (ah _ _ ?_))))
  refine WC.block ?_
  refine WC.loop (fun m_ E_ w_ => ∃ (v : Nat), m_ = 16 - v ∧ E_ = [(0, .int .u32 a), (5, .int .i64 (h : Int)), (6, .int .i64 (v : Int)), (7, .int .i64 (h : Int)), (8, .bool true)] ∧ Cx w [] w_ [] [] ∧ (v ≤ 16 ∧ ∀ v' : Nat, v' < v → 167837696 + 256 * (h : Int) + (v' : Int) ≠ a)) ⟨_, _, ⟨0, rfl, rfl, ad, Nat.zero_le _, fun v' q => absurd q (Nat.not_lt_zero _)⟩, sub_of ⟨rfl, rfl, rfl, rfl, rfl, trivial⟩⟩ (fun m25 E_ ay aG ap aq => ?_)
  obtain ⟨v, rfl, rfl, ai, hv, hno2⟩ := aq
  refine WCs (fun aH aj => ?_)
  refine WCs (fun aI ak => ?_)
  refine WCg (WLq 2 [(12, .bool (decide ((v : Int) < 16))), (11, .int .i64 (v : Int))] (WLd rfl (QXn (ak _ _ ?_))))
  refine WCa 12 (decide ((v : Int) < 16)) rfl (fun ab => ?_) (fun ab => ?_)
  ·
   have az : (v : Int) < 16 := by have q_ := of_decide_eq_true ab; omega
   refine WCt rfl ?_
   refine WC.skip ?_
   refine QXn (aj _ _ ?_)
   refine WCs (fun aJ al => ?_)
   refine WC.block ?_
   refine WCs (fun aK am => ?_)
   refine WCg (WLq 2 [(16, .int .i64 (v : Int)), (15, .int .i64 (h : Int))] ?_)
   refine WLc rfl rfl rfl rfl rfl (by kernel_rfl) (Dip2_ct (h : Int) (v : Int) ay (by omega) (by omega)) ?_
   rintro _ aL ⟨rfl, ar⟩
   refine ⟨_, rfl, ?_⟩
   have an := ai.call ar
   refine WLq 2 [(19, .bool ((167837696 + 256 * (h : Int) + (v : Int)) == a)), (18, .int .u32 a)] (WLd rfl (QXn (am _ _ ?_)))
   refine WCa 19 ((167837696 + 256 * (h : Int) + (v : Int)) == a) rfl (fun ac => ?_) (fun ac => ?_)
   ·
    have aA : (167837696 + 256 * (h : Int) + (v : Int)) = a := by simpa using ac
    refine WCt rfl ?_
    refine WCs (fun aM ao => ?_)
    refine WCg (WLq 5 [(4, .bool true), (3, .int .i64 (v : Int)), (2, .int .i64 (h : Int)), (21, .int .i64 (v : Int)), (20, .int .i64 (h : Int))] (WLd rfl (QXn (ao _ _ ?_))))
    refine WC.ret ?_
    refine QXk ?_
    refine QXr ?_
    refine QXr ?_
    refine QXk ?_
    refine QXk ?_
    refine QXr ?_
    refine QXr ?_
    refine QXk ?_
    refine QXr ?_
    refine (hret _ _ _ rfl ?_).1
    clear hN hret hret' ao am al ak aj ah ag af ae hK6 hK4 hK2
    exact ⟨_, _, by rw [home_some (h := h) (v := v) (by omega) (by omega) (by assumption)]; rfl, an.fr⟩
   ·
    have aA : ¬ ((167837696 + 256 * (h : Int) + (v : Int)) = a) := by simpa using ac
    refine WCf rfl (WC.skip ?_)
    refine QXb ?_
    refine QXn (al _ _ ?_)
    refine WCg (WLq 2 [(14, .int .i64 (IntKind.i64.wrap ((v : Int) + 1))), (13, .int .i64 (v : Int))] ?_)
    refine WLt (show (.int .i64 (IntKind.i64.wrap ((v : Int) + 1)) : Value) = .int .i64 ((v : Int) + 1) from by rw [wrap_in_i64 ((v : Int) + 1) (by omega) (by omega)]) ?_
    refine WLq 1 [(6, .int .i64 ((v : Int) + 1))] ?_
    refine WLd rfl ?_
    refine QXn ?_
    have au := an.pick [] [] rfl rfl
    refine fun a_ ha_ => ap _ _ _ ?_ ⟨v + 1, rfl, rfl, au, by omega, fun v' q1 => by
     by_cases e_ : v' = v
     ·
      subst e_; assumption
     ·
      exact hno2 v' (by omega)⟩ a_ (ha_.weaken (sub_of ⟨rfl, rfl, rfl, rfl, rfl, trivial⟩))
    omega
  ·
   have az : (16 : Int) ≤ (v : Int) := by have q_ := of_decide_eq_false ab; omega
   refine WCf rfl ?_
   refine WC.exit ?_
   refine QXe ?_
   refine QXe ?_
   refine QX.block_hit ?_
   refine QXb ?_
   refine QXn (ag _ _ ?_)
   refine WCg (WLq 2 [(10, .int .i64 (IntKind.i64.wrap ((h : Int) + 1))), (9, .int .i64 (h : Int))] ?_)
   refine WLt (show (.int .i64 (IntKind.i64.wrap ((h : Int) + 1)) : Value) = .int .i64 ((h : Int) + 1) from by rw [wrap_in_i64 ((h : Int) + 1) (by omega) (by omega)]) ?_
   refine WLq 1 [(5, .int .i64 ((h : Int) + 1))] ?_
   refine WLd rfl ?_
   refine QXn ?_
   have av := ai.pick [] [] rfl rfl
   refine fun a_ ha_ => hK8 _ _ _ ?_ ⟨h + 1, rfl, rfl, av, by omega, fun h' v' q1 q2 => by
    by_cases e_ : h' = h
    ·
     subst e_; exact hno2 v' (by omega)
    ·
     exact hno h' v' (by omega) q2⟩ a_ (ha_.weaken (sub_of ⟨rfl, rfl, trivial⟩))
   omega
 ·
  have ax : (8 : Int) ≤ (h : Int) := by have q_ := of_decide_eq_false aa; omega
  refine WCf rfl ?_
  refine WC.exit ?_
  refine QXe ?_
  refine QXe ?_
  refine QX.block_hit ?_
  refine QXn (hK4 _ _ ?_)
  refine WCs (fun aN aw => ?_)
  refine WCg (WLq 3 [(4, .bool false), (3, .int .i64 0), (2, .int .i64 0)] (WLd rfl (QXn (aw _ _ ?_))))
  refine WC.ret ?_
  refine (hret _ _ _ rfl ?_).1
  exact ⟨_, _, by rw [home_none (fun h' v' q1 q2 => hno h' v' (by omega) q2)]; rfl, ad.fr⟩

theorem RMan_ct (n : Int) (w : World) : Calls Tryz.prog 43 #[.int .i64 n] w fun e w' => e = .returned (.bool (mgrB n)) ∧ Fr w w' [] := by
 refine enterD (n := 9) Tryz.func43 rfl rfl (Nat.le_of_ble_eq_true rfl) ?_
 intro Q0 hN hret hret'
 have hC := Cx.start w
 refine WCs (fun K1 hK2 => ?_)
 refine WCg (WLq 1 [(2, .bool false)] (WLd rfl (QXn (hK2 _ _ ?_))))
 refine WCs (fun K3 hK4 => ?_)
 refine WCg (WLq 3 [(5, .bool (decide (n ≥ 16))), (4, .bool (decide (n ≥ 16))), (3, .int .i64 n)] ?_)
 refine WLa 5 (decide (n ≥ 16)) rfl (fun t5b => ?_) (fun t5b => ?_)
 ·
  have t5 : (16 : Int) ≤ n := by have q_ := of_decide_eq_true t5b; omega
  refine WLq 4 [(2, .bool (decide (n ≤ 23))), (8, .bool (decide (n ≤ 23))), (7, .bool (decide (n ≤ 23))), (6, .int .i64 n)] (WLd rfl (QXn (hK4 _ _ ?_)))
  refine WC.ret ?_
  refine (hret _ _ _ rfl ?_).1
  clear hN hret hret' hK4 hK2
  have hg_ : ((decide (n ≤ 23)) : Bool) = mgrB n := by unfold mgrB; first | rfl | (rw [Bool.eq_iff_iff]; simp; omega) | (simp; omega)
  exact ⟨congrArg (fun b_ => Ending.returned (Value.bool b_)) hg_, hC.fr⟩
 ·
  have t5 : n < 16 := by have q_ := of_decide_eq_false t5b; omega
  refine WLq 4 [(2, .bool false), (8, .bool false), (7, undef), (6, undef)] (WLd rfl (QXn (hK4 _ _ ?_)))
  refine WC.ret ?_
  refine (hret _ _ _ rfl ?_).1
  clear hN hret hret' hK4 hK2
  have hg_ : (false : Bool) = mgrB n := by unfold mgrB; first | rfl | (rw [Bool.eq_iff_iff]; simp; omega) | (simp; omega)
  exact ⟨congrArg (fun b_ => Ending.returned (Value.bool b_)) hg_, hC.fr⟩

theorem RTime_ct (n : Int) (w : World) : Calls Tryz.prog 44 #[.int .i64 n] w fun e w' => e = .returned (.bool (timB n)) ∧ Fr w w' [] := by
 refine enterD (n := 9) Tryz.func44 rfl rfl (Nat.le_of_ble_eq_true rfl) ?_
 intro Q0 hN hret hret'
 have hC := Cx.start w
 refine WCs (fun K1 hK2 => ?_)
 refine WCg (WLq 1 [(2, .bool false)] (WLd rfl (QXn (hK2 _ _ ?_))))
 refine WCs (fun K3 hK4 => ?_)
 refine WCg (WLq 3 [(5, .bool (decide (n ≥ 0))), (4, .bool (decide (n ≥ 0))), (3, .int .i64 n)] ?_)
 refine WLa 5 (decide (n ≥ 0)) rfl (fun t5b => ?_) (fun t5b => ?_)
 ·
  have t5 : (0 : Int) ≤ n := by have q_ := of_decide_eq_true t5b; omega
  refine WLq 4 [(2, .bool (decide (n ≤ 1099511627776))), (8, .bool (decide (n ≤ 1099511627776))), (7, .bool (decide (n ≤ 1099511627776))), (6, .int .i64 n)] (WLd rfl (QXn (hK4 _ _ ?_)))
  refine WC.ret ?_
  refine (hret _ _ _ rfl ?_).1
  clear hN hret hret' hK4 hK2
  have hg_ : ((decide (n ≤ 1099511627776)) : Bool) = timB n := by unfold timB; first | rfl | (rw [Bool.eq_iff_iff]; simp; omega) | (simp; omega)
  exact ⟨congrArg (fun b_ => Ending.returned (Value.bool b_)) hg_, hC.fr⟩
 ·
  have t5 : n < 0 := by have q_ := of_decide_eq_false t5b; omega
  refine WLq 4 [(2, .bool false), (8, .bool false), (7, undef), (6, undef)] (WLd rfl (QXn (hK4 _ _ ?_)))
  refine WC.ret ?_
  refine (hret _ _ _ rfl ?_).1
  clear hN hret hret' hK4 hK2
  have hg_ : (false : Bool) = timB n := by unfold timB; first | rfl | (rw [Bool.eq_iff_iff]; simp; omega) | (simp; omega)
  exact ⟨congrArg (fun b_ => Ending.returned (Value.bool b_)) hg_, hC.fr⟩

theorem RMach_ct (a : Int) (w : World) (h0 : 0 ≤ a) (h1 : a ≤ 4294967295) : Calls Tryz.prog 48 #[.int .u32 a] w fun e w' => e = .returned (.bool (isHome a)) ∧ Fr w w' [] := by
 refine enterD (n := 13) Tryz.func48 rfl rfl (Nat.le_of_ble_eq_true rfl) ?_
 intro Q0 hN hret hret'
 have hC := Cx.start w
 refine WCs (fun K1 hK2 => ?_)
 refine WCg (WLq 1 [(2, .bool false)] (WLd rfl (QXn (hK2 _ _ ?_))))
 refine WCs (fun K3 hK4 => ?_)
 refine WCg (WLq 1 [(7, .int .u32 a)] ?_)
 refine WLc rfl rfl rfl rfl rfl (by kernel_rfl) (Home2_ct a w (by omega) (by omega)) ?_
 rintro _ w8 ⟨h5, v6, rfl, hF7⟩
 refine ⟨_, rfl, ?_⟩
 have hC9 := hC.call hF7
 refine WLq 7 [(5, .bool (isHome a)), (4, .int .i64 v6), (3, .int .i64 h5), (11, .bool (isHome a)), (10, .int .i64 v6), (9, .int .i64 h5), (6, .tuple #[.int .i64 h5, .int .i64 v6, .bool (isHome a)])] (WLd rfl (QXn (hK4 _ _ ?_)))
 refine WCs (fun ab aa => ?_)
 refine WCg (WLq 2 [(2, .bool (isHome a)), (12, .bool (isHome a))] (WLd rfl (QXn (aa _ _ ?_))))
 refine WC.ret ?_
 refine (hret _ _ _ rfl ?_).1
 exact ⟨rfl, hC9.fr⟩

theorem RNone_ct (a b d : Int) (A : Option Addr) (n c : Nat) (w : World) : Calls Tryz.prog 47 #[.agg #[.int .u32 a, .int .i64 b, .int .i64 d, .slice A n c]] w fun e w' => e = .returned (.bool (decide (a = 0 ∧ b = 0 ∧ d = 0 ∧ n = 0))) ∧ Fr w w' [] := by
 refine enterD (n := 22) Tryz.func47 rfl rfl (Nat.le_of_ble_eq_true rfl) ?_
 intro Q0 hN hret hret'
 have hC := Cx.start w
 refine WCs (fun K1 hK2 => ?_)
 refine WCg ?_
 refine WL.newM hC (fun b => .pointer (some ⟨b, 0, none⟩)) (.cells #[.int .u32 a, .int .i64 b, .int .i64 d, .slice A n c] 43) 1 (fun _ => by kernel_rfl) (fun g3 w4 hb7 hF5 hC6 => ?_)
 refine WLq 1 [(2, .bool false)] (WLd rfl (QXn (hK2 _ _ ?_)))
 refine WCs (fun K8 hK9 => ?_)
 refine WCg (WLq 1 [(3, .pointer (some ⟨g3, 0, none⟩))] ?_)
 refine WLo 40 (.pointer (some ⟨g3, 0, none⟩)) (.int .u32 a) 4 (run_ld (hC6.get 0 rfl) rfl) ?_
 refine WLq 2 [(6, .bool (a == 0)), (5, .bool (a == 0))] ?_
 refine WLa 6 (a == 0) rfl (fun aa => ?_) (fun aa => ?_)
 ·
  have ad : a = 0 := by simpa using aa
  refine WLq 1 [(7, .pointer (some ⟨g3, 1, none⟩))] ?_
  refine WLo 3 (.pointer (some ⟨g3, 1, none⟩)) (.int .i64 b) 8 (run_ld (hC6.get 0 rfl) rfl) ?_
  refine WLq 3 [(11, .bool (b == 0)), (10, .bool (b == 0)), (9, .bool (b == 0))] ?_
  refine WLa 11 (b == 0) rfl (fun ab => ?_) (fun ab => ?_)
  ·
   have ae : b = 0 := by simpa using ab
   refine WLq 1 [(12, .pointer (some ⟨g3, 2, none⟩))] ?_
   refine WLo 3 (.pointer (some ⟨g3, 2, none⟩)) (.int .i64 d) 13 (run_ld (hC6.get 0 rfl) rfl) ?_
   refine WLq 3 [(16, .bool (d == 0)), (15, .bool (d == 0)), (14, .bool (d == 0))] ?_
   refine WLa 16 (d == 0) rfl (fun ac => ?_) (fun ac => ?_)
   ·
    have af : d = 0 := by simpa using ac
    refine WLq 1 [(17, .pointer (some ⟨g3, 3, none⟩))] ?_
    refine WLo 41 (.pointer (some ⟨g3, 3, none⟩)) (.slice A n c) 18 (run_ld (hC6.get 0 rfl) rfl) ?_
    refine WLq 4 [(2, .bool ((n : Int) == 0)), (21, .bool ((n : Int) == 0)), (20, .bool ((n : Int) == 0)), (19, .int .i64 (n : Int))] (WLd rfl (QXn (hK9 _ _ ?_)))
    refine WC.ret ?_
    refine (hret _ _ _ rfl ?_).1
    clear hN hret hret' hK9 hK2
    have hg_ : (((n : Int) == 0) : Bool) = decide (a = 0 ∧ b = 0 ∧ d = 0 ∧ n = 0) := by first | rfl | (rw [Bool.eq_iff_iff]; simp_all; done) | (rw [Bool.eq_iff_iff]; simp_all; omega) | (simp_all; omega)
    exact ⟨congrArg (fun b_ => Ending.returned (Value.bool b_)) hg_, hC6.fr⟩
   ·
    have af : ¬ (d = 0) := by simpa using ac
    refine WLq 6 [(2, .bool false), (21, .bool false), (20, undef), (19, undef), (18, undef), (17, undef)] (WLd rfl (QXn (hK9 _ _ ?_)))
    refine WC.ret ?_
    refine (hret _ _ _ rfl ?_).1
    clear hN hret hret' hK9 hK2
    have hg_ : (false : Bool) = decide (a = 0 ∧ b = 0 ∧ d = 0 ∧ n = 0) := by first | rfl | (rw [Bool.eq_iff_iff]; simp_all; done) | (rw [Bool.eq_iff_iff]; simp_all; omega) | (simp_all; omega)
    exact ⟨congrArg (fun b_ => Ending.returned (Value.bool b_)) hg_, hC6.fr⟩
  ·
   have ae : ¬ (b = 0) := by simpa using ab
   refine WLq 11 [(2, .bool false), (21, .bool false), (20, undef), (19, undef), (18, undef), (17, undef), (16, .bool false), (15, .bool false), (14, undef), (13, undef), (12, undef)] (WLd rfl (QXn (hK9 _ _ ?_)))
   refine WC.ret ?_
   refine (hret _ _ _ rfl ?_).1
   clear hN hret hret' hK9 hK2
   have hg_ : (false : Bool) = decide (a = 0 ∧ b = 0 ∧ d = 0 ∧ n = 0) := by first | rfl | (rw [Bool.eq_iff_iff]; simp_all; done) | (rw [Bool.eq_iff_iff]; simp_all; omega) | (simp_all; omega)
   exact ⟨congrArg (fun b_ => Ending.returned (Value.bool b_)) hg_, hC6.fr⟩
 ·
  have ad : ¬ (a = 0) := by simpa using aa
  refine WLq 16 [(2, .bool false), (21, .bool false), (20, undef), (19, undef), (18, undef), (17, undef), (16, .bool false), (15, .bool false), (14, undef), (13, undef), (12, undef), (11, .bool false), (10, .bool false), (9, undef), (8, undef), (7, undef)] (WLd rfl (QXn (hK9 _ _ ?_)))
  refine WC.ret ?_
  refine (hret _ _ _ rfl ?_).1
  clear hN hret hret' hK9 hK2
  have hg_ : (false : Bool) = decide (a = 0 ∧ b = 0 ∧ d = 0 ∧ n = 0) := by first | rfl | (rw [Bool.eq_iff_iff]; simp_all; done) | (rw [Bool.eq_iff_iff]; simp_all; omega) | (simp_all; omega)
  exact ⟨congrArg (fun b_ => Ending.returned (Value.bool b_)) hg_, hC6.fr⟩

theorem SGood_ct (dip now : Int) (w : World) (hd : isU32 dip) : Calls Tryz.prog 15 #[.agg #[.int .i64 16, .int .i64 1, .int .i64 0, .int .i64 now, .int .i64 3, .int .u32 0, .int .i64 0, .int .i64 0, .slice none 0 0, .int .u32 dip, .int .u32 0, .bool false]] w fun e w' => e = .returned (.bool (goodC ⟨16, 1, 0, now, 3, 0, 0, 0, [], dip, 0, false⟩)) ∧ Fr w w' [] := by
 refine enterD (n := 136) Tryz.func15 rfl rfl (Nat.le_of_ble_eq_true rfl) ?_
 intro Q0 hN hret hret'
 have hC := Cx.start w
 refine WCs (fun K1 hK2 => ?_)
 refine WCg ?_
 refine WL.newM hC (fun b => .pointer (some ⟨b, 0, none⟩)) (.cells #[.int .i64 16, .int .i64 1, .int .i64 0, .int .i64 now, .int .i64 3, .int .u32 0, .int .i64 0, .int .i64 0, .slice none 0 0, .int .u32 dip, .int .u32 0, .bool false] 45) 1 (fun _ => by kernel_rfl) (fun g3 w4 hb7 hF5 hC6 => ?_)
 refine WLq 1 [(2, .bool false)] (WLd rfl (QXn (hK2 _ _ ?_)))
 refine WCs (fun K8 hK9 => ?_)
 refine WCs (fun aU aa => ?_)
 refine WCg (WLq 1 [(4, .pointer (some ⟨g3, 0, none⟩))] ?_)
 refine WLo 3 (.pointer (some ⟨g3, 0, none⟩)) (.int .i64 16) 5 (run_ld (hC6.get 0 rfl) rfl) ?_
 refine WLc rfl rfl rfl rfl rfl (by kernel_rfl) (RMan_ct 16 w4) ?_
 rintro _ aI ⟨rfl, az⟩
 refine ⟨_, rfl, ?_⟩
 have ag := hC6.call az
 refine WLq 2 [(8, .bool (!(mgrB 16))), (7, .bool (!(mgrB 16)))] ?_
 refine WLa 8 (!(mgrB 16)) rfl (fun ab => ?_) (fun ab => ?_)
 ·
  have aJ : (mgrB 16) = false := by first | (simpa only [Bool.not_eq_true', Bool.not_eq_false'] using ab) | simpa using ab
  refine WLq 17 [(25, .bool true), (24, undef), (23, undef), (22, undef), (21, undef), (20, .bool true), (19, .bool true), (18, undef), (17, undef), (16, undef), (15, undef), (14, .bool true), (13, .bool true), (12, undef), (11, undef), (10, undef), (9, undef)] (WLd rfl (QXn (aa _ _ ?_)))
  refine WCt rfl ?_
  refine WCs (fun aV ar => ?_)
  refine WCg (WLq 1 [(2, .bool false)] (WLd rfl (QXn (ar _ _ ?_))))
  refine WC.ret ?_
  refine QXr ?_
  refine (hret _ _ _ rfl ?_).1
  clear hN hret hret' ar aa hK9 hK2
  have hg_ : (false : Bool) = goodC ⟨16, 1, 0, now, 3, 0, 0, 0, [], dip, 0, false⟩ := by
   rw [Bool.eq_iff_iff]
   first | (simp_all [goodC, goodK, noneS, mgrB]; done) | (simp_all [goodC, goodK, noneS, mgrB, timB]; done) | (simp_all [goodC, goodK, noneS, mgrB, timB] <;> omega)
  exact ⟨congrArg (fun b_ => Ending.returned (Value.bool b_)) hg_, ag.fr⟩
 ·
  have aJ : (mgrB 16) = true := by first | (simpa only [Bool.not_eq_true', Bool.not_eq_false'] using ab) | simpa using ab
  refine WLq 1 [(9, .pointer (some ⟨g3, 1, none⟩))] ?_
  refine WLo 3 (.pointer (some ⟨g3, 1, none⟩)) (.int .i64 1) 10 (run_ld (ag.get 0 rfl) rfl) ?_
  refine WLc rfl rfl rfl rfl rfl (by kernel_rfl) (RTime_ct 1 aI) ?_
  rintro _ aK ⟨rfl, aA⟩
  refine ⟨_, rfl, ?_⟩
  have ah := ag.call aA
  refine WLq 3 [(14, .bool (!(timB 1))), (13, .bool (!(timB 1))), (12, .bool (!(timB 1)))] ?_
  refine WLa 14 (!(timB 1)) rfl (fun ac => ?_) (fun ac => ?_)
  ·
   have aL : (timB 1) = false := by first | (simpa only [Bool.not_eq_true', Bool.not_eq_false'] using ac) | simpa using ac
   refine WLq 11 [(25, .bool true), (24, undef), (23, undef), (22, undef), (21, undef), (20, .bool true), (19, .bool true), (18, undef), (17, undef), (16, undef), (15, undef)] (WLd rfl (QXn (aa _ _ ?_)))
   refine WCt rfl ?_
   refine WCs (fun aW au => ?_)
   refine WCg (WLq 1 [(2, .bool false)] (WLd rfl (QXn (au _ _ ?_))))
   refine WC.ret ?_
   refine QXr ?_
   refine (hret _ _ _ rfl ?_).1
   clear hN hret hret' au aa hK9 hK2
   have hg_ : (false : Bool) = goodC ⟨16, 1, 0, now, 3, 0, 0, 0, [], dip, 0, false⟩ := by
    rw [Bool.eq_iff_iff]
    first | (simp_all [goodC, goodK, noneS, mgrB]; done) | (simp_all [goodC, goodK, noneS, mgrB, timB]; done) | (simp_all [goodC, goodK, noneS, mgrB, timB] <;> omega)
   exact ⟨congrArg (fun b_ => Ending.returned (Value.bool b_)) hg_, ah.fr⟩
  ·
   have aL : (timB 1) = true := by first | (simpa only [Bool.not_eq_true', Bool.not_eq_false'] using ac) | simpa using ac
   refine WLq 1 [(15, .pointer (some ⟨g3, 2, none⟩))] ?_
   refine WLo 3 (.pointer (some ⟨g3, 2, none⟩)) (.int .i64 0) 16 (run_ld (ah.get 0 rfl) rfl) ?_
   refine WLc rfl rfl rfl rfl rfl (by kernel_rfl) (RTime_ct 0 aK) ?_
   rintro _ aM ⟨rfl, aB⟩
   refine ⟨_, rfl, ?_⟩
   have ai := ah.call aB
   refine WLq 3 [(20, .bool (!(timB 0))), (19, .bool (!(timB 0))), (18, .bool (!(timB 0)))] ?_
   refine WLa 20 (!(timB 0)) rfl (fun ad => ?_) (fun ad => ?_)
   ·
    have aN : (timB 0) = false := by first | (simpa only [Bool.not_eq_true', Bool.not_eq_false'] using ad) | simpa using ad
    refine WLq 5 [(25, .bool true), (24, undef), (23, undef), (22, undef), (21, undef)] (WLd rfl (QXn (aa _ _ ?_)))
    refine WCt rfl ?_
    refine WCs (fun aX av => ?_)
    refine WCg (WLq 1 [(2, .bool false)] (WLd rfl (QXn (av _ _ ?_))))
    refine WC.ret ?_
    refine QXr ?_
    refine (hret _ _ _ rfl ?_).1
    clear hN hret hret' av aa hK9 hK2
    have hg_ : (false : Bool) = goodC ⟨16, 1, 0, now, 3, 0, 0, 0, [], dip, 0, false⟩ := by
     rw [Bool.eq_iff_iff]
     first | (simp_all [goodC, goodK, noneS, mgrB]; done) | (simp_all [goodC, goodK, noneS, mgrB, timB]; done) | (simp_all [goodC, goodK, noneS, mgrB, timB] <;> omega)
    exact ⟨congrArg (fun b_ => Ending.returned (Value.bool b_)) hg_, ai.fr⟩
   ·
    have aN : (timB 0) = true := by first | (simpa only [Bool.not_eq_true', Bool.not_eq_false'] using ad) | simpa using ad
    refine WLq 1 [(21, .pointer (some ⟨g3, 3, none⟩))] ?_
    refine WLo 3 (.pointer (some ⟨g3, 3, none⟩)) (.int .i64 now) 22 (run_ld (ai.get 0 rfl) rfl) ?_
    refine WLc rfl rfl rfl rfl rfl (by kernel_rfl) (RTime_ct now aM) ?_
    rintro _ aY ⟨rfl, aC⟩
    refine ⟨_, rfl, ?_⟩
    have aj := ai.call aC
    refine WLq 2 [(25, .bool (!(timB now))), (24, .bool (!(timB now)))] (WLd rfl (QXn (aa _ _ ?_)))
    refine WCa 25 (!(timB now)) rfl (fun ae => ?_) (fun ae => ?_)
    ·
     have aO : (timB now) = false := by first | (simpa only [Bool.not_eq_true', Bool.not_eq_false'] using ae) | simpa using ae
     refine WCt rfl ?_
     refine WCs (fun aZ aw => ?_)
     refine WCg (WLq 1 [(2, .bool false)] (WLd rfl (QXn (aw _ _ ?_))))
     refine WC.ret ?_
     refine QXr ?_
     refine (hret _ _ _ rfl ?_).1
     clear hN hret hret' aw aa hK9 hK2
     have hg_ : (false : Bool) = goodC ⟨16, 1, 0, now, 3, 0, 0, 0, [], dip, 0, false⟩ := by
      rw [Bool.eq_iff_iff]
      first | (simp_all [goodC, goodK, noneS, mgrB]; done) | (simp_all [goodC, goodK, noneS, mgrB, timB]; done) | (simp_all [goodC, goodK, noneS, mgrB, timB] <;> omega)
     exact ⟨congrArg (fun b_ => Ending.returned (Value.bool b_)) hg_, aj.fr⟩
    ·
     have aO : (timB now) = true := by first | (simpa only [Bool.not_eq_true', Bool.not_eq_false'] using ae) | simpa using ae
     refine WCf rfl (WC.skip (QXn (hK9 _ _ ?_)))
     refine WCs (fun a0 ak => ?_)
     refine WCg (WLq 1 [(26, .pointer (some ⟨g3, 5, none⟩))] ?_)
     refine WLo 43 (.pointer (some ⟨g3, 5, none⟩)) (.agg #[.int .u32 0, .int .i64 0, .int .i64 0, .slice none 0 0]) 27 (run_ld (aj.get 0 rfl) rfl) ?_
     refine WL.newM aj (fun b => .pointer (some ⟨b, 0, none⟩)) (.cells #[.int .u32 0, .int .i64 0, .int .i64 0, .slice none 0 0] 43) 3 (fun _ => by kernel_rfl) (fun aH a1 aP aQ aD => ?_)
     refine WLs (c' := #[.int .u32 0, .int .i64 0, .int .i64 0, .slice none 0 0]) aD 1 43 aH 0 (.agg #[.int .u32 0, .int .i64 0, .int .i64 0, .slice none 0 0]) (by kernel_rfl) rfl (by kernel_rfl) (fun aR aS al => ?_)
     refine WLd rfl (QXn (ak _ _ ?_))
     refine WCs (fun a2 ax => ?_)
     refine WCs (fun a3 am => ?_)
     refine WCg (WLq 1 [(28, .pointer (some ⟨g3, 4, none⟩))] ?_)
     refine WLo 3 (.pointer (some ⟨g3, 4, none⟩)) (.int .i64 3) 29 (run_ld (al.get 0 rfl) rfl) ?_
     refine WLd rfl (QXn (am _ _ ?_))
     refine WC.block ?_
     refine WCs (fun a4 an => ?_)
     refine WCg (WLq 2 [(30, .bool false), (31, .bool false)] (WLd rfl (QXn (an _ _ ?_))))
     refine WCf rfl ?_
     refine WCs (fun a5 ao => ?_)
     refine WCg (WLq 2 [(75, .bool false), (76, .bool false)] (WLd rfl (QXn (ao _ _ ?_))))
     refine WCf rfl ?_
     refine WCs (fun a6 ap => ?_)
     refine WCg (WLq 2 [(103, .bool true), (104, .bool true)] (WLd rfl (QXn (ap _ _ ?_))))
     refine WCt rfl ?_
     refine WCs (fun a7 af => ?_)
     refine WCg ?_
     refine WLo 43 (.pointer (some ⟨aH, 0, none⟩)) (.agg #[.int .u32 0, .int .i64 0, .int .i64 0, .slice none 0 0]) 105 (run_ld (al.get 1 rfl) rfl) ?_
     refine WLc rfl rfl rfl rfl rfl (by kernel_rfl) (RNone_ct 0 0 0 none 0 0 aR) ?_
     rintro _ aT ⟨rfl, aE⟩
     refine ⟨_, rfl, ?_⟩
     have ay := al.call aE
     refine WLq 1 [(107, .bool (decide (0 = 0 ∧ 0 = 0 ∧ 0 = 0 ∧ 0 = 0)))] ?_
     refine WL.know 107 (.bool (decide (0 = 0 ∧ 0 = 0 ∧ 0 = 0 ∧ 0 = 0))) (.bool true) rfl (congrArg Value.bool (by decide)) ?_
     refine WLq 1 [(108, .pointer (some ⟨g3, 9, none⟩))] ?_
     refine WLo 40 (.pointer (some ⟨g3, 9, none⟩)) (.int .u32 dip) 109 (run_ld (ay.get 0 rfl) rfl) ?_
     refine WLc rfl rfl rfl rfl rfl (by kernel_rfl) (RMach_ct dip aT hd.1 hd.2) ?_
     rintro _ a8 ⟨rfl, aF⟩
     refine ⟨_, rfl, ?_⟩
     have aq := ay.call aF
     refine WLq 2 [(112, .bool (isHome dip)), (111, .bool (isHome dip))] ?_
     refine WLa 112 (isHome dip) rfl (fun aG => ?_) (fun aG => ?_)
     ·
      refine WLq 1 [(113, .pointer (some ⟨g3, 10, none⟩))] ?_
      refine WLo 40 (.pointer (some ⟨g3, 10, none⟩)) (.int .u32 0) 114 (run_ld (aq.get 0 rfl) rfl) ?_
      refine WLq 3 [(2, .bool true), (116, .bool true), (115, .bool true)] (WLd rfl (QXn (af _ _ ?_)))
      refine WC.ret ?_
      refine QXk ?_
      refine QXr ?_
      refine (hret _ _ _ rfl ?_).1
      clear hN hret hret' af ap ao an am ax ak aa hK9 hK2
      have hg_ : (true : Bool) = goodC ⟨16, 1, 0, now, 3, 0, 0, 0, [], dip, 0, false⟩ := by
       rw [Bool.eq_iff_iff]
       first | (simp_all [goodC, goodK, noneS, mgrB]; done) | (simp_all [goodC, goodK, noneS, mgrB, timB]; done) | (simp_all [goodC, goodK, noneS, mgrB, timB] <;> omega)
      exact ⟨congrArg (fun b_ => Ending.returned (Value.bool b_)) hg_, aq.fr⟩
     ·
      refine WLq 5 [(2, .bool false), (116, .bool false), (115, undef), (114, undef), (113, undef)] (WLd rfl (QXn (af _ _ ?_)))
      refine WC.ret ?_
      refine QXk ?_
      refine QXr ?_
      refine (hret _ _ _ rfl ?_).1
      clear hN hret hret' af ap ao an am ax ak aa hK9 hK2
      have hg_ : (false : Bool) = goodC ⟨16, 1, 0, now, 3, 0, 0, 0, [], dip, 0, false⟩ := by
       rw [Bool.eq_iff_iff]
       first | (simp_all [goodC, goodK, noneS, mgrB]; done) | (simp_all [goodC, goodK, noneS, mgrB, timB]; done) | (simp_all [goodC, goodK, noneS, mgrB, timB] <;> omega)
      exact ⟨congrArg (fun b_ => Ending.returned (Value.bool b_)) hg_, aq.fr⟩

end Go.Proofs.YtfligklljkcbfaaGreatDoor
