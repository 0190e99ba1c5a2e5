/- Contracts of functions of the program, each proved by a walk through its code; conditions stand in the statements. -/
import Derived.Test.YtibkndhgeeoidaaRgG
namespace Go.Proofs.Ytibkndhgeeoidaa
set_option linter.unusedSimpArgs false
set_option linter.unusedVariables false
set_option linter.unusedSectionVars false
open Go Go.RowKit Go.Tw
set_option linter.unusedVariables false
set_option maxRecDepth 20000
def dipOk (h v : Int) : Bool := decide (0 ≤ h ∧ h < 8 ∧ 0 ≤ v ∧ v < 16)
def isHome (a : Int) : Bool := decide (167837696 ≤ a ∧ (a - 167837696) / 256 < 8 ∧ (a - 167837696) % 256 < 16)
def isVip (a : Int) : Bool := decide (1 ≤ a / 16777216 ∧ a / 16777216 ≤ 223 ∧ a / 16777216 ≠ 10 ∧ a / 16777216 ≠ 127)
def homeN (a : Int) : Int := if isHome a then 48 + (a - 167837696) / 256 else 0
def homeV (a : Int) : Int := if isHome a then (a - 167837696) % 256 else 0
def goodE1 (e : EndV) : Bool := isHome e.dip && decide (0 ≤ e.port ∧ e.port ≤ 65535 ∧ 1 ≤ e.weight ∧ e.weight ≤ 16)
def goodE (es : List EndV) : Bool := decide (es.length ≤ 64) && (es.all goodE1 && decide ((es.map (·.dip)).Nodup))
def anyDip (e : EndV) (xs : List EndV) : Bool := xs.any fun d => d.dip == e.dip
theorem ends_bad1 {ends : List EndV} {i : Nat} {e : EndV} (he : ends[i]? = some e) (h1 : goodE1 e = false) : goodE ends = false := by
  unfold goodE
  have : ends.all goodE1 = false := by
    rw [Bool.eq_false_iff]; intro h; rw [List.all_eq_true] at h
    have := h e (List.mem_of_getElem? he); rw [h1] at this; cases this
  rw [this]; simp
theorem ends_long {ends : List EndV} (h : 64 < ends.length) : goodE ends = false := by unfold goodE; rw [decide_eq_false (by omega)]; rfl
theorem ends_good {ends : List EndV} (h : ends.length ≤ 64) (hall : ends.all goodE1 = true) (hnd : (ends.map (·.dip)).Nodup) : goodE ends = true := by
  unfold goodE; rw [decide_eq_true h, hall, decide_eq_true hnd]; rfl
theorem goodE1_yes {e : EndV} (h : isHome e.dip = true) (h1 : 0 ≤ e.port) (h2 : e.port ≤ 65535) (h3 : 1 ≤ e.weight) (h4 : e.weight ≤ 16) : goodE1 e = true := by
  unfold goodE1; rw [h, decide_eq_true ⟨h1, h2, h3, h4⟩]; rfl
theorem goodE1_no {e : EndV} (h : e.port < 0 ∨ 65535 < e.port ∨ e.weight < 1 ∨ 16 < e.weight) : goodE1 e = false := by
  unfold goodE1; rw [decide_eq_false (by omega)]; simp
theorem goodE1_home {e : EndV} (h : isHome e.dip = false) : goodE1 e = false := by unfold goodE1; rw [h]; rfl
def dupK {α κ : Type} (f : α → κ) (xs : List α) (i j : Nat) : Prop := ∃ a b k, k < j ∧ xs[i]? = some a ∧ xs[k]? = some b ∧ f b = f a
theorem dupK_0 {α κ : Type} (f : α → κ) (xs : List α) (i : Nat) : ¬ dupK f xs i 0 := fun ⟨_, _, _, h, _⟩ => Nat.not_lt_zero _ h
theorem dupK_step {α κ : Type} {f : α → κ} {xs : List α} {i j : Nat} {a b : α} (h : ¬ dupK f xs i j) (hi : xs[i]? = some a) (hj : xs[j]? = some b) (hne : f b ≠ f a) : ¬ dupK f xs i (j + 1) := by
  rintro ⟨a2, b2, k, hk, h1, h2, h3⟩
  by_cases e : k = j
  · subst e; rw [hi] at h1; rw [hj] at h2; cases h1; cases h2; exact hne h3
  · exact h ⟨a2, b2, k, by omega, h1, h2, h3⟩
theorem nodup_step {α κ : Type} {f : α → κ} {xs : List α} {i : Nat} {a : α} (h : ((xs.take i).map f).Nodup) (hd : ¬ dupK f xs i i) (hi : xs[i]? = some a) : ((xs.take (i + 1)).map f).Nodup := by
  have hi0 := hi
  obtain ⟨hl, rfl⟩ := List.getElem?_eq_some_iff.1 hi
  rw [List.take_succ_eq_append_getElem hl, List.map_append, List.nodup_append]
  refine ⟨h, by simp, fun x hx y hy e => ?_⟩
  simp only [List.map_cons, List.map_nil, List.mem_singleton] at hy
  obtain ⟨b, hb, rfl⟩ := List.mem_map.1 hx
  obtain ⟨k, hk⟩ := List.getElem?_of_mem hb
  have hki : k < i := by have := (List.getElem?_eq_some_iff.1 hk).1; rw [List.length_take] at this; omega
  rw [List.getElem?_take_of_lt hki] at hk
  exact hd ⟨_, b, k, hki, hi0, hk, e.trans hy⟩
theorem dup_not {α κ : Type} {f : α → κ} {xs : List α} {i j : Nat} {a b : α} (hi : xs[i]? = some a) (hj : xs[j]? = some b) (h : j < i) (e : f b = f a) : ¬ (xs.map f).Nodup := by
  intro hn
  have h1 : (xs.map f)[i]? = some (f a) := by rw [List.getElem?_map, hi]; rfl
  have h2 : (xs.map f)[j]? = some (f b) := by rw [List.getElem?_map, hj]; rfl
  obtain ⟨l1, e1⟩ := List.getElem?_eq_some_iff.1 h1
  obtain ⟨l2, e2⟩ := List.getElem?_eq_some_iff.1 h2
  exact List.pairwise_iff_getElem.1 hn j i l2 l1 h (by rw [e1, e2, e])
theorem goodE_no2 {es : List EndV} (h : ¬ (es.map (·.dip)).Nodup) : goodE es = false := by unfold goodE; rw [decide_eq_false h, Bool.and_false, Bool.and_false]
theorem all_snocE {α : Type} {p : α → Bool} {xs : List α} {i : Nat} {a : α} (h : (xs.take i).all p = true) (hi : xs[i]? = some a) (ha : p a = true) : (xs.take (i + 1)).all p = true := by
  obtain ⟨hl, rfl⟩ := List.getElem?_eq_some_iff.1 hi
  rw [List.take_succ_eq_append_getElem hl, List.all_append, h]; simpa using ha
theorem home_none {a : Int} (h : ∀ h' v' : Nat, h' < 8 → v' < 16 → 167837696 + 256 * (h' : Int) + (v' : Int) ≠ a) : isHome a = false := by
  cases hc : isHome a
  · rfl
  · simp only [isHome, decide_eq_true_eq] at hc
    exact absurd (by omega) (h ((a - 167837696) / 256).toNat ((a - 167837696) % 256).toNat (by omega) (by omega))
theorem home_some {a : Int} {h v : Nat} (hh : h < 8) (hv : v < 16) (e : 167837696 + 256 * (h : Int) + (v : Int) = a) : isHome a = true := by
  simp only [isHome, decide_eq_true_eq]; omega

theorem Dip2_ct (h v : Int) (w : World) (h0 : 0 ≤ h ∧ h < 8) (v0 : 0 ≤ v ∧ v < 16) : Calls Try.prog 65 #[.int .i64 h, .int .i64 v] w fun e w' => e = .returned (.int .u32 (167837696 + 256 * h + v)) ∧ Fr w w' [] := by
 refine enterD (n := 11) Try.func65 rfl rfl (Nat.le_of_ble_eq_true rfl) ?_
 intro Q0 hN hret hret'
 have hC := Cx.start w
 refine WCs (fun K1 hK2 => ?_)
 refine WCg (WLq 1 [(4, .int .u32 0)] (WLd rfl (QXn (hK2 _ _ ?_))))
 refine WCs (fun K3 hK4 => ?_)
 refine WCg (WLq 2 [(6, .int .i64 (IntKind.i64.wrap (256 * h))), (5, .int .i64 h)] ?_)
 refine WLt (show (.int .i64 (IntKind.i64.wrap (256 * h)) : Value) = .int .i64 (256 * h) from by rw [wrap_in_i64 (256 * h) (by omega) (by omega)]) ?_
 refine WLq 1 [(7, .int .i64 (IntKind.i64.wrap (167837696 + (256 * h))))] ?_
 refine WLt (show (.int .i64 (IntKind.i64.wrap (167837696 + (256 * h))) : Value) = .int .i64 (167837696 + (256 * h)) from by rw [wrap_in_i64 (167837696 + (256 * h)) (by omega) (by omega)]) ?_
 refine WLq 2 [(9, .int .i64 (IntKind.i64.wrap ((167837696 + (256 * h)) + v))), (8, .int .i64 v)] ?_
 refine WLt (show (.int .i64 (IntKind.i64.wrap ((167837696 + (256 * h)) + v)) : Value) = .int .i64 ((167837696 + (256 * h)) + v) from by rw [wrap_in_i64 ((167837696 + (256 * h)) + v) (by omega) (by omega)]) ?_
 refine WLq 1 [(10, .int .u32 (IntKind.u32.wrap ((167837696 + (256 * h)) + v)))] ?_
 refine WLt (show (.int .u32 (IntKind.u32.wrap ((167837696 + (256 * h)) + v)) : Value) = .int .u32 ((167837696 + (256 * h)) + v) from by rw [wrap_in_u32 ((167837696 + (256 * h)) + v) (by omega) (by omega)]) ?_
 refine WLq 1 [(4, .int .u32 ((167837696 + (256 * h)) + v))] (WLd rfl (QXn (hK4 _ _ ?_)))
 refine WC.ret ?_
 refine (hret _ _ _ rfl ?_).1
 exact ⟨rfl, hC.fr⟩

theorem Home2_ct (a : Int) (w : World) (h0 : 0 ≤ a) (h1 : a ≤ 4294967295) : Calls Try.prog 46 #[.int .u32 a] w fun e w' => ∃ h v : Int, e = .returned (.tuple #[.int .i64 h, .int .i64 v, .bool (isHome a)]) ∧ Fr w w' [] := by
 refine enterD (n := 22) Try.func46 rfl rfl (Nat.le_of_ble_eq_true rfl) ?_
 intro Q0 hN hret hret'
 have hC := Cx.start w
 refine WCs (fun K1 hK2 => ?_)
 refine WCg (WLq 3 [(4, .bool false), (3, .int .i64 0), (2, .int .i64 0)] (WLd rfl (QXn (hK2 _ _ ?_))))
 refine WCs (fun K3 hK4 => ?_)
 refine WCs (fun K5 hK6 => ?_)
 refine WCg (WLq 1 [(5, .int .i64 0)] (WLd rfl (QXn (hK6 _ _ ?_))))
 refine WC.block ?_
 refine WC.loop (fun m_ E_ w_ => ∃ (h : Nat), m_ = 8 - h ∧ E_ = [(0, .int .u32 a), (5, .int .i64 (h : Int))] ∧ Cx w [] w_ [] [] ∧ (h ≤ 8 ∧ ∀ h' v' : Nat, h' < h → v' < 16 → 167837696 + 256 * (h' : Int) + (v' : Int) ≠ a)) ⟨_, _, ⟨0, rfl, rfl, hC, Nat.zero_le _, fun h' v' q => absurd q (Nat.not_lt_zero _)⟩, sub_of ⟨rfl, rfl, trivial⟩⟩ (fun m10 E_ aB K7 hK8 hI9 => ?_)
 obtain ⟨h, rfl, rfl, ad, hh, hno⟩ := hI9
 refine WCs (fun aC ae => ?_)
 refine WCs (fun aD af => ?_)
 refine WCg (WLq 2 [(8, .bool (decide ((h : Int) < 8))), (7, .int .i64 (h : Int))] (WLd rfl (QXn (af _ _ ?_))))
 refine WCa 8 (decide ((h : Int) < 8)) rfl (fun aa => ?_) (fun aa => ?_)
 ·
  have ax : (h : Int) < 8 := by have q_ := of_decide_eq_true aa; omega
  refine WCt rfl ?_
  refine WC.skip ?_
  refine QXn (ae _ _ ?_)
  refine WCs (fun aE ag => ?_)
  refine WC.block ?_
  refine WCs (fun aF ah => ?_)
  refine WCg (WLq 1 [(6, .int .i64 0)] (WLd rfl (QXn (ah _ _ ?_))))
  refine WC.block ?_
  refine WC.loop (fun m_ E_ w_ => ∃ (v : Nat), m_ = 16 - v ∧ E_ = [(0, .int .u32 a), (5, .int .i64 (h : Int)), (6, .int .i64 (v : Int)), (7, .int .i64 (h : Int)), (8, .bool true)] ∧ Cx w [] w_ [] [] ∧ (v ≤ 16 ∧ ∀ v' : Nat, v' < v → 167837696 + 256 * (h : Int) + (v' : Int) ≠ a)) ⟨_, _, ⟨0, rfl, rfl, ad, Nat.zero_le _, fun v' q => absurd q (Nat.not_lt_zero _)⟩, sub_of ⟨rfl, rfl, rfl, rfl, rfl, trivial⟩⟩ (fun m25 E_ ay aG ap aq => ?_)
  obtain ⟨v, rfl, rfl, ai, hv, hno2⟩ := aq
  refine WCs (fun aH aj => ?_)
  refine WCs (fun aI ak => ?_)
  refine WCg (WLq 2 [(12, .bool (decide ((v : Int) < 16))), (11, .int .i64 (v : Int))] (WLd rfl (QXn (ak _ _ ?_))))
  refine WCa 12 (decide ((v : Int) < 16)) rfl (fun ab => ?_) (fun ab => ?_)
  ·
   have az : (v : Int) < 16 := by have q_ := of_decide_eq_true ab; omega
   refine WCt rfl ?_
   refine WC.skip ?_
   refine QXn (aj _ _ ?_)
   refine WCs (fun aJ al => ?_)
   refine WC.block ?_
   refine WCs (fun aK am => ?_)
   refine WCg (WLq 2 [(16, .int .i64 (v : Int)), (15, .int .i64 (h : Int))] ?_)
   refine WLc rfl rfl rfl rfl rfl (by kernel_rfl) (Dip2_ct (h : Int) (v : Int) ay (by omega) (by omega)) ?_
   rintro _ aL ⟨rfl, ar⟩
   refine ⟨_, rfl, ?_⟩
   have an := ai.call ar
   refine WLq 2 [(19, .bool ((167837696 + 256 * (h : Int) + (v : Int)) == a)), (18, .int .u32 a)] (WLd rfl (QXn (am _ _ ?_)))
   refine WCa 19 ((167837696 + 256 * (h : Int) + (v : Int)) == a) rfl (fun ac => ?_) (fun ac => ?_)
   ·
    have aA : (167837696 + 256 * (h : Int) + (v : Int)) = a := by simpa using ac
    refine WCt rfl ?_
    refine WCs (fun aM ao => ?_)
    refine WCg (WLq 5 [(4, .bool true), (3, .int .i64 (v : Int)), (2, .int .i64 (h : Int)), (21, .int .i64 (v : Int)), (20, .int .i64 (h : Int))] (WLd rfl (QXn (ao _ _ ?_))))
    refine WC.ret ?_
    refine QXk ?_
    refine QXr ?_
    refine QXr ?_
    refine QXk ?_
    refine QXk ?_
    refine QXr ?_
    refine QXr ?_
    refine QXk ?_
    refine QXr ?_
    refine (hret _ _ _ rfl ?_).1
    clear hN hret hret' ao am al ak aj ah ag af ae hK6 hK4 hK2
    exact ⟨_, _, by rw [home_some (h := h) (v := v) (by omega) (by omega) (by assumption)]; rfl, an.fr⟩
   ·
    have aA : ¬ ((167837696 + 256 * (h : Int) + (v : Int)) = a) := by simpa using ac
    refine WCf rfl (WC.skip ?_)
    refine QXb ?_
    refine QXn (al _ _ ?_)
    refine WCg (WLq 2 [(14, .int .i64 (IntKind.i64.wrap ((v : Int) + 1))), (13, .int .i64 (v : Int))] ?_)
    refine WLt (show (.int .i64 (IntKind.i64.wrap ((v : Int) + 1)) : Value) = .int .i64 ((v : Int) + 1) from by rw [wrap_in_i64 ((v : Int) + 1) (by omega) (by omega)]) ?_
    refine WLq 1 [(6, .int .i64 ((v : Int) + 1))] ?_
    refine WLd rfl ?_
    refine QXn ?_
    have au := an.pick [] [] rfl rfl
    refine fun a_ ha_ => ap _ _ _ ?_ ⟨v + 1, rfl, rfl, au, by omega, fun v' q1 => by
     by_cases e_ : v' = v
     ·
      subst e_; assumption
     ·
      exact hno2 v' (by omega)⟩ a_ (ha_.weaken (sub_of ⟨rfl, rfl, rfl, rfl, rfl, trivial⟩))
    omega
  ·
   have az : (16 : Int) ≤ (v : Int) := by have q_ := of_decide_eq_false ab; omega
   refine WCf rfl ?_
   refine WC.exit ?_
   refine QXe ?_
   refine QXe ?_
   refine QX.block_hit ?_
   refine QXb ?_
   refine QXn (ag _ _ ?_)
   refine WCg (WLq 2 [(10, .int .i64 (IntKind.i64.wrap ((h : Int) + 1))), (9, .int .i64 (h : Int))] ?_)
   refine WLt (show (.int .i64 (IntKind.i64.wrap ((h : Int) + 1)) : Value) = .int .i64 ((h : Int) + 1) from by rw [wrap_in_i64 ((h : Int) + 1) (by omega) (by omega)]) ?_
   refine WLq 1 [(5, .int .i64 ((h : Int) + 1))] ?_
   refine WLd rfl ?_
   refine QXn ?_
   have av := ai.pick [] [] rfl rfl
   refine fun a_ ha_ => hK8 _ _ _ ?_ ⟨h + 1, rfl, rfl, av, by omega, fun h' v' q1 q2 => by
    by_cases e_ : h' = h
    ·
     subst e_; exact hno2 v' (by omega)
    ·
     exact hno h' v' (by omega) q2⟩ a_ (ha_.weaken (sub_of ⟨rfl, rfl, trivial⟩))
   omega
 ·
  have ax : (8 : Int) ≤ (h : Int) := by have q_ := of_decide_eq_false aa; omega
  refine WCf rfl ?_
  refine WC.exit ?_
  refine QXe ?_
  refine QXe ?_
  refine QX.block_hit ?_
  refine QXn (hK4 _ _ ?_)
  refine WCs (fun aN aw => ?_)
  refine WCg (WLq 3 [(4, .bool false), (3, .int .i64 0), (2, .int .i64 0)] (WLd rfl (QXn (aw _ _ ?_))))
  refine WC.ret ?_
  refine (hret _ _ _ rfl ?_).1
  exact ⟨_, _, by rw [home_none (fun h' v' q1 q2 => hno h' v' (by omega) q2)]; rfl, ad.fr⟩

theorem REnds_ct (A : Option Addr) (c : Nat) (ends : List EndV) (w : World) (hr : Rd w 3 cellsE A ends) (hwf : ∀ e ∈ ends, wfE e) (hl : ends.length ≤ 1099511627776) : Calls Try.prog 22 #[.slice A ends.length c] w fun e w' => e = .returned (.bool (goodE ends)) ∧ Fr w w' [] := by
 refine enterD (n := 77) Try.func22 rfl rfl (Nat.le_of_ble_eq_true rfl) ?_
 intro Q0 hN hret hret'
 have hC := Cx.start w
 refine WCs (fun K1 hK2 => ?_)
 refine WCg (WLq 1 [(2, .bool false)] (WLd rfl (QXn (hK2 _ _ ?_))))
 refine WCs (fun K3 hK4 => ?_)
 refine WCs (fun K5 hK6 => ?_)
 refine WCg (WLq 3 [(10, .bool (decide ((ends.length : Int) > 64))), (9, .int .i64 (ends.length : Int)), (8, .slice A ends.length c)] (WLd rfl (QXn (hK6 _ _ ?_))))
 refine WCa 10 (decide ((ends.length : Int) > 64)) rfl (fun t7b => ?_) (fun t7b => ?_)
 ·
  have t7 : (64 : Int) < (ends.length : Int) := by have q_ := of_decide_eq_true t7b; omega
  refine WCt rfl ?_
  refine WCs (fun K8 hK9 => ?_)
  refine WCg (WLq 1 [(2, .bool false)] (WLd rfl (QXn (hK9 _ _ ?_))))
  refine WC.ret ?_
  refine QXr ?_
  refine (hret _ _ _ rfl ?_).1
  clear hN hret hret' hK9 hK6 hK4 hK2
  rw [ends_long (by omega)]
  exact ⟨rfl, hC.fr⟩
 ·
  have t7 : (ends.length : Int) ≤ 64 := by have q_ := of_decide_eq_false t7b; omega
  refine WCf rfl (WC.skip (QXn (hK4 _ _ ?_)))
  refine WCs (fun bj af => ?_)
  refine WCs (fun bk ag => ?_)
  refine WCg (WLq 1 [(3, .int .i64 0)] (WLd rfl (QXn (ag _ _ ?_))))
  refine WC.block ?_
  refine WC.loop (fun m_ E_ w_ => ∃ (i : Nat), m_ = ends.length - i ∧ E_ = [(0, .slice A ends.length c), (3, .int .i64 (i : Int))] ∧ Cx w [] w_ [] [] ∧ (i ≤ ends.length ∧ (ends.take i).all goodE1 = true ∧ ((ends.take i).map (·.dip)).Nodup)) ⟨_, _, ⟨0, rfl, rfl, hC, Nat.zero_le _, rfl, List.nodup_nil⟩, sub_of ⟨rfl, rfl, trivial⟩⟩ (fun m17 E_ a9 bl aZ a0 => ?_)
  obtain ⟨i, rfl, rfl, aB, hi, hall, hnd⟩ := a0
  refine WCs (fun bm ah => ?_)
  refine WCs (fun bn ai => ?_)
  refine WCg (WLq 4 [(14, .bool (decide ((i : Int) < (ends.length : Int)))), (13, .int .i64 (ends.length : Int)), (12, .slice A ends.length c), (11, .int .i64 (i : Int))] (WLd rfl (QXn (ai _ _ ?_))))
  refine WCa 14 (decide ((i : Int) < (ends.length : Int))) rfl (fun aC => ?_) (fun aC => ?_)
  ·
   have ba : (i : Int) < (ends.length : Int) := by have q_ := of_decide_eq_true aC; omega
   refine WCt rfl ?_
   refine WC.skip ?_
   refine QXn (ah _ _ ?_)
   refine WCs (fun bo aj => ?_)
   refine WC.block ?_
   refine WCs (fun bp ak => ?_)
   refine WCg (WLq 2 [(19, .int .i64 (i : Int)), (18, .slice A ends.length c)] ?_)
   obtain ⟨aa, ae⟩ := get_some (xs := ends) (i := i) (by omega)
   obtain ⟨b31, o33, an, ao⟩ := hr.at_ _ _ ae
   have av := hwf _ (List.mem_of_getElem? ae)
   obtain ⟨hwd0_e29, hwd1_e29⟩ := av.dip
   refine WLi A ends.length c 20 .i64 (i : Int) b31 o33 i 3 (by kernel_rfl) an (by omega) (by omega) (o33 + i * 3) (by first | (simp; done) | omega) ?_
   refine WLq 1 [(21, .pointer (some ⟨b31, o33 + i * 3, none⟩))] ?_
   refine WLo 23 (.pointer (some ⟨b31, o33 + i * 3, none⟩)) (.int .u32 aa.dip) 22 (run_load1 rfl (by simpa [Nat.add_assoc] using aB.fr.cell (ao 0 _ rfl) (by simp))) ?_
   refine WLc rfl rfl rfl rfl rfl (by kernel_rfl) (Home2_ct aa.dip a9 (by omega) (by omega)) ?_
   rintro _ bq ⟨a1, a2, rfl, a3⟩
   refine ⟨_, rfl, ?_⟩
   have ad := aB.call a3
   refine WLq 7 [(6, .bool (isHome aa.dip)), (5, .int .i64 a2), (4, .int .i64 a1), (26, .bool (isHome aa.dip)), (25, .int .i64 a2), (24, .int .i64 a1), (17, .tuple #[.int .i64 a1, .int .i64 a2, .bool (isHome aa.dip)])] (WLd rfl (QXn (ak _ _ ?_)))
   refine WCs (fun br al => ?_)
   refine WCs (fun bs ab => ?_)
   refine WCg (WLq 3 [(29, .bool (!(isHome aa.dip))), (28, .bool (!(isHome aa.dip))), (27, .bool (isHome aa.dip))] ?_)
   refine WLa 29 (!(isHome aa.dip)) rfl (fun ap => ?_) (fun ap => ?_)
   ·
    have a4 : (isHome aa.dip) = false := by first | (simpa only [Bool.not_eq_true', Bool.not_eq_false'] using ap) | simpa using ap
    refine WLq 31 [(60, .bool true), (59, undef), (58, undef), (57, undef), (56, undef), (55, undef), (54, undef), (53, .bool true), (52, .bool true), (51, undef), (50, undef), (49, undef), (48, undef), (47, undef), (46, undef), (45, .bool true), (44, .bool true), (43, undef), (42, undef), (41, undef), (40, undef), (39, undef), (38, undef), (37, .bool true), (36, .bool true), (35, undef), (34, undef), (33, undef), (32, undef), (31, undef), (30, undef)] (WLd rfl (QXn (ab _ _ ?_)))
    refine WCt rfl ?_
    refine WCs (fun bt aI => ?_)
    refine WCg (WLq 1 [(2, .bool false)] (WLd rfl (QXn (aI _ _ ?_))))
    refine WC.ret ?_
    refine QXr ?_
    refine QXk ?_
    refine QXr ?_
    refine QXr ?_
    refine QXk ?_
    refine QXr ?_
    refine (hret _ _ _ rfl ?_).1
    clear hN hret hret' aI ab al ak aj ai ah ag af hK6 hK4 hK2
    rw [ends_bad1 ae (goodE1_home (by simpa using a4))]
    exact ⟨rfl, ad.fr⟩
   ·
    have a4 : (isHome aa.dip) = true := by first | (simpa only [Bool.not_eq_true', Bool.not_eq_false'] using ap) | simpa using ap
    refine WLq 2 [(31, .int .i64 (i : Int)), (30, .slice A ends.length c)] ?_
    refine WLi A ends.length c 32 .i64 (i : Int) b31 o33 i 3 (by kernel_rfl) an (by omega) (by omega) (o33 + i * 3) (by first | (simp; done) | omega) ?_
    refine WLq 1 [(33, .pointer (some ⟨b31, o33 + i * 3 + 1, none⟩))] ?_
    refine WLo 3 (.pointer (some ⟨b31, o33 + i * 3 + 1, none⟩)) (.int .i64 aa.port) 34 (run_load1 rfl (by simpa [Nat.add_assoc] using ad.fr.cell (ao 1 _ rfl) (by simp))) ?_
    refine WLq 3 [(37, .bool (decide (aa.port < 0))), (36, .bool (decide (aa.port < 0))), (35, .bool (decide (aa.port < 0)))] ?_
    refine WLa 37 (decide (aa.port < 0)) rfl (fun aD => ?_) (fun aD => ?_)
    ·
     have bb : aa.port < 0 := by have q_ := of_decide_eq_true aD; omega
     refine WLq 23 [(60, .bool true), (59, undef), (58, undef), (57, undef), (56, undef), (55, undef), (54, undef), (53, .bool true), (52, .bool true), (51, undef), (50, undef), (49, undef), (48, undef), (47, undef), (46, undef), (45, .bool true), (44, .bool true), (43, undef), (42, undef), (41, undef), (40, undef), (39, undef), (38, undef)] (WLd rfl (QXn (ab _ _ ?_)))
     refine WCt rfl ?_
     refine WCs (fun bu aJ => ?_)
     refine WCg (WLq 1 [(2, .bool false)] (WLd rfl (QXn (aJ _ _ ?_))))
     refine WC.ret ?_
     refine QXr ?_
     refine QXk ?_
     refine QXr ?_
     refine QXr ?_
     refine QXk ?_
     refine QXr ?_
     refine (hret _ _ _ rfl ?_).1
     clear hN hret hret' aJ ab al ak aj ai ah ag af hK6 hK4 hK2
     rw [ends_bad1 ae (goodE1_no (by omega))]
     exact ⟨rfl, ad.fr⟩
    ·
     have bb : (0 : Int) ≤ aa.port := by have q_ := of_decide_eq_false aD; omega
     refine WLq 2 [(39, .int .i64 (i : Int)), (38, .slice A ends.length c)] ?_
     refine WLi A ends.length c 40 .i64 (i : Int) b31 o33 i 3 (by kernel_rfl) an (by omega) (by omega) (o33 + i * 3) (by first | (simp; done) | omega) ?_
     refine WLq 1 [(41, .pointer (some ⟨b31, o33 + i * 3 + 1, none⟩))] ?_
     refine WLo 3 (.pointer (some ⟨b31, o33 + i * 3 + 1, none⟩)) (.int .i64 aa.port) 42 (run_load1 rfl (by simpa [Nat.add_assoc] using ad.fr.cell (ao 1 _ rfl) (by simp))) ?_
     refine WLq 3 [(45, .bool (decide (aa.port > 65535))), (44, .bool (decide (aa.port > 65535))), (43, .bool (decide (aa.port > 65535)))] ?_
     refine WLa 45 (decide (aa.port > 65535)) rfl (fun aE => ?_) (fun aE => ?_)
     ·
      have bc : (65535 : Int) < aa.port := by have q_ := of_decide_eq_true aE; omega
      refine WLq 15 [(60, .bool true), (59, undef), (58, undef), (57, undef), (56, undef), (55, undef), (54, undef), (53, .bool true), (52, .bool true), (51, undef), (50, undef), (49, undef), (48, undef), (47, undef), (46, undef)] (WLd rfl (QXn (ab _ _ ?_)))
      refine WCt rfl ?_
      refine WCs (fun bv aK => ?_)
      refine WCg (WLq 1 [(2, .bool false)] (WLd rfl (QXn (aK _ _ ?_))))
      refine WC.ret ?_
      refine QXr ?_
      refine QXk ?_
      refine QXr ?_
      refine QXr ?_
      refine QXk ?_
      refine QXr ?_
      refine (hret _ _ _ rfl ?_).1
      clear hN hret hret' aK ab al ak aj ai ah ag af hK6 hK4 hK2
      rw [ends_bad1 ae (goodE1_no (by omega))]
      exact ⟨rfl, ad.fr⟩
     ·
      have bc : aa.port ≤ 65535 := by have q_ := of_decide_eq_false aE; omega
      refine WLq 2 [(47, .int .i64 (i : Int)), (46, .slice A ends.length c)] ?_
      refine WLi A ends.length c 48 .i64 (i : Int) b31 o33 i 3 (by kernel_rfl) an (by omega) (by omega) (o33 + i * 3) (by first | (simp; done) | omega) ?_
      refine WLq 1 [(49, .pointer (some ⟨b31, o33 + i * 3 + 2, none⟩))] ?_
      refine WLo 3 (.pointer (some ⟨b31, o33 + i * 3 + 2, none⟩)) (.int .i64 aa.weight) 50 (run_load1 rfl (by simpa [Nat.add_assoc] using ad.fr.cell (ao 2 _ rfl) (by simp))) ?_
      refine WLq 3 [(53, .bool (decide (aa.weight < 1))), (52, .bool (decide (aa.weight < 1))), (51, .bool (decide (aa.weight < 1)))] ?_
      refine WLa 53 (decide (aa.weight < 1)) rfl (fun aF => ?_) (fun aF => ?_)
      ·
       have bd : aa.weight < 1 := by have q_ := of_decide_eq_true aF; omega
       refine WLq 7 [(60, .bool true), (59, undef), (58, undef), (57, undef), (56, undef), (55, undef), (54, undef)] (WLd rfl (QXn (ab _ _ ?_)))
       refine WCt rfl ?_
       refine WCs (fun bw aL => ?_)
       refine WCg (WLq 1 [(2, .bool false)] (WLd rfl (QXn (aL _ _ ?_))))
       refine WC.ret ?_
       refine QXr ?_
       refine QXk ?_
       refine QXr ?_
       refine QXr ?_
       refine QXk ?_
       refine QXr ?_
       refine (hret _ _ _ rfl ?_).1
       clear hN hret hret' aL ab al ak aj ai ah ag af hK6 hK4 hK2
       rw [ends_bad1 ae (goodE1_no (by omega))]
       exact ⟨rfl, ad.fr⟩
      ·
       have bd : (1 : Int) ≤ aa.weight := by have q_ := of_decide_eq_false aF; omega
       refine WLq 2 [(55, .int .i64 (i : Int)), (54, .slice A ends.length c)] ?_
       refine WLi A ends.length c 56 .i64 (i : Int) b31 o33 i 3 (by kernel_rfl) an (by omega) (by omega) (o33 + i * 3) (by first | (simp; done) | omega) ?_
       refine WLq 1 [(57, .pointer (some ⟨b31, o33 + i * 3 + 2, none⟩))] ?_
       refine WLo 3 (.pointer (some ⟨b31, o33 + i * 3 + 2, none⟩)) (.int .i64 aa.weight) 58 (run_load1 rfl (by simpa [Nat.add_assoc] using ad.fr.cell (ao 2 _ rfl) (by simp))) ?_
       refine WLq 2 [(60, .bool (decide (aa.weight > 16))), (59, .bool (decide (aa.weight > 16)))] (WLd rfl (QXn (ab _ _ ?_)))
       refine WCa 60 (decide (aa.weight > 16)) rfl (fun aG => ?_) (fun aG => ?_)
       ·
        have be : (16 : Int) < aa.weight := by have q_ := of_decide_eq_true aG; omega
        refine WCt rfl ?_
        refine WCs (fun bx aM => ?_)
        refine WCg (WLq 1 [(2, .bool false)] (WLd rfl (QXn (aM _ _ ?_))))
        refine WC.ret ?_
        refine QXr ?_
        refine QXk ?_
        refine QXr ?_
        refine QXr ?_
        refine QXk ?_
        refine QXr ?_
        refine (hret _ _ _ rfl ?_).1
        clear hN hret hret' aM ab al ak aj ai ah ag af hK6 hK4 hK2
        rw [ends_bad1 ae (goodE1_no (by omega))]
        exact ⟨rfl, ad.fr⟩
       ·
        have be : aa.weight ≤ 16 := by have q_ := of_decide_eq_false aG; omega
        refine WCf rfl (WC.skip (QXn (al _ _ ?_)))
        refine WCs (fun bz aN => ?_)
        refine WCg (WLq 1 [(7, .int .i64 0)] (WLd rfl (QXn (aN _ _ ?_))))
        refine WC.block ?_
        refine WC.loop (fun m_ E_ w_ => ∃ (j : Nat), m_ = i - j ∧ E_ = [(0, .slice A ends.length c), (3, .int .i64 (i : Int)), (7, .int .i64 (j : Int))] ∧ Cx w [] w_ [] [] ∧ (j ≤ i ∧ ¬ dupK EndV.dip ends i j)) ⟨_, _, ⟨0, rfl, rfl, ad, Nat.zero_le _, dupK_0 _ _ _⟩, sub_of ⟨rfl, rfl, rfl, trivial⟩⟩ (fun m80 E_ bA bB a5 a6 => ?_)
        obtain ⟨j, rfl, rfl, aO, hj, hdup⟩ := a6
        refine WCs (fun bC aP => ?_)
        refine WCs (fun bD aQ => ?_)
        refine WCg (WLq 3 [(63, .bool (decide ((j : Int) < (i : Int)))), (62, .int .i64 (i : Int)), (61, .int .i64 (j : Int))] (WLd rfl (QXn (aQ _ _ ?_))))
        refine WCa 63 (decide ((j : Int) < (i : Int))) rfl (fun aH => ?_) (fun aH => ?_)
        ·
         have bf : (j : Int) < (i : Int) := by have q_ := of_decide_eq_true aH; omega
         refine WCt rfl ?_
         refine WC.skip ?_
         refine QXn (aP _ _ ?_)
         refine WCs (fun bE aR => ?_)
         refine WC.block ?_
         refine WCs (fun bF aS => ?_)
         refine WC.drawC aO [] (by kernel_rfl) (fun bG bg aw ac => ?_)
         refine WDq (NPt (NPb (NPt (NPt (NPb (NPb (NPt (NPt (NPb (NPt hN)))))))))) 0 66 (.slice A ends.length c) ac ?_
         refine WDq (NPt (NPb (NPt (NPt (NPb (NPb (NPt (NPt (NPb (NPt hN)))))))))) 1 67 (.int .i64 (j : Int)) ac ?_
         obtain ⟨aT, ax⟩ := get_some (xs := ends) (i := j) (by omega)
         obtain ⟨b98, o100, a7, aU⟩ := hr.at_ _ _ ax
         have ay := hwf _ (List.mem_of_getElem? ax)
         obtain ⟨hwd0_e96, hwd1_e96⟩ := ay.dip
         refine WDi (NPt (NPb (NPt (NPt (NPb (NPb (NPt (NPt (NPb (NPt hN)))))))))) 2 A ends.length c 68 .i64 (j : Int) b98 o100 j 3 (by kernel_rfl) (by kernel_rfl) a7 (by omega) (by omega) (o100 + j * 3) (by first | (simp; done) | omega) ac ?_
         refine WDq (NPt (NPb (NPt (NPt (NPb (NPb (NPt (NPt (NPb (NPt hN)))))))))) 3 69 (.pointer (some ⟨b98, o100 + j * 3, none⟩)) ac ?_
         refine WDq (NPt (NPb (NPt (NPt (NPb (NPb (NPt (NPt (NPb (NPt hN)))))))))) 5 71 (.slice A ends.length c) ac ?_
         refine WDq (NPt (NPb (NPt (NPt (NPb (NPb (NPt (NPt (NPb (NPt hN)))))))))) 6 72 (.int .i64 (i : Int)) ac ?_
         obtain ⟨aq, am⟩ := get_some (xs := ends) (i := i) (by omega)
         obtain ⟨b104, o106, aV, aW⟩ := hr.at_ _ _ am
         have ar := hwf _ (List.mem_of_getElem? am)
         obtain ⟨hwd0_e102, hwd1_e102⟩ := ar.dip
         refine WDi (NPt (NPb (NPt (NPt (NPb (NPb (NPt (NPt (NPb (NPt hN)))))))))) 7 A ends.length c 73 .i64 (i : Int) b104 o106 i 3 (by kernel_rfl) (by kernel_rfl) aV (by omega) (by omega) (o106 + i * 3) (by first | (simp; done) | omega) ac ?_
         refine WDq (NPt (NPb (NPt (NPt (NPb (NPb (NPt (NPt (NPb (NPt hN)))))))))) 8 74 (.pointer (some ⟨b104, o106 + i * 3, none⟩)) ac ?_
         refine WDm (NPt (NPb (NPt (NPt (NPb (NPb (NPt (NPt (NPb (NPt hN)))))))))) 4 23 (.pointer (some ⟨b98, o100 + j * 3, none⟩)) (.int .u32 aT.dip) 70 (fun _ hS_ => run_load1 rfl (by simpa [Nat.add_assoc] using Fr.cell hS_ (aw.fr.cell (aU 0 _ rfl) (by simp)) (by simp))) ac ?_
         refine WDm (NPt (NPb (NPt (NPt (NPb (NPb (NPt (NPt (NPb (NPt hN)))))))))) 9 23 (.pointer (some ⟨b104, o106 + i * 3, none⟩)) (.int .u32 aq.dip) 75 (fun _ hS_ => run_load1 rfl (by simpa [Nat.add_assoc] using Fr.cell hS_ (aw.fr.cell (aW 0 _ rfl) (by simp)) (by simp))) ac ?_
         refine WDq (NPt (NPb (NPt (NPt (NPb (NPb (NPt (NPt (NPb (NPt hN)))))))))) 10 76 (.bool (aT.dip == aq.dip)) ac ?_
         refine WD.done (by kernel_rfl) ?_
         refine QXn (aS _ _ ?_)
         refine WCa 76 (aT.dip == aq.dip) rfl (fun au => ?_) (fun au => ?_)
         ·
          have a8 : aT.dip = aq.dip := by simpa using au
          refine WCt rfl ?_
          refine WCs (fun bh az => ?_)
          refine WCg (WLq 1 [(2, .bool false)] (WLd rfl (QXn (az _ _ ?_))))
          refine WC.ret ?_
          refine QXk ?_
          refine QXr ?_
          refine QXr ?_
          refine QXk ?_
          refine QXk ?_
          refine QXr ?_
          refine QXr ?_
          refine QXk ?_
          refine QXr ?_
          refine (hret _ _ _ rfl ?_).1
          clear hN hret hret' az aS aR aQ aP aN ab al ak aj ai ah ag af hK6 hK4 hK2
          rw [goodE_no2 (dup_not (f := EndV.dip) am ax (by omega) (by assumption))]
          exact ⟨rfl, aw.fr⟩
         ·
          have a8 : ¬ (aT.dip = aq.dip) := by simpa using au
          refine WCf rfl (WC.skip ?_)
          refine QXb ?_
          refine QXn (aR _ _ ?_)
          refine WCg (WLq 2 [(65, .int .i64 (IntKind.i64.wrap ((j : Int) + 1))), (64, .int .i64 (j : Int))] ?_)
          refine WLt (show (.int .i64 (IntKind.i64.wrap ((j : Int) + 1)) : Value) = .int .i64 ((j : Int) + 1) from by rw [wrap_in_i64 ((j : Int) + 1) (by omega) (by omega)]) ?_
          refine WLq 1 [(7, .int .i64 ((j : Int) + 1))] ?_
          refine WLd rfl ?_
          refine QXn ?_
          have aX := aw.pick [] [] rfl rfl
          refine fun a_ ha_ => a5 _ _ _ ?_ ⟨j + 1, rfl, rfl, aX, by omega, dupK_step hdup am ax (by assumption)⟩ a_ (ha_.weaken (sub_of ⟨rfl, rfl, rfl, trivial⟩))
          omega
        ·
         have bf : (i : Int) ≤ (j : Int) := by have q_ := of_decide_eq_false aH; omega
         refine WCf rfl ?_
         refine WC.exit ?_
         refine QXe ?_
         refine QXe ?_
         refine QX.block_hit ?_
         refine QXb ?_
         refine QXn (aj _ _ ?_)
         refine WCg (WLq 2 [(16, .int .i64 (IntKind.i64.wrap ((i : Int) + 1))), (15, .int .i64 (i : Int))] ?_)
         refine WLt (show (.int .i64 (IntKind.i64.wrap ((i : Int) + 1)) : Value) = .int .i64 ((i : Int) + 1) from by rw [wrap_in_i64 ((i : Int) + 1) (by omega) (by omega)]) ?_
         refine WLq 1 [(3, .int .i64 ((i : Int) + 1))] ?_
         refine WLd rfl ?_
         refine QXn ?_
         have aY := aO.pick [] [] rfl rfl
         refine fun a_ ha_ => aZ _ _ _ ?_ ⟨i + 1, rfl, rfl, aY, by omega, all_snocE hall ae (goodE1_yes (by simpa using a4) (by omega) (by omega) (by omega) (by omega)), nodup_step hnd (by have hj_ : j = i := (by omega); subst hj_; exact hdup) ae⟩ a_ (ha_.weaken (sub_of ⟨rfl, rfl, trivial⟩))
         omega
  ·
   have ba : (ends.length : Int) ≤ (i : Int) := by have q_ := of_decide_eq_false aC; omega
   refine WCf rfl ?_
   refine WC.exit ?_
   refine QXe ?_
   refine QXe ?_
   refine QX.block_hit ?_
   refine QXn (af _ _ ?_)
   refine WCs (fun bi aA => ?_)
   refine WCg (WLq 1 [(2, .bool true)] (WLd rfl (QXn (aA _ _ ?_))))
   refine WC.ret ?_
   refine (hret _ _ _ rfl ?_).1
   clear hN hret hret' aA ai ah ag af hK6 hK4 hK2
   have hie_ : i = ends.length := by omega
   rw [List.take_of_length_le (by omega)] at hall hnd
   rw [ends_good (by omega) hall hnd]
   exact ⟨rfl, aB.fr⟩

end Go.Proofs.Ytibkndhgeeoidaa
