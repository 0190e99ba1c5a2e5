/- Contracts of functions of the program, each proved by a walk through its code; conditions stand in the statements. -/
import Derived.Test.YtjacpjdikhlcoaaVtQ14
namespace Go.Proofs.Ytjacpjdikhlcoaa
set_option linter.unusedSimpArgs false
set_option linter.unusedVariables false
set_option linter.unusedSectionVars false
open Go Go.RowKit Go.Tw
set_option linter.unusedVariables false
set_option maxRecDepth 20000
theorem home_none {a : Int} (h : ∀ h' v' : Nat, h' < 8 → v' < 16 → 167837696 + 256 * (h' : Int) + (v' : Int) ≠ a) : isHome a = false := by
  cases hc : isHome a
  · rfl
  · simp only [isHome, decide_eq_true_eq] at hc
    exact absurd (by omega) (h ((a - 167837696) / 256).toNat ((a - 167837696) % 256).toNat (by omega) (by omega))
theorem home_some {a : Int} {h v : Nat} (hh : h < 8) (hv : v < 16) (e : 167837696 + 256 * (h : Int) + (v : Int) = a) : isHome a = true := by
  simp only [isHome, decide_eq_true_eq]; omega
def dupK {α κ : Type} (f : α → κ) (xs : List α) (i j : Nat) : Prop := ∃ a b k, k < j ∧ xs[i]? = some a ∧ xs[k]? = some b ∧ f b = f a
theorem dupK_0 {α κ : Type} (f : α → κ) (xs : List α) (i : Nat) : ¬ dupK f xs i 0 := fun ⟨_, _, _, h, _⟩ => Nat.not_lt_zero _ h
theorem dupK_step {α κ : Type} {f : α → κ} {xs : List α} {i j : Nat} {a b : α} (h : ¬ dupK f xs i j) (hi : xs[i]? = some a) (hj : xs[j]? = some b) (hne : f b ≠ f a) : ¬ dupK f xs i (j + 1) := by
  rintro ⟨a2, b2, k, hk, h1, h2, h3⟩
  by_cases e : k = j
  · subst e; rw [hi] at h1; rw [hj] at h2; cases h1; cases h2; exact hne h3
  · exact h ⟨a2, b2, k, by omega, h1, h2, h3⟩
theorem nodup_step {α κ : Type} {f : α → κ} {xs : List α} {i : Nat} {a : α} (h : ((xs.take i).map f).Nodup) (hd : ¬ dupK f xs i i) (hi : xs[i]? = some a) : ((xs.take (i + 1)).map f).Nodup := by
  have hi0 := hi
  obtain ⟨hl, rfl⟩ := List.getElem?_eq_some_iff.1 hi
  rw [List.take_succ_eq_append_getElem hl, List.map_append, List.nodup_append]
  refine ⟨h, by simp, fun x hx y hy e => ?_⟩
  simp only [List.map_cons, List.map_nil, List.mem_singleton] at hy
  obtain ⟨b, hb, rfl⟩ := List.mem_map.1 hx
  obtain ⟨k, hk⟩ := List.getElem?_of_mem hb
  have hki : k < i := by have := (List.getElem?_eq_some_iff.1 hk).1; rw [List.length_take] at this; omega
  rw [List.getElem?_take_of_lt hki] at hk
  exact hd ⟨_, b, k, hki, hi0, hk, e.trans hy⟩
theorem dup_not {α κ : Type} {f : α → κ} {xs : List α} {i j : Nat} {a b : α} (hi : xs[i]? = some a) (hj : xs[j]? = some b) (h : j < i) (e : f b = f a) : ¬ (xs.map f).Nodup := by
  intro hn
  have h1 : (xs.map f)[i]? = some (f a) := by rw [List.getElem?_map, hi]; rfl
  have h2 : (xs.map f)[j]? = some (f b) := by rw [List.getElem?_map, hj]; rfl
  obtain ⟨l1, e1⟩ := List.getElem?_eq_some_iff.1 h1
  obtain ⟨l2, e2⟩ := List.getElem?_eq_some_iff.1 h2
  exact List.pairwise_iff_getElem.1 hn j i l2 l1 h (by rw [e1, e2, e])
theorem all_snoc {α : Type} {p : α → Bool} {xs : List α} {i : Nat} {a : α} (h : (xs.take i).all p = true) (hi : xs[i]? = some a) (ha : p a = true) : (xs.take (i + 1)).all p = true := by
  obtain ⟨hl, rfl⟩ := List.getElem?_eq_some_iff.1 hi
  rw [List.take_succ_eq_append_getElem hl, List.all_append, h]; simpa using ha
theorem all_no {α : Type} {p : α → Bool} {xs : List α} {i : Nat} {a : α} (hi : xs[i]? = some a) (ha : p a = false) : xs.all p = false := by
  cases h : xs.all p
  · rfl
  · rw [List.all_eq_true] at h; rw [h a (List.mem_of_getElem? hi)] at ha; cases ha
theorem goodE_no2 {es : List EndV} (h : ¬ (es.map (·.dip)).Nodup) : goodE es = false := by unfold goodE; rw [decide_eq_false h, Bool.and_false, Bool.and_false]
theorem goodL_no2 {L : List CmdV} (h : ¬ (L.map idV).Nodup) : goodL L = false := by unfold goodL; rw [decide_eq_false h, Bool.and_false, Bool.and_false]
theorem goodL_no1 {L : List CmdV} (h : L.all goodC = false) : goodL L = false := by unfold goodL; rw [h, Bool.false_and, Bool.and_false]
theorem goodL_no0 {L : List CmdV} (h : 256 < L.length) : goodL L = false := by unfold goodL; rw [decide_eq_false (by omega), Bool.false_and]
theorem goodL_yes {L : List CmdV} (h : L.length ≤ 256) (h1 : L.all goodC = true) (h2 : (L.map idV).Nodup) : goodL L = true := by unfold goodL; rw [decide_eq_true h, h1, decide_eq_true h2]; rfl
theorem noneS_eq (v : CmdV) : decide (v.svip = 0 ∧ v.sproto = 0 ∧ v.sport = 0 ∧ v.ends.length = 0) = noneS v := by
  unfold noneS; rw [decide_eq_decide, List.length_eq_zero_iff]
theorem Byte0_ct (a : Int) (w : World) (h0 : 0 ≤ a) (h1 : a ≤ 4294967295) : Calls Try.prog 88 #[.int .u32 a, .int .i64 0] w fun e w' => e = .returned (.int .i64 (a / 16777216)) ∧ Fr w w' [] := by
 refine enterD (n := 13) Try.func88 rfl rfl (Nat.le_of_ble_eq_true rfl) ?_
 intro Q0 hN hret hret'
 have hC := Cx.start w
 refine WCs (fun K1 hK2 => ?_)
 refine WCg (WLr 1 [(4, .int .i64 0)] (fun _ => by kernel_rfl) (WLd rfl (QXn (hK2 _ _ ?_))))
 refine WCs (fun K3 hK4 => ?_)
 refine WCg (WLr 3 [(7, .int .i64 (IntKind.i64.wrap (8 * 0))), (6, .int .i64 0), (5, .int .u32 a)] (fun _ => by kernel_rfl) ?_)
 refine WLt (show (.int .i64 (IntKind.i64.wrap (8 * 0)) : Value) = .int .i64 0 from by rw [wrap_in_i64 _ (by omega) (by omega)]; rfl) ?_
 refine WLr 1 [(8, .int .i64 (IntKind.i64.wrap (24 - 0)))] (fun _ => by kernel_rfl) ?_
 refine WLt (show (.int .i64 (IntKind.i64.wrap (24 - 0)) : Value) = .int .i64 24 from by rw [wrap_in_i64 _ (by omega) (by omega)]; rfl) ?_
 refine WLr 1 [(9, .int .u64 (IntKind.u64.wrap (24)))] (fun _ => by kernel_rfl) ?_
 refine WLt (show (.int .u64 (IntKind.u64.wrap (24)) : Value) = .int .u64 24 from by rw [wrap_in_u64 _ (by omega) (by omega)]) ?_
 refine WLr 1 [(10, .int .u32 ((a : Int).fdiv (2 ^ 24)))] (fun _ => by kernel_rfl) ?_
 refine WLt (show (.int .u32 ((a : Int).fdiv (2 ^ 24)) : Value) = .int .u32 ((a : Int) / 16777216) from by rw [Int.fdiv_eq_ediv_of_nonneg (a : Int) (by decide)]; rfl) ?_
 refine WLr 1 [(11, .int .i64 (IntKind.i64.wrap ((a : Int) / 16777216)))] (fun _ => by kernel_rfl) ?_
 refine WLt (show (.int .i64 (IntKind.i64.wrap ((a : Int) / 16777216)) : Value) = .int .i64 ((a : Int) / 16777216) from by rw [wrap_in_i64 ((a : Int) / 16777216) (by omega) (by omega)]) ?_
 refine WLr 1 [(12, .int .i64 (Int.tmod ((a : Int) / 16777216) 256))] (fun _ => by kernel_rfl) ?_
 refine WLt (show (.int .i64 (Int.tmod ((a : Int) / 16777216) 256) : Value) = .int .i64 (a / 16777216) from by rw [Int.tmod_eq_emod_of_nonneg (by omega)]; congr 1; omega) ?_
 refine WLr 1 [(4, .int .i64 (a / 16777216))] (fun _ => by kernel_rfl) (WLd rfl (QXn (hK4 _ _ ?_)))
 refine WC.ret ?_
 refine (hret _ _ _ rfl ?_).1
 exact ⟨rfl, hC.fr⟩

theorem IsVip2_ct (a : Int) (w : World) (h0 : 0 ≤ a) (h1 : a ≤ 4294967295) : Calls Try.prog 61 #[.int .u32 a] w fun e w' => e = .returned (.bool (isVip a)) ∧ Fr w w' [] := by
 refine enterD (n := 20) Try.func61 rfl rfl (Nat.le_of_ble_eq_true rfl) ?_
 intro Q0 hN hret hret'
 have hC := Cx.start w
 refine WCs (fun K1 hK2 => ?_)
 refine WCg (WLr 1 [(2, .bool false)] (fun _ => by kernel_rfl) (WLd rfl (QXn (hK2 _ _ ?_))))
 refine WCs (fun K3 hK4 => ?_)
 refine WCg (WLr 1 [(4, .int .u32 a)] (fun _ => by kernel_rfl) ?_)
 refine WLc rfl rfl rfl rfl rfl (by kernel_rfl) (Byte0_ct a w (by omega) (by omega)) ?_
 rintro _ w6 ⟨rfl, hF5⟩
 refine ⟨_, rfl, ?_⟩
 have hC7 := hC.call hF5
 refine WLr 1 [(3, .int .i64 (a / 16777216))] (fun _ => by kernel_rfl) (WLd rfl (QXn (hK4 _ _ ?_)))
 refine WCs (fun K8 hK9 => ?_)
 refine WCg (WLr 3 [(8, .bool (decide ((a / 16777216) ≥ 1))), (7, .bool (decide ((a / 16777216) ≥ 1))), (6, .int .i64 (a / 16777216))] (fun _ => by kernel_rfl) ?_)
 refine WLa 8 (decide ((a / 16777216) ≥ 1)) rfl (fun t10b => ?_) (fun t10b => ?_)
 ·
  have t10 : (1 : Int) ≤ (a / 16777216) := by have q_ := of_decide_eq_true t10b; omega
  refine WLr 4 [(12, .bool (decide ((a / 16777216) ≤ 223))), (11, .bool (decide ((a / 16777216) ≤ 223))), (10, .bool (decide ((a / 16777216) ≤ 223))), (9, .int .i64 (a / 16777216))] (fun _ => by kernel_rfl) ?_
  refine WLa 12 (decide ((a / 16777216) ≤ 223)) rfl (fun t11b => ?_) (fun t11b => ?_)
  ·
   have t11 : (a / 16777216) ≤ 223 := by have q_ := of_decide_eq_true t11b; omega
   refine WLr 4 [(16, .bool ((a / 16777216) != 10)), (15, .bool ((a / 16777216) != 10)), (14, .bool ((a / 16777216) != 10)), (13, .int .i64 (a / 16777216))] (fun _ => by kernel_rfl) ?_
   refine WLa 16 ((a / 16777216) != 10) rfl (fun t12b => ?_) (fun t12b => ?_)
   ·
    have t12 : (a / 16777216) ≠ 10 := by simpa using t12b
    refine WLr 4 [(2, .bool ((a / 16777216) != 127)), (19, .bool ((a / 16777216) != 127)), (18, .bool ((a / 16777216) != 127)), (17, .int .i64 (a / 16777216))] (fun _ => by kernel_rfl) (WLd rfl (QXn (hK9 _ _ ?_)))
    refine WC.ret ?_
    refine (hret _ _ _ rfl ?_).1
    clear hN hret hret' hK9 hK4 hK2
    exact ⟨by simp [shut, isVip]; grind, hC7.fr⟩
   ·
    have t12 : (a / 16777216) = 10 := by simpa using t12b
    refine WLr 4 [(2, .bool false), (19, .bool false), (18, undef), (17, undef)] (fun _ => by kernel_rfl) (WLd rfl (QXn (hK9 _ _ ?_)))
    refine WC.ret ?_
    refine (hret _ _ _ rfl ?_).1
    clear hN hret hret' hK9 hK4 hK2
    exact ⟨by simp [shut, isVip]; grind, hC7.fr⟩
  ·
   have t11 : (223 : Int) < (a / 16777216) := by have q_ := of_decide_eq_false t11b; omega
   refine WLr 8 [(2, .bool false), (19, .bool false), (18, undef), (17, undef), (16, .bool false), (15, .bool false), (14, undef), (13, undef)] (fun _ => by kernel_rfl) (WLd rfl (QXn (hK9 _ _ ?_)))
   refine WC.ret ?_
   refine (hret _ _ _ rfl ?_).1
   clear hN hret hret' hK9 hK4 hK2
   exact ⟨by simp [shut, isVip]; grind, hC7.fr⟩
 ·
  have t10 : (a / 16777216) < 1 := by have q_ := of_decide_eq_false t10b; omega
  refine WLr 12 [(2, .bool false), (19, .bool false), (18, undef), (17, undef), (16, .bool false), (15, .bool false), (14, undef), (13, undef), (12, .bool false), (11, .bool false), (10, undef), (9, undef)] (fun _ => by kernel_rfl) (WLd rfl (QXn (hK9 _ _ ?_)))
  refine WC.ret ?_
  refine (hret _ _ _ rfl ?_).1
  clear hN hret hret' hK9 hK4 hK2
  exact ⟨by simp [shut, isVip]; grind, hC7.fr⟩

theorem Dip2_ct (h v : Int) (w : World) (h0 : 0 ≤ h ∧ h < 8) (v0 : 0 ≤ v ∧ v < 16) : Calls Try.prog 100 #[.int .i64 h, .int .i64 v] w fun e w' => e = .returned (.int .u32 (167837696 + 256 * h + v)) ∧ Fr w w' [] := by
 refine enterD (n := 11) Try.func100 rfl rfl (Nat.le_of_ble_eq_true rfl) ?_
 intro Q0 hN hret hret'
 have hC := Cx.start w
 refine WCs (fun K1 hK2 => ?_)
 refine WCg (WLr 1 [(4, .int .u32 0)] (fun _ => by kernel_rfl) (WLd rfl (QXn (hK2 _ _ ?_))))
 refine WCs (fun K3 hK4 => ?_)
 refine WCg (WLr 2 [(6, .int .i64 (IntKind.i64.wrap (256 * h))), (5, .int .i64 h)] (fun _ => by kernel_rfl) ?_)
 refine WLt (show (.int .i64 (IntKind.i64.wrap (256 * h)) : Value) = .int .i64 (256 * h) from by rw [wrap_in_i64 (256 * h) (by omega) (by omega)]) ?_
 refine WLr 1 [(7, .int .i64 (IntKind.i64.wrap (167837696 + (256 * h))))] (fun _ => by kernel_rfl) ?_
 refine WLt (show (.int .i64 (IntKind.i64.wrap (167837696 + (256 * h))) : Value) = .int .i64 (167837696 + (256 * h)) from by rw [wrap_in_i64 (167837696 + (256 * h)) (by omega) (by omega)]) ?_
 refine WLr 2 [(9, .int .i64 (IntKind.i64.wrap ((167837696 + (256 * h)) + v))), (8, .int .i64 v)] (fun _ => by kernel_rfl) ?_
 refine WLt (show (.int .i64 (IntKind.i64.wrap ((167837696 + (256 * h)) + v)) : Value) = .int .i64 ((167837696 + (256 * h)) + v) from by rw [wrap_in_i64 ((167837696 + (256 * h)) + v) (by omega) (by omega)]) ?_
 refine WLr 1 [(10, .int .u32 (IntKind.u32.wrap ((167837696 + (256 * h)) + v)))] (fun _ => by kernel_rfl) ?_
 refine WLt (show (.int .u32 (IntKind.u32.wrap ((167837696 + (256 * h)) + v)) : Value) = .int .u32 ((167837696 + (256 * h)) + v) from by rw [wrap_in_u32 ((167837696 + (256 * h)) + v) (by omega) (by omega)]) ?_
 refine WLr 1 [(4, .int .u32 ((167837696 + (256 * h)) + v))] (fun _ => by kernel_rfl) (WLd rfl (QXn (hK4 _ _ ?_)))
 refine WC.ret ?_
 refine (hret _ _ _ rfl ?_).1
 exact ⟨rfl, hC.fr⟩

theorem Home2_ct (a : Int) (w : World) (h0 : 0 ≤ a) (h1 : a ≤ 4294967295) : Calls Try.prog 89 #[.int .u32 a] w fun e w' => ∃ h v : Int, e = .returned (.tuple #[.int .i64 h, .int .i64 v, .bool (isHome a)]) ∧ Fr w w' [] := by
 refine enterD (n := 22) Try.func89 rfl rfl (Nat.le_of_ble_eq_true rfl) ?_
 intro Q0 hN hret hret'
 have hC := Cx.start w
 refine WCs (fun K1 hK2 => ?_)
 refine WCg (WLr 3 [(4, .bool false), (3, .int .i64 0), (2, .int .i64 0)] (fun _ => by kernel_rfl) (WLd rfl (QXn (hK2 _ _ ?_))))
 refine WCs (fun K3 hK4 => ?_)
 refine WCs (fun K5 hK6 => ?_)
 refine WCg (WLr 1 [(5, .int .i64 0)] (fun _ => by kernel_rfl) (WLd rfl (QXn (hK6 _ _ ?_))))
 refine WC.block ?_
 refine WC.loop (fun m_ E_ w_ => ∃ (h : Nat), m_ = 8 - h ∧ E_ = [(0, .int .u32 a), (5, .int .i64 (h : Int))] ∧ Cx w [] w_ [] [] ∧ (h ≤ 8 ∧ ∀ h' v' : Nat, h' < h → v' < 16 → 167837696 + 256 * (h' : Int) + (v' : Int) ≠ a)) ⟨_, _, ⟨0, rfl, rfl, hC, Nat.zero_le _, fun h' v' q => absurd q (Nat.not_lt_zero _)⟩, sub_of ⟨rfl, rfl, trivial⟩⟩ (fun m10 E_ w11 K7 hK8 hI9 => ?_)
 obtain ⟨h, rfl, rfl, hC12, hh, hno⟩ := hI9
 refine WCs (fun K13 hK14 => ?_)
 refine WCs (fun K15 hK16 => ?_)
 refine WCg (WLr 2 [(8, .bool (decide ((h : Int) < 8))), (7, .int .i64 (h : Int))] (fun _ => by kernel_rfl) (WLd rfl (QXn (hK16 _ _ ?_))))
 refine WCa 8 (decide ((h : Int) < 8)) rfl (fun t17b => ?_) (fun t17b => ?_)
 ·
  have t17 : (h : Int) < 8 := by have q_ := of_decide_eq_true t17b; omega
  refine WCt rfl ?_
  refine WC.skip ?_
  refine QXn (hK14 _ _ ?_)
  refine WCs (fun K18 hK19 => ?_)
  refine WC.block ?_
  refine WCs (fun K20 hK21 => ?_)
  refine WCg (WLr 1 [(6, .int .i64 0)] (fun _ => by kernel_rfl) (WLd rfl (QXn (hK21 _ _ ?_))))
  refine WC.block ?_
  refine WC.loop (fun m_ E_ w_ => ∃ (v : Nat), m_ = 16 - v ∧ E_ = [(0, .int .u32 a), (5, .int .i64 (h : Int)), (6, .int .i64 (v : Int)), (7, .int .i64 (h : Int)), (8, .bool true)] ∧ Cx w [] w_ [] [] ∧ (v ≤ 16 ∧ ∀ v' : Nat, v' < v → 167837696 + 256 * (h : Int) + (v' : Int) ≠ a)) ⟨_, _, ⟨0, rfl, rfl, hC12, Nat.zero_le _, fun v' q => absurd q (Nat.not_lt_zero _)⟩, sub_of ⟨rfl, rfl, rfl, rfl, rfl, trivial⟩⟩ (fun m25 E_ w26 K22 hK23 hI24 => ?_)
  obtain ⟨v, rfl, rfl, hC27, hv, hno2⟩ := hI24
  refine WCs (fun K28 hK29 => ?_)
  refine WCs (fun K30 hK31 => ?_)
  refine WCg (WLr 2 [(12, .bool (decide ((v : Int) < 16))), (11, .int .i64 (v : Int))] (fun _ => by kernel_rfl) (WLd rfl (QXn (hK31 _ _ ?_))))
  refine WCa 12 (decide ((v : Int) < 16)) rfl (fun t32b => ?_) (fun t32b => ?_)
  ·
   have t32 : (v : Int) < 16 := by have q_ := of_decide_eq_true t32b; omega
   refine WCt rfl ?_
   refine WC.skip ?_
   refine QXn (hK29 _ _ ?_)
   refine WCs (fun K33 hK34 => ?_)
   refine WC.block ?_
   refine WCs (fun K35 hK36 => ?_)
   refine WCg (WLr 2 [(16, .int .i64 (v : Int)), (15, .int .i64 (h : Int))] (fun _ => by kernel_rfl) ?_)
   refine WLc rfl rfl rfl rfl rfl (by kernel_rfl) (Dip2_ct (h : Int) (v : Int) w26 (by omega) (by omega)) ?_
   rintro _ w38 ⟨rfl, hF37⟩
   refine ⟨_, rfl, ?_⟩
   have hC39 := hC27.call hF37
   refine WLr 2 [(19, .bool ((167837696 + 256 * (h : Int) + (v : Int)) == a)), (18, .int .u32 a)] (fun _ => by kernel_rfl) (WLd rfl (QXn (hK36 _ _ ?_)))
   refine WCa 19 ((167837696 + 256 * (h : Int) + (v : Int)) == a) rfl (fun t40b => ?_) (fun t40b => ?_)
   ·
    have t40 : (167837696 + 256 * (h : Int) + (v : Int)) = a := by simpa using t40b
    refine WCt rfl ?_
    refine WCs (fun K41 hK42 => ?_)
    refine WCg (WLr 5 [(4, .bool true), (3, .int .i64 (v : Int)), (2, .int .i64 (h : Int)), (21, .int .i64 (v : Int)), (20, .int .i64 (h : Int))] (fun _ => by kernel_rfl) (WLd rfl (QXn (hK42 _ _ ?_))))
    refine WC.ret ?_
    refine QXk ?_
    refine QXr ?_
    refine QXr ?_
    refine QXk ?_
    refine QXk ?_
    refine QXr ?_
    refine QXr ?_
    refine QXk ?_
    refine QXr ?_
    refine (hret _ _ _ rfl ?_).1
    clear hN hret hret' hK42 hK36 hK34 hK31 hK29 hK21 hK19 hK16 hK14 hK6 hK4 hK2
    exact ⟨_, _, by rw [home_some (h := h) (v := v) (by omega) (by omega) (by assumption)]; rfl, hC39.fr⟩
   ·
    have t40 : ¬ ((167837696 + 256 * (h : Int) + (v : Int)) = a) := by simpa using t40b
    refine WCf rfl (WC.skip ?_)
    refine QXb ?_
    refine QXn (hK34 _ _ ?_)
    refine WCg (WLr 2 [(14, .int .i64 (IntKind.i64.wrap ((v : Int) + 1))), (13, .int .i64 (v : Int))] (fun _ => by kernel_rfl) ?_)
    refine WLt (show (.int .i64 (IntKind.i64.wrap ((v : Int) + 1)) : Value) = .int .i64 ((v : Int) + 1) from by rw [wrap_in_i64 ((v : Int) + 1) (by omega) (by omega)]) ?_
    refine WLr 1 [(6, .int .i64 ((v : Int) + 1))] (fun _ => by kernel_rfl) ?_
    refine WLd rfl ?_
    refine QXn ?_
    have hC43 := hC39.pick [] [] rfl rfl
    refine fun a_ ha_ => hK23 _ _ _ ?_ ⟨v + 1, rfl, rfl, hC43, by omega, fun v' q1 => by
     by_cases e_ : v' = v
     ·
      subst e_; assumption
     ·
      exact hno2 v' (by omega)⟩ a_ (ha_.weaken (sub_of ⟨rfl, rfl, rfl, rfl, rfl, trivial⟩))
    omega
  ·
   have t32 : (16 : Int) ≤ (v : Int) := by have q_ := of_decide_eq_false t32b; omega
   refine WCf rfl ?_
   refine WC.exit ?_
   refine QXe ?_
   refine QXe ?_
   refine QX.block_hit ?_
   refine QXb ?_
   refine QXn (hK19 _ _ ?_)
   refine WCg (WLr 2 [(10, .int .i64 (IntKind.i64.wrap ((h : Int) + 1))), (9, .int .i64 (h : Int))] (fun _ => by kernel_rfl) ?_)
   refine WLt (show (.int .i64 (IntKind.i64.wrap ((h : Int) + 1)) : Value) = .int .i64 ((h : Int) + 1) from by rw [wrap_in_i64 ((h : Int) + 1) (by omega) (by omega)]) ?_
   refine WLr 1 [(5, .int .i64 ((h : Int) + 1))] (fun _ => by kernel_rfl) ?_
   refine WLd rfl ?_
   refine QXn ?_
   have hC44 := hC27.pick [] [] rfl rfl
   refine fun a_ ha_ => hK8 _ _ _ ?_ ⟨h + 1, rfl, rfl, hC44, by omega, fun h' v' q1 q2 => by
    by_cases e_ : h' = h
    ·
     subst e_; exact hno2 v' (by omega)
    ·
     exact hno h' v' (by omega) q2⟩ a_ (ha_.weaken (sub_of ⟨rfl, rfl, trivial⟩))
   omega
 ·
  have t17 : (8 : Int) ≤ (h : Int) := by have q_ := of_decide_eq_false t17b; omega
  refine WCf rfl ?_
  refine WC.exit ?_
  refine QXe ?_
  refine QXe ?_
  refine QX.block_hit ?_
  refine QXn (hK4 _ _ ?_)
  refine WCs (fun K45 hK46 => ?_)
  refine WCg (WLr 3 [(4, .bool false), (3, .int .i64 0), (2, .int .i64 0)] (fun _ => by kernel_rfl) (WLd rfl (QXn (hK46 _ _ ?_))))
  refine WC.ret ?_
  refine (hret _ _ _ rfl ?_).1
  exact ⟨_, _, by rw [home_none (fun h' v' q1 q2 => hno h' v' (by omega) q2)]; rfl, hC12.fr⟩

theorem REnds_ct (A : Option Addr) (c : Nat) (ends : List EndV) (w : World) (hr : Rd w 3 cellsE A ends) (hwf : ∀ e ∈ ends, wfE e) (hl : ends.length ≤ 1099511627776) : Calls Try.prog 62 #[.slice A ends.length c] w fun e w' => e = .returned (.bool (goodE ends)) ∧ Fr w w' [] := by
 refine enterD (n := 77) Try.func62 rfl rfl (Nat.le_of_ble_eq_true rfl) ?_
 intro Q0 hN hret hret'
 have hC := Cx.start w
 refine WCs (fun K1 hK2 => ?_)
 refine WCg (WLr 1 [(2, .bool false)] (fun _ => by kernel_rfl) (WLd rfl (QXn (hK2 _ _ ?_))))
 refine WCs (fun K3 hK4 => ?_)
 refine WCs (fun K5 hK6 => ?_)
 refine WCg (WLr 3 [(10, .bool (decide ((ends.length : Int) > 64))), (9, .int .i64 (ends.length : Int)), (8, .slice A ends.length c)] (fun _ => by kernel_rfl) (WLd rfl (QXn (hK6 _ _ ?_))))
 refine WCa 10 (decide ((ends.length : Int) > 64)) rfl (fun t7b => ?_) (fun t7b => ?_)
 ·
  have t7 : (64 : Int) < (ends.length : Int) := by have q_ := of_decide_eq_true t7b; omega
  refine WCt rfl ?_
  refine WCs (fun K8 hK9 => ?_)
  refine WCg (WLr 1 [(2, .bool false)] (fun _ => by kernel_rfl) (WLd rfl (QXn (hK9 _ _ ?_))))
  refine WC.ret ?_
  refine QXr ?_
  refine (hret _ _ _ rfl ?_).1
  clear hN hret hret' hK9 hK6 hK4 hK2
  rw [ends_long (by omega)]
  exact ⟨rfl, hC.fr⟩
 ·
  have t7 : (ends.length : Int) ≤ 64 := by have q_ := of_decide_eq_false t7b; omega
  refine WCf rfl (WC.skip (QXn (hK4 _ _ ?_)))
  refine WCs (fun K10 hK11 => ?_)
  refine WCs (fun K12 hK13 => ?_)
  refine WCg (WLr 1 [(3, .int .i64 0)] (fun _ => by kernel_rfl) (WLd rfl (QXn (hK13 _ _ ?_))))
  refine WC.block ?_
  refine WC.loop (fun m_ E_ w_ => ∃ (i : Nat), m_ = ends.length - i ∧ E_ = [(0, .slice A ends.length c), (3, .int .i64 (i : Int))] ∧ Cx w [] w_ [] [] ∧ (i ≤ ends.length ∧ (ends.take i).all goodE1 = true ∧ ((ends.take i).map (·.dip)).Nodup)) ⟨_, _, ⟨0, rfl, rfl, hC, Nat.zero_le _, rfl, List.nodup_nil⟩, sub_of ⟨rfl, rfl, trivial⟩⟩ (fun m17 E_ w18 K14 hK15 hI16 => ?_)
  obtain ⟨i, rfl, rfl, hC19, hi, hall, hnd⟩ := hI16
  refine WCs (fun K20 hK21 => ?_)
  refine WCs (fun K22 hK23 => ?_)
  refine WCg (WLr 4 [(14, .bool (decide ((i : Int) < (ends.length : Int)))), (13, .int .i64 (ends.length : Int)), (12, .slice A ends.length c), (11, .int .i64 (i : Int))] (fun _ => by kernel_rfl) (WLd rfl (QXn (hK23 _ _ ?_))))
  refine WCa 14 (decide ((i : Int) < (ends.length : Int))) rfl (fun t24b => ?_) (fun t24b => ?_)
  ·
   have t24 : (i : Int) < (ends.length : Int) := by have q_ := of_decide_eq_true t24b; omega
   refine WCt rfl ?_
   refine WC.skip ?_
   refine QXn (hK21 _ _ ?_)
   refine WCs (fun K25 hK26 => ?_)
   refine WC.block ?_
   refine WCs (fun K27 hK28 => ?_)
   refine WCg (WLr 2 [(19, .int .i64 (i : Int)), (18, .slice A ends.length c)] (fun _ => by kernel_rfl) ?_)
   obtain ⟨e29, he30⟩ := get_some (xs := ends) (i := i) (by omega)
   obtain ⟨b31, o33, hA32, hc34⟩ := hr.at_ _ _ he30
   have hwe_e29 := hwf _ (List.mem_of_getElem? he30)
   obtain ⟨hwd0_e29, hwd1_e29⟩ := hwe_e29.dip
   refine WLi A ends.length c 20 .i64 (i : Int) b31 o33 i 3 (by kernel_rfl) hA32 (by omega) (by omega) (o33 + i * 3) (by first | (simp; done) | omega) ?_
   refine WLr 1 [(21, .pointer (some ⟨b31, o33 + i * 3, none⟩))] (fun _ => by kernel_rfl) ?_
   refine WL.load 56 (.pointer (some ⟨b31, o33 + i * 3, none⟩)) (.int .u32 e29.dip) 22 (by kernel_rfl) (run_load1 rfl (by simpa [Nat.add_assoc] using hC19.fr.cell (hc34 0 _ rfl) (by simp))) ?_
   refine WLc rfl rfl rfl rfl rfl (by kernel_rfl) (Home2_ct e29.dip w18 (by omega) (by omega)) ?_
   rintro _ w38 ⟨h35, v36, rfl, hF37⟩
   refine ⟨_, rfl, ?_⟩
   have hC39 := hC19.call hF37
   refine WLr 7 [(6, .bool (isHome e29.dip)), (5, .int .i64 v36), (4, .int .i64 h35), (26, .bool (isHome e29.dip)), (25, .int .i64 v36), (24, .int .i64 h35), (17, .tuple #[.int .i64 h35, .int .i64 v36, .bool (isHome e29.dip)])] (fun _ => by kernel_rfl) (WLd rfl (QXn (hK28 _ _ ?_)))
   refine WCs (fun K40 hK41 => ?_)
   refine WCs (fun K42 hK43 => ?_)
   refine WCg (WLr 3 [(29, .bool (!(isHome e29.dip))), (28, .bool (!(isHome e29.dip))), (27, .bool (isHome e29.dip))] (fun _ => by kernel_rfl) ?_)
   refine WLa 29 (!(isHome e29.dip)) rfl (fun t44b => ?_) (fun t44b => ?_)
   ·
    have t44 : (isHome e29.dip) = false := by first | (simpa only [Bool.not_eq_true', Bool.not_eq_false'] using t44b) | simpa using t44b
    refine WLr 31 [(60, .bool true), (59, undef), (58, undef), (57, undef), (56, undef), (55, undef), (54, undef), (53, .bool true), (52, .bool true), (51, undef), (50, undef), (49, undef), (48, undef), (47, undef), (46, undef), (45, .bool true), (44, .bool true), (43, undef), (42, undef), (41, undef), (40, undef), (39, undef), (38, undef), (37, .bool true), (36, .bool true), (35, undef), (34, undef), (33, undef), (32, undef), (31, undef), (30, undef)] (fun _ => by kernel_rfl) (WLd rfl (QXn (hK43 _ _ ?_)))
    refine WCt rfl ?_
    refine WCs (fun K45 hK46 => ?_)
    refine WCg (WLr 1 [(2, .bool false)] (fun _ => by kernel_rfl) (WLd rfl (QXn (hK46 _ _ ?_))))
    refine WC.ret ?_
    refine QXr ?_
    refine QXk ?_
    refine QXr ?_
    refine QXr ?_
    refine QXk ?_
    refine QXr ?_
    refine (hret _ _ _ rfl ?_).1
    clear hN hret hret' hK46 hK43 hK41 hK28 hK26 hK23 hK21 hK13 hK11 hK6 hK4 hK2
    rw [ends_bad1 he30 (goodE1_home (by simpa using t44))]
    exact ⟨rfl, hC39.fr⟩
   ·
    have t44 : (isHome e29.dip) = true := by first | (simpa only [Bool.not_eq_true', Bool.not_eq_false'] using t44b) | simpa using t44b
    refine WLr 2 [(31, .int .i64 (i : Int)), (30, .slice A ends.length c)] (fun _ => by kernel_rfl) ?_
    refine WLi A ends.length c 32 .i64 (i : Int) b31 o33 i 3 (by kernel_rfl) hA32 (by omega) (by omega) (o33 + i * 3) (by first | (simp; done) | omega) ?_
    refine WLr 1 [(33, .pointer (some ⟨b31, o33 + i * 3 + 1, none⟩))] (fun _ => by kernel_rfl) ?_
    refine WL.load 3 (.pointer (some ⟨b31, o33 + i * 3 + 1, none⟩)) (.int .i64 e29.port) 34 (by kernel_rfl) (run_load1 rfl (by simpa [Nat.add_assoc] using hC39.fr.cell (hc34 1 _ rfl) (by simp))) ?_
    refine WLr 3 [(37, .bool (decide (e29.port < 0))), (36, .bool (decide (e29.port < 0))), (35, .bool (decide (e29.port < 0)))] (fun _ => by kernel_rfl) ?_
    refine WLa 37 (decide (e29.port < 0)) rfl (fun t51b => ?_) (fun t51b => ?_)
    ·
     have t51 : e29.port < 0 := by have q_ := of_decide_eq_true t51b; omega
     refine WLr 23 [(60, .bool true), (59, undef), (58, undef), (57, undef), (56, undef), (55, undef), (54, undef), (53, .bool true), (52, .bool true), (51, undef), (50, undef), (49, undef), (48, undef), (47, undef), (46, undef), (45, .bool true), (44, .bool true), (43, undef), (42, undef), (41, undef), (40, undef), (39, undef), (38, undef)] (fun _ => by kernel_rfl) (WLd rfl (QXn (hK43 _ _ ?_)))
     refine WCt rfl ?_
     refine WCs (fun K52 hK53 => ?_)
     refine WCg (WLr 1 [(2, .bool false)] (fun _ => by kernel_rfl) (WLd rfl (QXn (hK53 _ _ ?_))))
     refine WC.ret ?_
     refine QXr ?_
     refine QXk ?_
     refine QXr ?_
     refine QXr ?_
     refine QXk ?_
     refine QXr ?_
     refine (hret _ _ _ rfl ?_).1
     clear hN hret hret' hK53 hK43 hK41 hK28 hK26 hK23 hK21 hK13 hK11 hK6 hK4 hK2
     rw [ends_bad1 he30 (goodE1_no (by omega))]
     exact ⟨rfl, hC39.fr⟩
    ·
     have t51 : (0 : Int) ≤ e29.port := by have q_ := of_decide_eq_false t51b; omega
     refine WLr 2 [(39, .int .i64 (i : Int)), (38, .slice A ends.length c)] (fun _ => by kernel_rfl) ?_
     refine WLi A ends.length c 40 .i64 (i : Int) b31 o33 i 3 (by kernel_rfl) hA32 (by omega) (by omega) (o33 + i * 3) (by first | (simp; done) | omega) ?_
     refine WLr 1 [(41, .pointer (some ⟨b31, o33 + i * 3 + 1, none⟩))] (fun _ => by kernel_rfl) ?_
     refine WL.load 3 (.pointer (some ⟨b31, o33 + i * 3 + 1, none⟩)) (.int .i64 e29.port) 42 (by kernel_rfl) (run_load1 rfl (by simpa [Nat.add_assoc] using hC39.fr.cell (hc34 1 _ rfl) (by simp))) ?_
     refine WLr 3 [(45, .bool (decide (e29.port > 65535))), (44, .bool (decide (e29.port > 65535))), (43, .bool (decide (e29.port > 65535)))] (fun _ => by kernel_rfl) ?_
     refine WLa 45 (decide (e29.port > 65535)) rfl (fun t58b => ?_) (fun t58b => ?_)
     ·
      have t58 : (65535 : Int) < e29.port := by have q_ := of_decide_eq_true t58b; omega
      refine WLr 15 [(60, .bool true), (59, undef), (58, undef), (57, undef), (56, undef), (55, undef), (54, undef), (53, .bool true), (52, .bool true), (51, undef), (50, undef), (49, undef), (48, undef), (47, undef), (46, undef)] (fun _ => by kernel_rfl) (WLd rfl (QXn (hK43 _ _ ?_)))
      refine WCt rfl ?_
      refine WCs (fun K59 hK60 => ?_)
      refine WCg (WLr 1 [(2, .bool false)] (fun _ => by kernel_rfl) (WLd rfl (QXn (hK60 _ _ ?_))))
      refine WC.ret ?_
      refine QXr ?_
      refine QXk ?_
      refine QXr ?_
      refine QXr ?_
      refine QXk ?_
      refine QXr ?_
      refine (hret _ _ _ rfl ?_).1
      clear hN hret hret' hK60 hK43 hK41 hK28 hK26 hK23 hK21 hK13 hK11 hK6 hK4 hK2
      rw [ends_bad1 he30 (goodE1_no (by omega))]
      exact ⟨rfl, hC39.fr⟩
     ·
      have t58 : e29.port ≤ 65535 := by have q_ := of_decide_eq_false t58b; omega
      refine WLr 2 [(47, .int .i64 (i : Int)), (46, .slice A ends.length c)] (fun _ => by kernel_rfl) ?_
      refine WLi A ends.length c 48 .i64 (i : Int) b31 o33 i 3 (by kernel_rfl) hA32 (by omega) (by omega) (o33 + i * 3) (by first | (simp; done) | omega) ?_
      refine WLr 1 [(49, .pointer (some ⟨b31, o33 + i * 3 + 2, none⟩))] (fun _ => by kernel_rfl) ?_
      refine WL.load 3 (.pointer (some ⟨b31, o33 + i * 3 + 2, none⟩)) (.int .i64 e29.weight) 50 (by kernel_rfl) (run_load1 rfl (by simpa [Nat.add_assoc] using hC39.fr.cell (hc34 2 _ rfl) (by simp))) ?_
      refine WLr 3 [(53, .bool (decide (e29.weight < 1))), (52, .bool (decide (e29.weight < 1))), (51, .bool (decide (e29.weight < 1)))] (fun _ => by kernel_rfl) ?_
      refine WLa 53 (decide (e29.weight < 1)) rfl (fun t65b => ?_) (fun t65b => ?_)
      ·
       have t65 : e29.weight < 1 := by have q_ := of_decide_eq_true t65b; omega
       refine WLr 7 [(60, .bool true), (59, undef), (58, undef), (57, undef), (56, undef), (55, undef), (54, undef)] (fun _ => by kernel_rfl) (WLd rfl (QXn (hK43 _ _ ?_)))
       refine WCt rfl ?_
       refine WCs (fun K66 hK67 => ?_)
       refine WCg (WLr 1 [(2, .bool false)] (fun _ => by kernel_rfl) (WLd rfl (QXn (hK67 _ _ ?_))))
       refine WC.ret ?_
       refine QXr ?_
       refine QXk ?_
       refine QXr ?_
       refine QXr ?_
       refine QXk ?_
       refine QXr ?_
       refine (hret _ _ _ rfl ?_).1
       clear hN hret hret' hK67 hK43 hK41 hK28 hK26 hK23 hK21 hK13 hK11 hK6 hK4 hK2
       rw [ends_bad1 he30 (goodE1_no (by omega))]
       exact ⟨rfl, hC39.fr⟩
      ·
       have t65 : (1 : Int) ≤ e29.weight := by have q_ := of_decide_eq_false t65b; omega
       refine WLr 2 [(55, .int .i64 (i : Int)), (54, .slice A ends.length c)] (fun _ => by kernel_rfl) ?_
       refine WLi A ends.length c 56 .i64 (i : Int) b31 o33 i 3 (by kernel_rfl) hA32 (by omega) (by omega) (o33 + i * 3) (by first | (simp; done) | omega) ?_
       refine WLr 1 [(57, .pointer (some ⟨b31, o33 + i * 3 + 2, none⟩))] (fun _ => by kernel_rfl) ?_
       refine WL.load 3 (.pointer (some ⟨b31, o33 + i * 3 + 2, none⟩)) (.int .i64 e29.weight) 58 (by kernel_rfl) (run_load1 rfl (by simpa [Nat.add_assoc] using hC39.fr.cell (hc34 2 _ rfl) (by simp))) ?_
       refine WLr 2 [(60, .bool (decide (e29.weight > 16))), (59, .bool (decide (e29.weight > 16)))] (fun _ => by kernel_rfl) (WLd rfl (QXn (hK43 _ _ ?_)))
       refine WCa 60 (decide (e29.weight > 16)) rfl (fun t72b => ?_) (fun t72b => ?_)
       ·
        have t72 : (16 : Int) < e29.weight := by have q_ := of_decide_eq_true t72b; omega
        refine WCt rfl ?_
        refine WCs (fun K73 hK74 => ?_)
        refine WCg (WLr 1 [(2, .bool false)] (fun _ => by kernel_rfl) (WLd rfl (QXn (hK74 _ _ ?_))))
        refine WC.ret ?_
        refine QXr ?_
        refine QXk ?_
        refine QXr ?_
        refine QXr ?_
        refine QXk ?_
        refine QXr ?_
        refine (hret _ _ _ rfl ?_).1
        clear hN hret hret' hK74 hK43 hK41 hK28 hK26 hK23 hK21 hK13 hK11 hK6 hK4 hK2
        rw [ends_bad1 he30 (goodE1_no (by omega))]
        exact ⟨rfl, hC39.fr⟩
       ·
        have t72 : e29.weight ≤ 16 := by have q_ := of_decide_eq_false t72b; omega
        refine WCf rfl (WC.skip (QXn (hK41 _ _ ?_)))
        refine WCs (fun K75 hK76 => ?_)
        refine WCg (WLr 1 [(7, .int .i64 0)] (fun _ => by kernel_rfl) (WLd rfl (QXn (hK76 _ _ ?_))))
        refine WC.block ?_
        refine WC.loop (fun m_ E_ w_ => ∃ (j : Nat), m_ = i - j ∧ E_ = [(0, .slice A ends.length c), (3, .int .i64 (i : Int)), (7, .int .i64 (j : Int))] ∧ Cx w [] w_ [] [] ∧ (j ≤ i ∧ ¬ dupK EndV.dip ends i j)) ⟨_, _, ⟨0, rfl, rfl, hC39, Nat.zero_le _, dupK_0 _ _ _⟩, sub_of ⟨rfl, rfl, rfl, trivial⟩⟩ (fun m80 E_ w81 K77 hK78 hI79 => ?_)
        obtain ⟨j, rfl, rfl, hC82, hj, hdup⟩ := hI79
        refine WCs (fun K83 hK84 => ?_)
        refine WCs (fun K85 hK86 => ?_)
        refine WCg (WLr 3 [(63, .bool (decide ((j : Int) < (i : Int)))), (62, .int .i64 (i : Int)), (61, .int .i64 (j : Int))] (fun _ => by kernel_rfl) (WLd rfl (QXn (hK86 _ _ ?_))))
        refine WCa 63 (decide ((j : Int) < (i : Int))) rfl (fun t87b => ?_) (fun t87b => ?_)
        ·
         have t87 : (j : Int) < (i : Int) := by have q_ := of_decide_eq_true t87b; omega
         refine WCt rfl ?_
         refine WC.skip ?_
         refine QXn (hK84 _ _ ?_)
         refine WCs (fun K88 hK89 => ?_)
         refine WC.block ?_
         refine WCs (fun K90 hK91 => ?_)
         refine WC.drawC hC82 [] (by kernel_rfl) (fun w92 hF93 hC94 hS95 => ?_)
         refine WDp (NPt (NPb (NPt (NPt (NPb (NPb (NPt (NPt (NPb (NPt hN)))))))))) 0 66 (.slice A ends.length c) (by kernel_rfl) (fun _ => by kernel_rfl) hS95 ?_
         refine WDp (NPt (NPb (NPt (NPt (NPb (NPb (NPt (NPt (NPb (NPt hN)))))))))) 1 67 (.int .i64 (j : Int)) (by kernel_rfl) (fun _ => by kernel_rfl) hS95 ?_
         obtain ⟨e96, he97⟩ := get_some (xs := ends) (i := j) (by omega)
         obtain ⟨b98, o100, hA99, hc101⟩ := hr.at_ _ _ he97
         have hwe_e96 := hwf _ (List.mem_of_getElem? he97)
         obtain ⟨hwd0_e96, hwd1_e96⟩ := hwe_e96.dip
         refine WDi (NPt (NPb (NPt (NPt (NPb (NPb (NPt (NPt (NPb (NPt hN)))))))))) 2 A ends.length c 68 .i64 (j : Int) b98 o100 j 3 (by kernel_rfl) (by kernel_rfl) hA99 (by omega) (by omega) (o100 + j * 3) (by first | (simp; done) | omega) hS95 ?_
         refine WDp (NPt (NPb (NPt (NPt (NPb (NPb (NPt (NPt (NPb (NPt hN)))))))))) 3 69 (.pointer (some ⟨b98, o100 + j * 3, none⟩)) (by kernel_rfl) (fun _ => by kernel_rfl) hS95 ?_
         refine WDp (NPt (NPb (NPt (NPt (NPb (NPb (NPt (NPt (NPb (NPt hN)))))))))) 5 71 (.slice A ends.length c) (by kernel_rfl) (fun _ => by kernel_rfl) hS95 ?_
         refine WDp (NPt (NPb (NPt (NPt (NPb (NPb (NPt (NPt (NPb (NPt hN)))))))))) 6 72 (.int .i64 (i : Int)) (by kernel_rfl) (fun _ => by kernel_rfl) hS95 ?_
         obtain ⟨e102, he103⟩ := get_some (xs := ends) (i := i) (by omega)
         obtain ⟨b104, o106, hA105, hc107⟩ := hr.at_ _ _ he103
         have hwe_e102 := hwf _ (List.mem_of_getElem? he103)
         obtain ⟨hwd0_e102, hwd1_e102⟩ := hwe_e102.dip
         refine WDi (NPt (NPb (NPt (NPt (NPb (NPb (NPt (NPt (NPb (NPt hN)))))))))) 7 A ends.length c 73 .i64 (i : Int) b104 o106 i 3 (by kernel_rfl) (by kernel_rfl) hA105 (by omega) (by omega) (o106 + i * 3) (by first | (simp; done) | omega) hS95 ?_
         refine WDp (NPt (NPb (NPt (NPt (NPb (NPb (NPt (NPt (NPb (NPt hN)))))))))) 8 74 (.pointer (some ⟨b104, o106 + i * 3, none⟩)) (by kernel_rfl) (fun _ => by kernel_rfl) hS95 ?_
         refine WDl (NPt (NPb (NPt (NPt (NPb (NPb (NPt (NPt (NPb (NPt hN)))))))))) 4 56 (.pointer (some ⟨b98, o100 + j * 3, none⟩)) (.int .u32 e96.dip) 70 (by kernel_rfl) (by kernel_rfl) (fun _ hS_ => run_load1 rfl (by simpa [Nat.add_assoc] using Fr.cell hS_ (hC94.fr.cell (hc101 0 _ rfl) (by simp)) (by simp))) hS95 ?_
         refine WDl (NPt (NPb (NPt (NPt (NPb (NPb (NPt (NPt (NPb (NPt hN)))))))))) 9 56 (.pointer (some ⟨b104, o106 + i * 3, none⟩)) (.int .u32 e102.dip) 75 (by kernel_rfl) (by kernel_rfl) (fun _ hS_ => run_load1 rfl (by simpa [Nat.add_assoc] using Fr.cell hS_ (hC94.fr.cell (hc107 0 _ rfl) (by simp)) (by simp))) hS95 ?_
         refine WDp (NPt (NPb (NPt (NPt (NPb (NPb (NPt (NPt (NPb (NPt hN)))))))))) 10 76 (.bool (e96.dip == e102.dip)) (by kernel_rfl) (fun _ => by kernel_rfl) hS95 ?_
         refine WD.done (by kernel_rfl) ?_
         refine QXn (hK91 _ _ ?_)
         refine WCa 76 (e96.dip == e102.dip) rfl (fun t108b => ?_) (fun t108b => ?_)
         ·
          have t108 : e96.dip = e102.dip := by simpa using t108b
          refine WCt rfl ?_
          refine WCs (fun K109 hK110 => ?_)
          refine WCg (WLr 1 [(2, .bool false)] (fun _ => by kernel_rfl) (WLd rfl (QXn (hK110 _ _ ?_))))
          refine WC.ret ?_
          refine QXk ?_
          refine QXr ?_
          refine QXr ?_
          refine QXk ?_
          refine QXk ?_
          refine QXr ?_
          refine QXr ?_
          refine QXk ?_
          refine QXr ?_
          refine (hret _ _ _ rfl ?_).1
          clear hN hret hret' hK110 hK91 hK89 hK86 hK84 hK76 hK43 hK41 hK28 hK26 hK23 hK21 hK13 hK11 hK6 hK4 hK2
          rw [goodE_no2 (dup_not (f := EndV.dip) he103 he97 (by omega) (by assumption))]
          exact ⟨rfl, hC94.fr⟩
         ·
          have t108 : ¬ (e96.dip = e102.dip) := by simpa using t108b
          refine WCf rfl (WC.skip ?_)
          refine QXb ?_
          refine QXn (hK89 _ _ ?_)
          refine WCg (WLr 2 [(65, .int .i64 (IntKind.i64.wrap ((j : Int) + 1))), (64, .int .i64 (j : Int))] (fun _ => by kernel_rfl) ?_)
          refine WLt (show (.int .i64 (IntKind.i64.wrap ((j : Int) + 1)) : Value) = .int .i64 ((j : Int) + 1) from by rw [wrap_in_i64 ((j : Int) + 1) (by omega) (by omega)]) ?_
          refine WLr 1 [(7, .int .i64 ((j : Int) + 1))] (fun _ => by kernel_rfl) ?_
          refine WLd rfl ?_
          refine QXn ?_
          have hC111 := hC94.pick [] [] rfl rfl
          refine fun a_ ha_ => hK78 _ _ _ ?_ ⟨j + 1, rfl, rfl, hC111, by omega, dupK_step hdup he103 he97 (by assumption)⟩ a_ (ha_.weaken (sub_of ⟨rfl, rfl, rfl, trivial⟩))
          omega
        ·
         have t87 : (i : Int) ≤ (j : Int) := by have q_ := of_decide_eq_false t87b; omega
         refine WCf rfl ?_
         refine WC.exit ?_
         refine QXe ?_
         refine QXe ?_
         refine QX.block_hit ?_
         refine QXb ?_
         refine QXn (hK26 _ _ ?_)
         refine WCg (WLr 2 [(16, .int .i64 (IntKind.i64.wrap ((i : Int) + 1))), (15, .int .i64 (i : Int))] (fun _ => by kernel_rfl) ?_)
         refine WLt (show (.int .i64 (IntKind.i64.wrap ((i : Int) + 1)) : Value) = .int .i64 ((i : Int) + 1) from by rw [wrap_in_i64 ((i : Int) + 1) (by omega) (by omega)]) ?_
         refine WLr 1 [(3, .int .i64 ((i : Int) + 1))] (fun _ => by kernel_rfl) ?_
         refine WLd rfl ?_
         refine QXn ?_
         have hC112 := hC82.pick [] [] rfl rfl
         refine fun a_ ha_ => hK15 _ _ _ ?_ ⟨i + 1, rfl, rfl, hC112, by omega, all_snoc hall he30 (goodE1_yes (by simpa using t44) (by omega) (by omega) (by omega) (by omega)), nodup_step hnd (by have hj_ : j = i := (by omega); subst hj_; exact hdup) he30⟩ a_ (ha_.weaken (sub_of ⟨rfl, rfl, trivial⟩))
         omega
  ·
   have t24 : (ends.length : Int) ≤ (i : Int) := by have q_ := of_decide_eq_false t24b; omega
   refine WCf rfl ?_
   refine WC.exit ?_
   refine QXe ?_
   refine QXe ?_
   refine QX.block_hit ?_
   refine QXn (hK11 _ _ ?_)
   refine WCs (fun K113 hK114 => ?_)
   refine WCg (WLr 1 [(2, .bool true)] (fun _ => by kernel_rfl) (WLd rfl (QXn (hK114 _ _ ?_))))
   refine WC.ret ?_
   refine (hret _ _ _ rfl ?_).1
   clear hN hret hret' hK114 hK23 hK21 hK13 hK11 hK6 hK4 hK2
   have hie_ : i = ends.length := by omega
   rw [List.take_of_length_le (by omega)] at hall hnd
   rw [ends_good (by omega) hall hnd]
   exact ⟨rfl, hC19.fr⟩

theorem REnds_n (A : Option Addr) (n c : Nat) (ends : List EndV) (w : World) (hr : Rd w 3 cellsE A ends) (hn : ends.length = n) (hwf : ∀ e ∈ ends, wfE e) (hl : n ≤ 1099511627776) : Calls Try.prog 62 #[.slice A n c] w fun e w' => e = .returned (.bool (goodE ends)) ∧ Fr w w' [] := by subst hn; exact REnds_ct A c ends w hr hwf hl
theorem RMan_ct (n : Int) (w : World) : Calls Try.prog 35 #[.int .i64 n] w fun e w' => e = .returned (.bool (mgrB n)) ∧ Fr w w' [] := by
 refine enterD (n := 9) Try.func35 rfl rfl (Nat.le_of_ble_eq_true rfl) ?_
 intro Q0 hN hret hret'
 have hC := Cx.start w
 refine WCs (fun K1 hK2 => ?_)
 refine WCg (WLr 1 [(2, .bool false)] (fun _ => by kernel_rfl) (WLd rfl (QXn (hK2 _ _ ?_))))
 refine WCs (fun K3 hK4 => ?_)
 refine WCg (WLr 3 [(5, .bool (decide (n ≥ 16))), (4, .bool (decide (n ≥ 16))), (3, .int .i64 n)] (fun _ => by kernel_rfl) ?_)
 refine WLa 5 (decide (n ≥ 16)) rfl (fun t5b => ?_) (fun t5b => ?_)
 ·
  have t5 : (16 : Int) ≤ n := by have q_ := of_decide_eq_true t5b; omega
  refine WLr 4 [(2, .bool (decide (n ≤ 23))), (8, .bool (decide (n ≤ 23))), (7, .bool (decide (n ≤ 23))), (6, .int .i64 n)] (fun _ => by kernel_rfl) (WLd rfl (QXn (hK4 _ _ ?_)))
  refine WC.ret ?_
  refine (hret _ _ _ rfl ?_).1
  clear hN hret hret' hK4 hK2
  have hg_ : ((decide (n ≤ 23)) : Bool) = mgrB n := by unfold mgrB; first | rfl | (rw [Bool.eq_iff_iff]; simp; omega) | (simp; omega)
  exact ⟨congrArg (fun b_ => Ending.returned (Value.bool b_)) hg_, hC.fr⟩
 ·
  have t5 : n < 16 := by have q_ := of_decide_eq_false t5b; omega
  refine WLr 4 [(2, .bool false), (8, .bool false), (7, undef), (6, undef)] (fun _ => by kernel_rfl) (WLd rfl (QXn (hK4 _ _ ?_)))
  refine WC.ret ?_
  refine (hret _ _ _ rfl ?_).1
  clear hN hret hret' hK4 hK2
  have hg_ : (false : Bool) = mgrB n := by unfold mgrB; first | rfl | (rw [Bool.eq_iff_iff]; simp; omega) | (simp; omega)
  exact ⟨congrArg (fun b_ => Ending.returned (Value.bool b_)) hg_, hC.fr⟩

theorem RTime_ct (n : Int) (w : World) : Calls Try.prog 60 #[.int .i64 n] w fun e w' => e = .returned (.bool (timB n)) ∧ Fr w w' [] := by
 refine enterD (n := 9) Try.func60 rfl rfl (Nat.le_of_ble_eq_true rfl) ?_
 intro Q0 hN hret hret'
 have hC := Cx.start w
 refine WCs (fun K1 hK2 => ?_)
 refine WCg (WLr 1 [(2, .bool false)] (fun _ => by kernel_rfl) (WLd rfl (QXn (hK2 _ _ ?_))))
 refine WCs (fun K3 hK4 => ?_)
 refine WCg (WLr 3 [(5, .bool (decide (n ≥ 0))), (4, .bool (decide (n ≥ 0))), (3, .int .i64 n)] (fun _ => by kernel_rfl) ?_)
 refine WLa 5 (decide (n ≥ 0)) rfl (fun t5b => ?_) (fun t5b => ?_)
 ·
  have t5 : (0 : Int) ≤ n := by have q_ := of_decide_eq_true t5b; omega
  refine WLr 4 [(2, .bool (decide (n ≤ 1099511627776))), (8, .bool (decide (n ≤ 1099511627776))), (7, .bool (decide (n ≤ 1099511627776))), (6, .int .i64 n)] (fun _ => by kernel_rfl) (WLd rfl (QXn (hK4 _ _ ?_)))
  refine WC.ret ?_
  refine (hret _ _ _ rfl ?_).1
  clear hN hret hret' hK4 hK2
  have hg_ : ((decide (n ≤ 1099511627776)) : Bool) = timB n := by unfold timB; first | rfl | (rw [Bool.eq_iff_iff]; simp; omega) | (simp; omega)
  exact ⟨congrArg (fun b_ => Ending.returned (Value.bool b_)) hg_, hC.fr⟩
 ·
  have t5 : n < 0 := by have q_ := of_decide_eq_false t5b; omega
  refine WLr 4 [(2, .bool false), (8, .bool false), (7, undef), (6, undef)] (fun _ => by kernel_rfl) (WLd rfl (QXn (hK4 _ _ ?_)))
  refine WC.ret ?_
  refine (hret _ _ _ rfl ?_).1
  clear hN hret hret' hK4 hK2
  have hg_ : (false : Bool) = timB n := by unfold timB; first | rfl | (rw [Bool.eq_iff_iff]; simp; omega) | (simp; omega)
  exact ⟨congrArg (fun b_ => Ending.returned (Value.bool b_)) hg_, hC.fr⟩

theorem RMach_ct (a : Int) (w : World) (h0 : 0 ≤ a) (h1 : a ≤ 4294967295) : Calls Try.prog 64 #[.int .u32 a] w fun e w' => e = .returned (.bool (isHome a)) ∧ Fr w w' [] := by
 refine enterD (n := 13) Try.func64 rfl rfl (Nat.le_of_ble_eq_true rfl) ?_
 intro Q0 hN hret hret'
 have hC := Cx.start w
 refine WCs (fun K1 hK2 => ?_)
 refine WCg (WLr 1 [(2, .bool false)] (fun _ => by kernel_rfl) (WLd rfl (QXn (hK2 _ _ ?_))))
 refine WCs (fun K3 hK4 => ?_)
 refine WCg (WLr 1 [(7, .int .u32 a)] (fun _ => by kernel_rfl) ?_)
 refine WLc rfl rfl rfl rfl rfl (by kernel_rfl) (Home2_ct a w (by omega) (by omega)) ?_
 rintro _ w8 ⟨h5, v6, rfl, hF7⟩
 refine ⟨_, rfl, ?_⟩
 have hC9 := hC.call hF7
 refine WLr 7 [(5, .bool (isHome a)), (4, .int .i64 v6), (3, .int .i64 h5), (11, .bool (isHome a)), (10, .int .i64 v6), (9, .int .i64 h5), (6, .tuple #[.int .i64 h5, .int .i64 v6, .bool (isHome a)])] (fun _ => by kernel_rfl) (WLd rfl (QXn (hK4 _ _ ?_)))
 refine WCs (fun K10 hK11 => ?_)
 refine WCg (WLr 2 [(2, .bool (isHome a)), (12, .bool (isHome a))] (fun _ => by kernel_rfl) (WLd rfl (QXn (hK11 _ _ ?_))))
 refine WC.ret ?_
 refine (hret _ _ _ rfl ?_).1
 exact ⟨rfl, hC9.fr⟩

theorem RNone_ct (a b d : Int) (A : Option Addr) (n c : Nat) (w : World) : Calls Try.prog 63 #[.agg #[.int .u32 a, .int .i64 b, .int .i64 d, .slice A n c]] w fun e w' => e = .returned (.bool (decide (a = 0 ∧ b = 0 ∧ d = 0 ∧ n = 0))) ∧ Fr w w' [] := by
 refine enterD (n := 22) Try.func63 rfl rfl (Nat.le_of_ble_eq_true rfl) ?_
 intro Q0 hN hret hret'
 have hC := Cx.start w
 refine WCs (fun K1 hK2 => ?_)
 refine WCg ?_
 refine WL.newM hC (fun b => .pointer (some ⟨b, 0, none⟩)) (.cells #[.int .u32 a, .int .i64 b, .int .i64 d, .slice A n c] 59) 1 (fun _ => by kernel_rfl) (fun g3 w4 hb7 hF5 hC6 => ?_)
 refine WLr 1 [(2, .bool false)] (fun _ => by kernel_rfl) (WLd rfl (QXn (hK2 _ _ ?_)))
 refine WCs (fun K8 hK9 => ?_)
 refine WCg (WLr 1 [(3, .pointer (some ⟨g3, 0, none⟩))] (fun _ => by kernel_rfl) ?_)
 refine WL.load 56 (.pointer (some ⟨g3, 0, none⟩)) (.int .u32 a) 4 (by kernel_rfl) (run_ld (hC6.get 0 rfl) rfl) ?_
 refine WLr 2 [(6, .bool (a == 0)), (5, .bool (a == 0))] (fun _ => by kernel_rfl) ?_
 refine WLa 6 (a == 0) rfl (fun t10b => ?_) (fun t10b => ?_)
 ·
  have t10 : a = 0 := by simpa using t10b
  refine WLr 1 [(7, .pointer (some ⟨g3, 1, none⟩))] (fun _ => by kernel_rfl) ?_
  refine WL.load 3 (.pointer (some ⟨g3, 1, none⟩)) (.int .i64 b) 8 (by kernel_rfl) (run_ld (hC6.get 0 rfl) rfl) ?_
  refine WLr 3 [(11, .bool (b == 0)), (10, .bool (b == 0)), (9, .bool (b == 0))] (fun _ => by kernel_rfl) ?_
  refine WLa 11 (b == 0) rfl (fun t11b => ?_) (fun t11b => ?_)
  ·
   have t11 : b = 0 := by simpa using t11b
   refine WLr 1 [(12, .pointer (some ⟨g3, 2, none⟩))] (fun _ => by kernel_rfl) ?_
   refine WL.load 3 (.pointer (some ⟨g3, 2, none⟩)) (.int .i64 d) 13 (by kernel_rfl) (run_ld (hC6.get 0 rfl) rfl) ?_
   refine WLr 3 [(16, .bool (d == 0)), (15, .bool (d == 0)), (14, .bool (d == 0))] (fun _ => by kernel_rfl) ?_
   refine WLa 16 (d == 0) rfl (fun t12b => ?_) (fun t12b => ?_)
   ·
    have t12 : d = 0 := by simpa using t12b
    refine WLr 1 [(17, .pointer (some ⟨g3, 3, none⟩))] (fun _ => by kernel_rfl) ?_
    refine WL.load 57 (.pointer (some ⟨g3, 3, none⟩)) (.slice A n c) 18 (by kernel_rfl) (run_ld (hC6.get 0 rfl) rfl) ?_
    refine WLr 4 [(2, .bool ((n : Int) == 0)), (21, .bool ((n : Int) == 0)), (20, .bool ((n : Int) == 0)), (19, .int .i64 (n : Int))] (fun _ => by kernel_rfl) (WLd rfl (QXn (hK9 _ _ ?_)))
    refine WC.ret ?_
    refine (hret _ _ _ rfl ?_).1
    clear hN hret hret' hK9 hK2
    have hg_ : (((n : Int) == 0) : Bool) = decide (a = 0 ∧ b = 0 ∧ d = 0 ∧ n = 0) := by first | rfl | (rw [Bool.eq_iff_iff]; simp_all; done) | (rw [Bool.eq_iff_iff]; simp_all; omega) | (simp_all; omega)
    exact ⟨congrArg (fun b_ => Ending.returned (Value.bool b_)) hg_, hC6.fr⟩
   ·
    have t12 : ¬ (d = 0) := by simpa using t12b
    refine WLr 6 [(2, .bool false), (21, .bool false), (20, undef), (19, undef), (18, undef), (17, undef)] (fun _ => by kernel_rfl) (WLd rfl (QXn (hK9 _ _ ?_)))
    refine WC.ret ?_
    refine (hret _ _ _ rfl ?_).1
    clear hN hret hret' hK9 hK2
    have hg_ : (false : Bool) = decide (a = 0 ∧ b = 0 ∧ d = 0 ∧ n = 0) := by first | rfl | (rw [Bool.eq_iff_iff]; simp_all; done) | (rw [Bool.eq_iff_iff]; simp_all; omega) | (simp_all; omega)
    exact ⟨congrArg (fun b_ => Ending.returned (Value.bool b_)) hg_, hC6.fr⟩
  ·
   have t11 : ¬ (b = 0) := by simpa using t11b
   refine WLr 11 [(2, .bool false), (21, .bool false), (20, undef), (19, undef), (18, undef), (17, undef), (16, .bool false), (15, .bool false), (14, undef), (13, undef), (12, undef)] (fun _ => by kernel_rfl) (WLd rfl (QXn (hK9 _ _ ?_)))
   refine WC.ret ?_
   refine (hret _ _ _ rfl ?_).1
   clear hN hret hret' hK9 hK2
   have hg_ : (false : Bool) = decide (a = 0 ∧ b = 0 ∧ d = 0 ∧ n = 0) := by first | rfl | (rw [Bool.eq_iff_iff]; simp_all; done) | (rw [Bool.eq_iff_iff]; simp_all; omega) | (simp_all; omega)
   exact ⟨congrArg (fun b_ => Ending.returned (Value.bool b_)) hg_, hC6.fr⟩
 ·
  have t10 : ¬ (a = 0) := by simpa using t10b
  refine WLr 16 [(2, .bool false), (21, .bool false), (20, undef), (19, undef), (18, undef), (17, undef), (16, .bool false), (15, .bool false), (14, undef), (13, undef), (12, undef), (11, .bool false), (10, .bool false), (9, undef), (8, undef), (7, undef)] (fun _ => by kernel_rfl) (WLd rfl (QXn (hK9 _ _ ?_)))
  refine WC.ret ?_
  refine (hret _ _ _ rfl ?_).1
  clear hN hret hret' hK9 hK2
  have hg_ : (false : Bool) = decide (a = 0 ∧ b = 0 ∧ d = 0 ∧ n = 0) := by first | rfl | (rw [Bool.eq_iff_iff]; simp_all; done) | (rw [Bool.eq_iff_iff]; simp_all; omega) | (simp_all; omega)
  exact ⟨congrArg (fun b_ => Ending.returned (Value.bool b_)) hg_, hC6.fr⟩

set_option maxHeartbeats 4000000 in
theorem RGood_ct (c : Cmd) (w : World) (h : cmdAt w c) : Calls Try.prog 31 #[.agg #[.int .i64 c.v.node, .int .i64 c.v.boot, .int .i64 c.v.seq, .int .i64 c.v.time, .int .i64 c.v.kind, .int .u32 c.v.svip, .int .i64 c.v.sproto, .int .i64 c.v.sport, .slice c.a c.v.ends.length c.c, .int .u32 c.v.dip, .int .u32 c.v.vip, .bool c.v.up]] w fun e w' => e = .returned (.bool (goodC c.v)) ∧ Fr w w' [] := by
 refine enterD (n := 136) Try.func31 rfl rfl (Nat.le_of_ble_eq_true rfl) ?_
 intro Q0 hN hret hret'
 have hC := Cx.start w
 refine WCs (fun K1 hK2 => ?_)
 refine WCg ?_
 refine WL.newM hC (fun b => .pointer (some ⟨b, 0, none⟩)) (.cells #[.int .i64 c.v.node, .int .i64 c.v.boot, .int .i64 c.v.seq, .int .i64 c.v.time, .int .i64 c.v.kind, .int .u32 c.v.svip, .int .i64 c.v.sproto, .int .i64 c.v.sport, .slice c.a c.v.ends.length c.c, .int .u32 c.v.dip, .int .u32 c.v.vip, .bool c.v.up] 61) 1 (fun _ => by kernel_rfl) (fun g3 w4 hb7 hF5 hC6 => ?_)
 refine WLr 1 [(2, .bool false)] (fun _ => by kernel_rfl) (WLd rfl (QXn (hK2 _ _ ?_)))
 refine WCs (fun K8 hK9 => ?_)
 refine WCs (fun K10 hK11 => ?_)
 refine WCg (WLr 1 [(4, .pointer (some ⟨g3, 0, none⟩))] (fun _ => by kernel_rfl) ?_)
 refine WL.load 3 (.pointer (some ⟨g3, 0, none⟩)) (.int .i64 c.v.node) 5 (by kernel_rfl) (run_ld (hC6.get 0 rfl) rfl) ?_
 refine WLc rfl rfl rfl rfl rfl (by kernel_rfl) (RMan_ct c.v.node w4) ?_
 rintro _ w13 ⟨rfl, hF12⟩
 refine ⟨_, rfl, ?_⟩
 have hC14 := hC6.call hF12
 refine WLr 2 [(8, .bool (!(mgrB c.v.node))), (7, .bool (!(mgrB c.v.node)))] (fun _ => by kernel_rfl) ?_
 refine WLa 8 (!(mgrB c.v.node)) rfl (fun t15b => ?_) (fun t15b => ?_)
 ·
  have t15 : (mgrB c.v.node) = false := by first | (simpa only [Bool.not_eq_true', Bool.not_eq_false'] using t15b) | simpa using t15b
  refine WLr 17 [(25, .bool true), (24, undef), (23, undef), (22, undef), (21, undef), (20, .bool true), (19, .bool true), (18, undef), (17, undef), (16, undef), (15, undef), (14, .bool true), (13, .bool true), (12, undef), (11, undef), (10, undef), (9, undef)] (fun _ => by kernel_rfl) (WLd rfl (QXn (hK11 _ _ ?_)))
  refine WCt rfl ?_
  refine WCs (fun K16 hK17 => ?_)
  refine WCg (WLr 1 [(2, .bool false)] (fun _ => by kernel_rfl) (WLd rfl (QXn (hK17 _ _ ?_))))
  refine WC.ret ?_
  refine QXr ?_
  refine (hret _ _ _ rfl ?_).1
  clear hN hret hret' hK17 hK11 hK9 hK2
  have hg_ : (false : Bool) = goodC c.v := by
   rw [Bool.eq_iff_iff]
   (try simp only [noneS_eq] at *)
   unfold goodC goodK
   first | (simp_all; done) | (simp_all <;> omega)
  exact ⟨congrArg (fun b_ => Ending.returned (Value.bool b_)) hg_, hC14.fr⟩
 ·
  have t15 : (mgrB c.v.node) = true := by first | (simpa only [Bool.not_eq_true', Bool.not_eq_false'] using t15b) | simpa using t15b
  refine WLr 1 [(9, .pointer (some ⟨g3, 1, none⟩))] (fun _ => by kernel_rfl) ?_
  refine WL.load 3 (.pointer (some ⟨g3, 1, none⟩)) (.int .i64 c.v.boot) 10 (by kernel_rfl) (run_ld (hC14.get 0 rfl) rfl) ?_
  refine WLc rfl rfl rfl rfl rfl (by kernel_rfl) (RTime_ct c.v.boot w13) ?_
  rintro _ w19 ⟨rfl, hF18⟩
  refine ⟨_, rfl, ?_⟩
  have hC20 := hC14.call hF18
  refine WLr 3 [(14, .bool (!(timB c.v.boot))), (13, .bool (!(timB c.v.boot))), (12, .bool (!(timB c.v.boot)))] (fun _ => by kernel_rfl) ?_
  refine WLa 14 (!(timB c.v.boot)) rfl (fun t21b => ?_) (fun t21b => ?_)
  ·
   have t21 : (timB c.v.boot) = false := by first | (simpa only [Bool.not_eq_true', Bool.not_eq_false'] using t21b) | simpa using t21b
   refine WLr 11 [(25, .bool true), (24, undef), (23, undef), (22, undef), (21, undef), (20, .bool true), (19, .bool true), (18, undef), (17, undef), (16, undef), (15, undef)] (fun _ => by kernel_rfl) (WLd rfl (QXn (hK11 _ _ ?_)))
   refine WCt rfl ?_
   refine WCs (fun K22 hK23 => ?_)
   refine WCg (WLr 1 [(2, .bool false)] (fun _ => by kernel_rfl) (WLd rfl (QXn (hK23 _ _ ?_))))
   refine WC.ret ?_
   refine QXr ?_
   refine (hret _ _ _ rfl ?_).1
   clear hN hret hret' hK23 hK11 hK9 hK2
   have hg_ : (false : Bool) = goodC c.v := by
    rw [Bool.eq_iff_iff]
    (try simp only [noneS_eq] at *)
    unfold goodC goodK
    first | (simp_all; done) | (simp_all <;> omega)
   exact ⟨congrArg (fun b_ => Ending.returned (Value.bool b_)) hg_, hC20.fr⟩
  ·
   have t21 : (timB c.v.boot) = true := by first | (simpa only [Bool.not_eq_true', Bool.not_eq_false'] using t21b) | simpa using t21b
   refine WLr 1 [(15, .pointer (some ⟨g3, 2, none⟩))] (fun _ => by kernel_rfl) ?_
   refine WL.load 3 (.pointer (some ⟨g3, 2, none⟩)) (.int .i64 c.v.seq) 16 (by kernel_rfl) (run_ld (hC20.get 0 rfl) rfl) ?_
   refine WLc rfl rfl rfl rfl rfl (by kernel_rfl) (RTime_ct c.v.seq w19) ?_
   rintro _ w25 ⟨rfl, hF24⟩
   refine ⟨_, rfl, ?_⟩
   have hC26 := hC20.call hF24
   refine WLr 3 [(20, .bool (!(timB c.v.seq))), (19, .bool (!(timB c.v.seq))), (18, .bool (!(timB c.v.seq)))] (fun _ => by kernel_rfl) ?_
   refine WLa 20 (!(timB c.v.seq)) rfl (fun t27b => ?_) (fun t27b => ?_)
   ·
    have t27 : (timB c.v.seq) = false := by first | (simpa only [Bool.not_eq_true', Bool.not_eq_false'] using t27b) | simpa using t27b
    refine WLr 5 [(25, .bool true), (24, undef), (23, undef), (22, undef), (21, undef)] (fun _ => by kernel_rfl) (WLd rfl (QXn (hK11 _ _ ?_)))
    refine WCt rfl ?_
    refine WCs (fun K28 hK29 => ?_)
    refine WCg (WLr 1 [(2, .bool false)] (fun _ => by kernel_rfl) (WLd rfl (QXn (hK29 _ _ ?_))))
    refine WC.ret ?_
    refine QXr ?_
    refine (hret _ _ _ rfl ?_).1
    clear hN hret hret' hK29 hK11 hK9 hK2
    have hg_ : (false : Bool) = goodC c.v := by
     rw [Bool.eq_iff_iff]
     (try simp only [noneS_eq] at *)
     unfold goodC goodK
     first | (simp_all; done) | (simp_all <;> omega)
    exact ⟨congrArg (fun b_ => Ending.returned (Value.bool b_)) hg_, hC26.fr⟩
   ·
    have t27 : (timB c.v.seq) = true := by first | (simpa only [Bool.not_eq_true', Bool.not_eq_false'] using t27b) | simpa using t27b
    refine WLr 1 [(21, .pointer (some ⟨g3, 3, none⟩))] (fun _ => by kernel_rfl) ?_
    refine WL.load 3 (.pointer (some ⟨g3, 3, none⟩)) (.int .i64 c.v.time) 22 (by kernel_rfl) (run_ld (hC26.get 0 rfl) rfl) ?_
    refine WLc rfl rfl rfl rfl rfl (by kernel_rfl) (RTime_ct c.v.time w25) ?_
    rintro _ w31 ⟨rfl, hF30⟩
    refine ⟨_, rfl, ?_⟩
    have hC32 := hC26.call hF30
    refine WLr 2 [(25, .bool (!(timB c.v.time))), (24, .bool (!(timB c.v.time)))] (fun _ => by kernel_rfl) (WLd rfl (QXn (hK11 _ _ ?_)))
    refine WCa 25 (!(timB c.v.time)) rfl (fun t33b => ?_) (fun t33b => ?_)
    ·
     have t33 : (timB c.v.time) = false := by first | (simpa only [Bool.not_eq_true', Bool.not_eq_false'] using t33b) | simpa using t33b
     refine WCt rfl ?_
     refine WCs (fun K34 hK35 => ?_)
     refine WCg (WLr 1 [(2, .bool false)] (fun _ => by kernel_rfl) (WLd rfl (QXn (hK35 _ _ ?_))))
     refine WC.ret ?_
     refine QXr ?_
     refine (hret _ _ _ rfl ?_).1
     clear hN hret hret' hK35 hK11 hK9 hK2
     have hg_ : (false : Bool) = goodC c.v := by
      rw [Bool.eq_iff_iff]
      (try simp only [noneS_eq] at *)
      unfold goodC goodK
      first | (simp_all; done) | (simp_all <;> omega)
     exact ⟨congrArg (fun b_ => Ending.returned (Value.bool b_)) hg_, hC32.fr⟩
    ·
     have t33 : (timB c.v.time) = true := by first | (simpa only [Bool.not_eq_true', Bool.not_eq_false'] using t33b) | simpa using t33b
     refine WCf rfl (WC.skip (QXn (hK9 _ _ ?_)))
     refine WCs (fun K36 hK37 => ?_)
     refine WCg (WLr 1 [(26, .pointer (some ⟨g3, 5, none⟩))] (fun _ => by kernel_rfl) ?_)
     refine WL.load 59 (.pointer (some ⟨g3, 5, none⟩)) (.agg #[.int .u32 c.v.svip, .int .i64 c.v.sproto, .int .i64 c.v.sport, .slice c.a c.v.ends.length c.c]) 27 (by kernel_rfl) (run_ld (hC32.get 0 rfl) rfl) ?_
     refine WL.newM hC32 (fun b => .pointer (some ⟨b, 0, none⟩)) (.cells #[.int .u32 0, .int .i64 0, .int .i64 0, .slice none 0 0] 59) 3 (fun _ => by kernel_rfl) (fun g38 w39 hb42 hF40 hC41 => ?_)
     refine WLs (c' := #[.int .u32 c.v.svip, .int .i64 c.v.sproto, .int .i64 c.v.sport, .slice c.a c.v.ends.length c.c]) hC41 1 59 g38 0 (.agg #[.int .u32 c.v.svip, .int .i64 c.v.sproto, .int .i64 c.v.sport, .slice c.a c.v.ends.length c.c]) (by kernel_rfl) rfl (by kernel_rfl) (fun w43 hF45 hC46 => ?_)
     refine WLd rfl (QXn (hK37 _ _ ?_))
     refine WCs (fun K47 hK48 => ?_)
     refine WCs (fun K49 hK50 => ?_)
     refine WCg (WLr 1 [(28, .pointer (some ⟨g3, 4, none⟩))] (fun _ => by kernel_rfl) ?_)
     refine WL.load 3 (.pointer (some ⟨g3, 4, none⟩)) (.int .i64 c.v.kind) 29 (by kernel_rfl) (run_ld (hC46.get 0 rfl) rfl) ?_
     refine WLd rfl (QXn (hK50 _ _ ?_))
     refine WC.block ?_
     refine WCs (fun K51 hK52 => ?_)
     refine WCg (WLr 2 [(30, .bool (c.v.kind == 1)), (31, .bool (c.v.kind == 1))] (fun _ => by kernel_rfl) (WLd rfl (QXn (hK52 _ _ ?_))))
     refine WCa 30 (c.v.kind == 1) rfl (fun t53b => ?_) (fun t53b => ?_)
     ·
      have t53 : c.v.kind = 1 := by simpa using t53b
      refine WCt rfl ?_
      refine WCs (fun K54 hK55 => ?_)
      refine WCg (WLr 1 [(32, .pointer (some ⟨g38, 0, none⟩))] (fun _ => by kernel_rfl) ?_)
      refine WL.load 56 (.pointer (some ⟨g38, 0, none⟩)) (.int .u32 c.v.svip) 33 (by kernel_rfl) (run_ld (hC46.get 1 rfl) rfl) ?_
      refine WLc rfl rfl rfl rfl rfl (by kernel_rfl) (IsVip2_ct c.v.svip w43 h.wf.svip.1 h.wf.svip.2) ?_
      rintro _ w57 ⟨rfl, hF56⟩
      refine ⟨_, rfl, ?_⟩
      have hC58 := hC46.call hF56
      refine WLr 1 [(35, .bool (isVip c.v.svip))] (fun _ => by kernel_rfl) ?_
      refine WLa 35 (isVip c.v.svip) rfl (fun t59b => ?_) (fun t59b => ?_)
      ·
       refine WLr 1 [(36, .pointer (some ⟨g38, 1, none⟩))] (fun _ => by kernel_rfl) ?_
       refine WL.load 3 (.pointer (some ⟨g38, 1, none⟩)) (.int .i64 c.v.sproto) 37 (by kernel_rfl) (run_ld (hC58.get 1 rfl) rfl) ?_
       refine WLr 2 [(39, .bool (c.v.sproto == 6)), (38, .bool (c.v.sproto == 6))] (fun _ => by kernel_rfl) ?_
       refine WLa 39 (c.v.sproto == 6) rfl (fun t60b => ?_) (fun t60b => ?_)
       ·
        have t60 : c.v.sproto = 6 := by simpa using t60b
        refine WLr 7 [(46, .pointer (some ⟨g38, 2, none⟩)), (45, .bool true), (44, .bool true), (43, .bool true), (42, undef), (41, undef), (40, undef)] (fun _ => by kernel_rfl) ?_
        refine WL.load 3 (.pointer (some ⟨g38, 2, none⟩)) (.int .i64 c.v.sport) 47 (by kernel_rfl) (run_ld (hC58.get 1 rfl) rfl) ?_
        refine WLr 3 [(50, .bool (decide (c.v.sport ≥ 1))), (49, .bool (decide (c.v.sport ≥ 1))), (48, .bool (decide (c.v.sport ≥ 1)))] (fun _ => by kernel_rfl) ?_
        refine WLa 50 (decide (c.v.sport ≥ 1)) rfl (fun t61b => ?_) (fun t61b => ?_)
        ·
         have t61 : (1 : Int) ≤ c.v.sport := by have q_ := of_decide_eq_true t61b; omega
         refine WLr 1 [(51, .pointer (some ⟨g38, 2, none⟩))] (fun _ => by kernel_rfl) ?_
         refine WL.load 3 (.pointer (some ⟨g38, 2, none⟩)) (.int .i64 c.v.sport) 52 (by kernel_rfl) (run_ld (hC58.get 1 rfl) rfl) ?_
         refine WLr 3 [(55, .bool (decide (c.v.sport ≤ 1023))), (54, .bool (decide (c.v.sport ≤ 1023))), (53, .bool (decide (c.v.sport ≤ 1023)))] (fun _ => by kernel_rfl) ?_
         refine WLa 55 (decide (c.v.sport ≤ 1023)) rfl (fun t62b => ?_) (fun t62b => ?_)
         ·
          have t62 : c.v.sport ≤ 1023 := by have q_ := of_decide_eq_true t62b; omega
          refine WLr 1 [(56, .pointer (some ⟨g38, 3, none⟩))] (fun _ => by kernel_rfl) ?_
          refine WL.load 57 (.pointer (some ⟨g38, 3, none⟩)) (.slice c.a c.v.ends.length c.c) 57 (by kernel_rfl) (run_ld (hC58.get 1 rfl) rfl) ?_
          refine WLc rfl rfl rfl rfl rfl (by kernel_rfl) (REnds_n c.a c.v.ends.length c.c c.v.ends w57 (Rd.fr h.rd hC58.fr) rfl h.wf.ends h.lim) ?_
          rintro _ w64 ⟨rfl, hF63⟩
          refine ⟨_, rfl, ?_⟩
          have hC65 := hC58.call hF63
          refine WLr 2 [(60, .bool (goodE c.v.ends)), (59, .bool (goodE c.v.ends))] (fun _ => by kernel_rfl) ?_
          refine WLa 60 (goodE c.v.ends) rfl (fun t66b => ?_) (fun t66b => ?_)
          ·
           refine WLr 1 [(61, .pointer (some ⟨g3, 9, none⟩))] (fun _ => by kernel_rfl) ?_
           refine WL.load 56 (.pointer (some ⟨g3, 9, none⟩)) (.int .u32 c.v.dip) 62 (by kernel_rfl) (run_ld (hC65.get 0 rfl) rfl) ?_
           refine WLr 3 [(65, .bool (c.v.dip == 0)), (64, .bool (c.v.dip == 0)), (63, .bool (c.v.dip == 0))] (fun _ => by kernel_rfl) ?_
           refine WLa 65 (c.v.dip == 0) rfl (fun t67b => ?_) (fun t67b => ?_)
           ·
            have t67 : c.v.dip = 0 := by simpa using t67b
            refine WLr 1 [(66, .pointer (some ⟨g3, 10, none⟩))] (fun _ => by kernel_rfl) ?_
            refine WL.load 56 (.pointer (some ⟨g3, 10, none⟩)) (.int .u32 c.v.vip) 67 (by kernel_rfl) (run_ld (hC65.get 0 rfl) rfl) ?_
            refine WLr 3 [(70, .bool (c.v.vip == 0)), (69, .bool (c.v.vip == 0)), (68, .bool (c.v.vip == 0))] (fun _ => by kernel_rfl) ?_
            refine WLa 70 (c.v.vip == 0) rfl (fun t68b => ?_) (fun t68b => ?_)
            ·
             have t68 : c.v.vip = 0 := by simpa using t68b
             refine WLr 1 [(71, .pointer (some ⟨g3, 11, none⟩))] (fun _ => by kernel_rfl) ?_
             refine WL.load 4 (.pointer (some ⟨g3, 11, none⟩)) (.bool c.v.up) 72 (by kernel_rfl) (run_ld (hC65.get 0 rfl) rfl) ?_
             refine WLr 3 [(2, .bool !c.v.up), (74, .bool !c.v.up), (73, .bool !c.v.up)] (fun _ => by kernel_rfl) (WLd rfl (QXn (hK55 _ _ ?_)))
             refine WC.ret ?_
             refine QXk ?_
             refine QXr ?_
             refine (hret _ _ _ rfl ?_).1
             clear hN hret hret' hK55 hK52 hK50 hK48 hK37 hK11 hK9 hK2
             have hg_ : (!c.v.up : Bool) = goodC c.v := by
              rw [Bool.eq_iff_iff]
              (try simp only [noneS_eq] at *)
              unfold goodC goodK
              first | (simp_all; done) | (simp_all <;> omega)
             exact ⟨congrArg (fun b_ => Ending.returned (Value.bool b_)) hg_, hC65.fr⟩
            ·
             have t68 : ¬ (c.v.vip = 0) := by simpa using t68b
             refine WLr 5 [(2, .bool false), (74, .bool false), (73, undef), (72, undef), (71, undef)] (fun _ => by kernel_rfl) (WLd rfl (QXn (hK55 _ _ ?_)))
             refine WC.ret ?_
             refine QXk ?_
             refine QXr ?_
             refine (hret _ _ _ rfl ?_).1
             clear hN hret hret' hK55 hK52 hK50 hK48 hK37 hK11 hK9 hK2
             have hg_ : (false : Bool) = goodC c.v := by
              rw [Bool.eq_iff_iff]
              (try simp only [noneS_eq] at *)
              unfold goodC goodK
              first | (simp_all; done) | (simp_all <;> omega)
             exact ⟨congrArg (fun b_ => Ending.returned (Value.bool b_)) hg_, hC65.fr⟩
           ·
            have t67 : ¬ (c.v.dip = 0) := by simpa using t67b
            refine WLr 10 [(2, .bool false), (74, .bool false), (73, undef), (72, undef), (71, undef), (70, .bool false), (69, .bool false), (68, undef), (67, undef), (66, undef)] (fun _ => by kernel_rfl) (WLd rfl (QXn (hK55 _ _ ?_)))
            refine WC.ret ?_
            refine QXk ?_
            refine QXr ?_
            refine (hret _ _ _ rfl ?_).1
            clear hN hret hret' hK55 hK52 hK50 hK48 hK37 hK11 hK9 hK2
            have hg_ : (false : Bool) = goodC c.v := by
             rw [Bool.eq_iff_iff]
             (try simp only [noneS_eq] at *)
             unfold goodC goodK
             first | (simp_all; done) | (simp_all <;> omega)
            exact ⟨congrArg (fun b_ => Ending.returned (Value.bool b_)) hg_, hC65.fr⟩
          ·
           refine WLr 15 [(2, .bool false), (74, .bool false), (73, undef), (72, undef), (71, undef), (70, .bool false), (69, .bool false), (68, undef), (67, undef), (66, undef), (65, .bool false), (64, .bool false), (63, undef), (62, undef), (61, undef)] (fun _ => by kernel_rfl) (WLd rfl (QXn (hK55 _ _ ?_)))
           refine WC.ret ?_
           refine QXk ?_
           refine QXr ?_
           refine (hret _ _ _ rfl ?_).1
           clear hN hret hret' hK55 hK52 hK50 hK48 hK37 hK11 hK9 hK2
           have hg_ : (false : Bool) = goodC c.v := by
            rw [Bool.eq_iff_iff]
            (try simp only [noneS_eq] at *)
            unfold goodC goodK
            first | (simp_all; done) | (simp_all <;> omega)
           exact ⟨congrArg (fun b_ => Ending.returned (Value.bool b_)) hg_, hC65.fr⟩
         ·
          have t62 : (1023 : Int) < c.v.sport := by have q_ := of_decide_eq_false t62b; omega
          refine WLr 20 [(2, .bool false), (74, .bool false), (73, undef), (72, undef), (71, undef), (70, .bool false), (69, .bool false), (68, undef), (67, undef), (66, undef), (65, .bool false), (64, .bool false), (63, undef), (62, undef), (61, undef), (60, .bool false), (59, .bool false), (58, undef), (57, undef), (56, undef)] (fun _ => by kernel_rfl) (WLd rfl (QXn (hK55 _ _ ?_)))
          refine WC.ret ?_
          refine QXk ?_
          refine QXr ?_
          refine (hret _ _ _ rfl ?_).1
          clear hN hret hret' hK55 hK52 hK50 hK48 hK37 hK11 hK9 hK2
          have hg_ : (false : Bool) = goodC c.v := by
           rw [Bool.eq_iff_iff]
           (try simp only [noneS_eq] at *)
           unfold goodC goodK
           first | (simp_all; done) | (simp_all <;> omega)
          exact ⟨congrArg (fun b_ => Ending.returned (Value.bool b_)) hg_, hC58.fr⟩
        ·
         have t61 : c.v.sport < 1 := by have q_ := of_decide_eq_false t61b; omega
         refine WLr 25 [(2, .bool false), (74, .bool false), (73, undef), (72, undef), (71, undef), (70, .bool false), (69, .bool false), (68, undef), (67, undef), (66, undef), (65, .bool false), (64, .bool false), (63, undef), (62, undef), (61, undef), (60, .bool false), (59, .bool false), (58, undef), (57, undef), (56, undef), (55, .bool false), (54, .bool false), (53, undef), (52, undef), (51, undef)] (fun _ => by kernel_rfl) (WLd rfl (QXn (hK55 _ _ ?_)))
         refine WC.ret ?_
         refine QXk ?_
         refine QXr ?_
         refine (hret _ _ _ rfl ?_).1
         clear hN hret hret' hK55 hK52 hK50 hK48 hK37 hK11 hK9 hK2
         have hg_ : (false : Bool) = goodC c.v := by
          rw [Bool.eq_iff_iff]
          (try simp only [noneS_eq] at *)
          unfold goodC goodK
          first | (simp_all; done) | (simp_all <;> omega)
         exact ⟨congrArg (fun b_ => Ending.returned (Value.bool b_)) hg_, hC58.fr⟩
       ·
        have t60 : ¬ (c.v.sproto = 6) := by simpa using t60b
        refine WLr 1 [(40, .pointer (some ⟨g38, 1, none⟩))] (fun _ => by kernel_rfl) ?_
        refine WL.load 3 (.pointer (some ⟨g38, 1, none⟩)) (.int .i64 c.v.sproto) 41 (by kernel_rfl) (run_ld (hC58.get 1 rfl) rfl) ?_
        refine WLr 4 [(45, .bool (c.v.sproto == 17)), (44, .bool (c.v.sproto == 17)), (43, .bool (c.v.sproto == 17)), (42, .bool (c.v.sproto == 17))] (fun _ => by kernel_rfl) ?_
        refine WLa 45 (c.v.sproto == 17) rfl (fun t69b => ?_) (fun t69b => ?_)
        ·
         have t69 : c.v.sproto = 17 := by simpa using t69b
         refine WLr 1 [(46, .pointer (some ⟨g38, 2, none⟩))] (fun _ => by kernel_rfl) ?_
         refine WL.load 3 (.pointer (some ⟨g38, 2, none⟩)) (.int .i64 c.v.sport) 47 (by kernel_rfl) (run_ld (hC58.get 1 rfl) rfl) ?_
         refine WLr 3 [(50, .bool (decide (c.v.sport ≥ 1))), (49, .bool (decide (c.v.sport ≥ 1))), (48, .bool (decide (c.v.sport ≥ 1)))] (fun _ => by kernel_rfl) ?_
         refine WLa 50 (decide (c.v.sport ≥ 1)) rfl (fun t70b => ?_) (fun t70b => ?_)
         ·
          have t70 : (1 : Int) ≤ c.v.sport := by have q_ := of_decide_eq_true t70b; omega
          refine WLr 1 [(51, .pointer (some ⟨g38, 2, none⟩))] (fun _ => by kernel_rfl) ?_
          refine WL.load 3 (.pointer (some ⟨g38, 2, none⟩)) (.int .i64 c.v.sport) 52 (by kernel_rfl) (run_ld (hC58.get 1 rfl) rfl) ?_
          refine WLr 3 [(55, .bool (decide (c.v.sport ≤ 1023))), (54, .bool (decide (c.v.sport ≤ 1023))), (53, .bool (decide (c.v.sport ≤ 1023)))] (fun _ => by kernel_rfl) ?_
          refine WLa 55 (decide (c.v.sport ≤ 1023)) rfl (fun t71b => ?_) (fun t71b => ?_)
          ·
           have t71 : c.v.sport ≤ 1023 := by have q_ := of_decide_eq_true t71b; omega
           refine WLr 1 [(56, .pointer (some ⟨g38, 3, none⟩))] (fun _ => by kernel_rfl) ?_
           refine WL.load 57 (.pointer (some ⟨g38, 3, none⟩)) (.slice c.a c.v.ends.length c.c) 57 (by kernel_rfl) (run_ld (hC58.get 1 rfl) rfl) ?_
           refine WLc rfl rfl rfl rfl rfl (by kernel_rfl) (REnds_n c.a c.v.ends.length c.c c.v.ends w57 (Rd.fr h.rd hC58.fr) rfl h.wf.ends h.lim) ?_
           rintro _ w73 ⟨rfl, hF72⟩
           refine ⟨_, rfl, ?_⟩
           have hC74 := hC58.call hF72
           refine WLr 2 [(60, .bool (goodE c.v.ends)), (59, .bool (goodE c.v.ends))] (fun _ => by kernel_rfl) ?_
           refine WLa 60 (goodE c.v.ends) rfl (fun t75b => ?_) (fun t75b => ?_)
           ·
            refine WLr 1 [(61, .pointer (some ⟨g3, 9, none⟩))] (fun _ => by kernel_rfl) ?_
            refine WL.load 56 (.pointer (some ⟨g3, 9, none⟩)) (.int .u32 c.v.dip) 62 (by kernel_rfl) (run_ld (hC74.get 0 rfl) rfl) ?_
            refine WLr 3 [(65, .bool (c.v.dip == 0)), (64, .bool (c.v.dip == 0)), (63, .bool (c.v.dip == 0))] (fun _ => by kernel_rfl) ?_
            refine WLa 65 (c.v.dip == 0) rfl (fun t76b => ?_) (fun t76b => ?_)
            ·
             have t76 : c.v.dip = 0 := by simpa using t76b
             refine WLr 1 [(66, .pointer (some ⟨g3, 10, none⟩))] (fun _ => by kernel_rfl) ?_
             refine WL.load 56 (.pointer (some ⟨g3, 10, none⟩)) (.int .u32 c.v.vip) 67 (by kernel_rfl) (run_ld (hC74.get 0 rfl) rfl) ?_
             refine WLr 3 [(70, .bool (c.v.vip == 0)), (69, .bool (c.v.vip == 0)), (68, .bool (c.v.vip == 0))] (fun _ => by kernel_rfl) ?_
             refine WLa 70 (c.v.vip == 0) rfl (fun t77b => ?_) (fun t77b => ?_)
             ·
              have t77 : c.v.vip = 0 := by simpa using t77b
              refine WLr 1 [(71, .pointer (some ⟨g3, 11, none⟩))] (fun _ => by kernel_rfl) ?_
              refine WL.load 4 (.pointer (some ⟨g3, 11, none⟩)) (.bool c.v.up) 72 (by kernel_rfl) (run_ld (hC74.get 0 rfl) rfl) ?_
              refine WLr 3 [(2, .bool !c.v.up), (74, .bool !c.v.up), (73, .bool !c.v.up)] (fun _ => by kernel_rfl) (WLd rfl (QXn (hK55 _ _ ?_)))
              refine WC.ret ?_
              refine QXk ?_
              refine QXr ?_
              refine (hret _ _ _ rfl ?_).1
              clear hN hret hret' hK55 hK52 hK50 hK48 hK37 hK11 hK9 hK2
              have hg_ : (!c.v.up : Bool) = goodC c.v := by
               rw [Bool.eq_iff_iff]
               (try simp only [noneS_eq] at *)
               unfold goodC goodK
               first | (simp_all; done) | (simp_all <;> omega)
              exact ⟨congrArg (fun b_ => Ending.returned (Value.bool b_)) hg_, hC74.fr⟩
             ·
              have t77 : ¬ (c.v.vip = 0) := by simpa using t77b
              refine WLr 5 [(2, .bool false), (74, .bool false), (73, undef), (72, undef), (71, undef)] (fun _ => by kernel_rfl) (WLd rfl (QXn (hK55 _ _ ?_)))
              refine WC.ret ?_
              refine QXk ?_
              refine QXr ?_
              refine (hret _ _ _ rfl ?_).1
              clear hN hret hret' hK55 hK52 hK50 hK48 hK37 hK11 hK9 hK2
              have hg_ : (false : Bool) = goodC c.v := by
               rw [Bool.eq_iff_iff]
               (try simp only [noneS_eq] at *)
               unfold goodC goodK
               first | (simp_all; done) | (simp_all <;> omega)
              exact ⟨congrArg (fun b_ => Ending.returned (Value.bool b_)) hg_, hC74.fr⟩
            ·
             have t76 : ¬ (c.v.dip = 0) := by simpa using t76b
             refine WLr 10 [(2, .bool false), (74, .bool false), (73, undef), (72, undef), (71, undef), (70, .bool false), (69, .bool false), (68, undef), (67, undef), (66, undef)] (fun _ => by kernel_rfl) (WLd rfl (QXn (hK55 _ _ ?_)))
             refine WC.ret ?_
             refine QXk ?_
             refine QXr ?_
             refine (hret _ _ _ rfl ?_).1
             clear hN hret hret' hK55 hK52 hK50 hK48 hK37 hK11 hK9 hK2
             have hg_ : (false : Bool) = goodC c.v := by
              rw [Bool.eq_iff_iff]
              (try simp only [noneS_eq] at *)
              unfold goodC goodK
              first | (simp_all; done) | (simp_all <;> omega)
             exact ⟨congrArg (fun b_ => Ending.returned (Value.bool b_)) hg_, hC74.fr⟩
           ·
            refine WLr 15 [(2, .bool false), (74, .bool false), (73, undef), (72, undef), (71, undef), (70, .bool false), (69, .bool false), (68, undef), (67, undef), (66, undef), (65, .bool false), (64, .bool false), (63, undef), (62, undef), (61, undef)] (fun _ => by kernel_rfl) (WLd rfl (QXn (hK55 _ _ ?_)))
            refine WC.ret ?_
            refine QXk ?_
            refine QXr ?_
            refine (hret _ _ _ rfl ?_).1
            clear hN hret hret' hK55 hK52 hK50 hK48 hK37 hK11 hK9 hK2
            have hg_ : (false : Bool) = goodC c.v := by
             rw [Bool.eq_iff_iff]
             (try simp only [noneS_eq] at *)
             unfold goodC goodK
             first | (simp_all; done) | (simp_all <;> omega)
            exact ⟨congrArg (fun b_ => Ending.returned (Value.bool b_)) hg_, hC74.fr⟩
          ·
           have t71 : (1023 : Int) < c.v.sport := by have q_ := of_decide_eq_false t71b; omega
           refine WLr 20 [(2, .bool false), (74, .bool false), (73, undef), (72, undef), (71, undef), (70, .bool false), (69, .bool false), (68, undef), (67, undef), (66, undef), (65, .bool false), (64, .bool false), (63, undef), (62, undef), (61, undef), (60, .bool false), (59, .bool false), (58, undef), (57, undef), (56, undef)] (fun _ => by kernel_rfl) (WLd rfl (QXn (hK55 _ _ ?_)))
           refine WC.ret ?_
           refine QXk ?_
           refine QXr ?_
           refine (hret _ _ _ rfl ?_).1
           clear hN hret hret' hK55 hK52 hK50 hK48 hK37 hK11 hK9 hK2
           have hg_ : (false : Bool) = goodC c.v := by
            rw [Bool.eq_iff_iff]
            (try simp only [noneS_eq] at *)
            unfold goodC goodK
            first | (simp_all; done) | (simp_all <;> omega)
           exact ⟨congrArg (fun b_ => Ending.returned (Value.bool b_)) hg_, hC58.fr⟩
         ·
          have t70 : c.v.sport < 1 := by have q_ := of_decide_eq_false t70b; omega
          refine WLr 25 [(2, .bool false), (74, .bool false), (73, undef), (72, undef), (71, undef), (70, .bool false), (69, .bool false), (68, undef), (67, undef), (66, undef), (65, .bool false), (64, .bool false), (63, undef), (62, undef), (61, undef), (60, .bool false), (59, .bool false), (58, undef), (57, undef), (56, undef), (55, .bool false), (54, .bool false), (53, undef), (52, undef), (51, undef)] (fun _ => by kernel_rfl) (WLd rfl (QXn (hK55 _ _ ?_)))
          refine WC.ret ?_
          refine QXk ?_
          refine QXr ?_
          refine (hret _ _ _ rfl ?_).1
          clear hN hret hret' hK55 hK52 hK50 hK48 hK37 hK11 hK9 hK2
          have hg_ : (false : Bool) = goodC c.v := by
           rw [Bool.eq_iff_iff]
           (try simp only [noneS_eq] at *)
           unfold goodC goodK
           first | (simp_all; done) | (simp_all <;> omega)
          exact ⟨congrArg (fun b_ => Ending.returned (Value.bool b_)) hg_, hC58.fr⟩
        ·
         have t69 : ¬ (c.v.sproto = 17) := by simpa using t69b
         refine WLr 30 [(2, .bool false), (74, .bool false), (73, undef), (72, undef), (71, undef), (70, .bool false), (69, .bool false), (68, undef), (67, undef), (66, undef), (65, .bool false), (64, .bool false), (63, undef), (62, undef), (61, undef), (60, .bool false), (59, .bool false), (58, undef), (57, undef), (56, undef), (55, .bool false), (54, .bool false), (53, undef), (52, undef), (51, undef), (50, .bool false), (49, .bool false), (48, undef), (47, undef), (46, undef)] (fun _ => by kernel_rfl) (WLd rfl (QXn (hK55 _ _ ?_)))
         refine WC.ret ?_
         refine QXk ?_
         refine QXr ?_
         refine (hret _ _ _ rfl ?_).1
         clear hN hret hret' hK55 hK52 hK50 hK48 hK37 hK11 hK9 hK2
         have hg_ : (false : Bool) = goodC c.v := by
          rw [Bool.eq_iff_iff]
          (try simp only [noneS_eq] at *)
          unfold goodC goodK
          first | (simp_all; done) | (simp_all <;> omega)
         exact ⟨congrArg (fun b_ => Ending.returned (Value.bool b_)) hg_, hC58.fr⟩
      ·
       refine WLr 40 [(2, .bool false), (74, .bool false), (73, undef), (72, undef), (71, undef), (70, .bool false), (69, .bool false), (68, undef), (67, undef), (66, undef), (65, .bool false), (64, .bool false), (63, undef), (62, undef), (61, undef), (60, .bool false), (59, .bool false), (58, undef), (57, undef), (56, undef), (55, .bool false), (54, .bool false), (53, undef), (52, undef), (51, undef), (50, .bool false), (49, .bool false), (48, undef), (47, undef), (46, undef), (45, .bool false), (44, .bool false), (43, undef), (42, undef), (41, undef), (40, undef), (39, undef), (38, undef), (37, undef), (36, undef)] (fun _ => by kernel_rfl) (WLd rfl (QXn (hK55 _ _ ?_)))
       refine WC.ret ?_
       refine QXk ?_
       refine QXr ?_
       refine (hret _ _ _ rfl ?_).1
       clear hN hret hret' hK55 hK52 hK50 hK48 hK37 hK11 hK9 hK2
       have hg_ : (false : Bool) = goodC c.v := by
        rw [Bool.eq_iff_iff]
        (try simp only [noneS_eq] at *)
        unfold goodC goodK
        first | (simp_all; done) | (simp_all <;> omega)
       exact ⟨congrArg (fun b_ => Ending.returned (Value.bool b_)) hg_, hC58.fr⟩
     ·
      have t53 : ¬ (c.v.kind = 1) := by simpa using t53b
      refine WCf rfl ?_
      refine WCs (fun K78 hK79 => ?_)
      refine WCg (WLr 2 [(75, .bool (c.v.kind == 2)), (76, .bool (c.v.kind == 2))] (fun _ => by kernel_rfl) (WLd rfl (QXn (hK79 _ _ ?_))))
      refine WCa 75 (c.v.kind == 2) rfl (fun t80b => ?_) (fun t80b => ?_)
      ·
       have t80 : c.v.kind = 2 := by simpa using t80b
       refine WCt rfl ?_
       refine WCs (fun K81 hK82 => ?_)
       refine WCg ?_
       refine WL.load 59 (.pointer (some ⟨g38, 0, none⟩)) (.agg #[.int .u32 c.v.svip, .int .i64 c.v.sproto, .int .i64 c.v.sport, .slice c.a c.v.ends.length c.c]) 77 (by kernel_rfl) (run_ld (hC46.get 1 rfl) rfl) ?_
       refine WLc rfl rfl rfl rfl rfl (by kernel_rfl) (RNone_ct c.v.svip c.v.sproto c.v.sport c.a c.v.ends.length c.c w43) ?_
       rintro _ w84 ⟨rfl, hF83⟩
       refine ⟨_, rfl, ?_⟩
       have hC85 := hC46.call hF83
       refine WLr 1 [(79, .bool (decide (c.v.svip = 0 ∧ c.v.sproto = 0 ∧ c.v.sport = 0 ∧ c.v.ends.length = 0)))] (fun _ => by kernel_rfl) ?_
       refine WLa 79 (decide (c.v.svip = 0 ∧ c.v.sproto = 0 ∧ c.v.sport = 0 ∧ c.v.ends.length = 0)) rfl (fun t86b => ?_) (fun t86b => ?_)
       ·
        refine WLr 1 [(80, .pointer (some ⟨g3, 9, none⟩))] (fun _ => by kernel_rfl) ?_
        refine WL.load 56 (.pointer (some ⟨g3, 9, none⟩)) (.int .u32 c.v.dip) 81 (by kernel_rfl) (run_ld (hC85.get 0 rfl) rfl) ?_
        refine WLc rfl rfl rfl rfl rfl (by kernel_rfl) (RMach_ct c.v.dip w84 h.wf.dip.1 h.wf.dip.2) ?_
        rintro _ w88 ⟨rfl, hF87⟩
        refine ⟨_, rfl, ?_⟩
        have hC89 := hC85.call hF87
        refine WLr 2 [(84, .bool (isHome c.v.dip)), (83, .bool (isHome c.v.dip))] (fun _ => by kernel_rfl) ?_
        refine WLa 84 (isHome c.v.dip) rfl (fun t90b => ?_) (fun t90b => ?_)
        ·
         refine WLr 1 [(85, .pointer (some ⟨g3, 11, none⟩))] (fun _ => by kernel_rfl) ?_
         refine WL.load 4 (.pointer (some ⟨g3, 11, none⟩)) (.bool c.v.up) 86 (by kernel_rfl) (run_ld (hC89.get 0 rfl) rfl) ?_
         refine WLr 1 [(87, .bool c.v.up)] (fun _ => by kernel_rfl) ?_
         refine WLa 87 (c.v.up) rfl (fun t91b => ?_) (fun t91b => ?_)
         ·
          refine WLr 1 [(88, .pointer (some ⟨g3, 10, none⟩))] (fun _ => by kernel_rfl) ?_
          refine WL.load 56 (.pointer (some ⟨g3, 10, none⟩)) (.int .u32 c.v.vip) 89 (by kernel_rfl) (run_ld (hC89.get 0 rfl) rfl) ?_
          refine WLc rfl rfl rfl rfl rfl (by kernel_rfl) (IsVip2_ct c.v.vip w88 h.wf.vip.1 h.wf.vip.2) ?_
          rintro _ w93 ⟨rfl, hF92⟩
          refine ⟨_, rfl, ?_⟩
          have hC94 := hC89.call hF92
          refine WLr 2 [(92, .bool (isVip c.v.vip)), (91, .bool (isVip c.v.vip))] (fun _ => by kernel_rfl) ?_
          refine WLa 92 (isVip c.v.vip) rfl (fun t95b => ?_) (fun t95b => ?_)
          ·
           refine WLr 11 [(2, .bool true), (102, .bool true), (101, .bool true), (100, undef), (99, undef), (98, undef), (97, undef), (96, undef), (95, undef), (94, undef), (93, undef)] (fun _ => by kernel_rfl) (WLd rfl (QXn (hK82 _ _ ?_)))
           refine WC.ret ?_
           refine QXk ?_
           refine QXr ?_
           refine (hret _ _ _ rfl ?_).1
           clear hN hret hret' hK82 hK79 hK52 hK50 hK48 hK37 hK11 hK9 hK2
           have hg_ : (true : Bool) = goodC c.v := by
            rw [Bool.eq_iff_iff]
            (try simp only [noneS_eq] at *)
            unfold goodC goodK
            first | (simp_all; done) | (simp_all <;> omega)
           exact ⟨congrArg (fun b_ => Ending.returned (Value.bool b_)) hg_, hC94.fr⟩
          ·
           refine WLr 1 [(93, .pointer (some ⟨g3, 11, none⟩))] (fun _ => by kernel_rfl) ?_
           refine WL.load 4 (.pointer (some ⟨g3, 11, none⟩)) (.bool c.v.up) 94 (by kernel_rfl) (run_ld (hC94.get 0 rfl) rfl) ?_
           refine WLr 2 [(96, .bool !c.v.up), (95, .bool !c.v.up)] (fun _ => by kernel_rfl) ?_
           refine WLa 96 (!c.v.up) rfl (fun t96b => ?_) (fun t96b => ?_)
           ·
            have t96 : c.v.up = false := by first | (simpa only [Bool.not_eq_true', Bool.not_eq_false'] using t96b) | simpa using t96b
            refine WLr 1 [(97, .pointer (some ⟨g3, 10, none⟩))] (fun _ => by kernel_rfl) ?_
            refine WL.load 56 (.pointer (some ⟨g3, 10, none⟩)) (.int .u32 c.v.vip) 98 (by kernel_rfl) (run_ld (hC94.get 0 rfl) rfl) ?_
            refine WLr 5 [(2, .bool (c.v.vip == 0)), (102, .bool (c.v.vip == 0)), (101, .bool (c.v.vip == 0)), (100, .bool (c.v.vip == 0)), (99, .bool (c.v.vip == 0))] (fun _ => by kernel_rfl) (WLd rfl (QXn (hK82 _ _ ?_)))
            refine WC.ret ?_
            refine QXk ?_
            refine QXr ?_
            refine (hret _ _ _ rfl ?_).1
            clear hN hret hret' hK82 hK79 hK52 hK50 hK48 hK37 hK11 hK9 hK2
            have hg_ : ((c.v.vip == 0) : Bool) = goodC c.v := by
             rw [Bool.eq_iff_iff]
             (try simp only [noneS_eq] at *)
             unfold goodC goodK
             first | (simp_all; done) | (simp_all <;> omega)
            exact ⟨congrArg (fun b_ => Ending.returned (Value.bool b_)) hg_, hC94.fr⟩
           ·
            have t96 : c.v.up = true := by first | (simpa only [Bool.not_eq_true', Bool.not_eq_false'] using t96b) | simpa using t96b
            refine WLr 7 [(2, .bool false), (102, .bool false), (101, .bool false), (100, .bool false), (99, undef), (98, undef), (97, undef)] (fun _ => by kernel_rfl) (WLd rfl (QXn (hK82 _ _ ?_)))
            refine WC.ret ?_
            refine QXk ?_
            refine QXr ?_
            refine (hret _ _ _ rfl ?_).1
            clear hN hret hret' hK82 hK79 hK52 hK50 hK48 hK37 hK11 hK9 hK2
            have hg_ : (false : Bool) = goodC c.v := by
             rw [Bool.eq_iff_iff]
             (try simp only [noneS_eq] at *)
             unfold goodC goodK
             first | (simp_all; done) | (simp_all <;> omega)
            exact ⟨congrArg (fun b_ => Ending.returned (Value.bool b_)) hg_, hC94.fr⟩
         ·
          refine WLr 6 [(93, .pointer (some ⟨g3, 11, none⟩)), (92, .bool false), (91, .bool false), (90, undef), (89, undef), (88, undef)] (fun _ => by kernel_rfl) ?_
          refine WL.load 4 (.pointer (some ⟨g3, 11, none⟩)) (.bool c.v.up) 94 (by kernel_rfl) (run_ld (hC89.get 0 rfl) rfl) ?_
          refine WLr 2 [(96, .bool !c.v.up), (95, .bool !c.v.up)] (fun _ => by kernel_rfl) ?_
          refine WLa 96 (!c.v.up) rfl (fun t97b => ?_) (fun t97b => ?_)
          ·
           have t97 : c.v.up = false := by first | (simpa only [Bool.not_eq_true', Bool.not_eq_false'] using t97b) | simpa using t97b
           refine WLr 1 [(97, .pointer (some ⟨g3, 10, none⟩))] (fun _ => by kernel_rfl) ?_
           refine WL.load 56 (.pointer (some ⟨g3, 10, none⟩)) (.int .u32 c.v.vip) 98 (by kernel_rfl) (run_ld (hC89.get 0 rfl) rfl) ?_
           refine WLr 5 [(2, .bool (c.v.vip == 0)), (102, .bool (c.v.vip == 0)), (101, .bool (c.v.vip == 0)), (100, .bool (c.v.vip == 0)), (99, .bool (c.v.vip == 0))] (fun _ => by kernel_rfl) (WLd rfl (QXn (hK82 _ _ ?_)))
           refine WC.ret ?_
           refine QXk ?_
           refine QXr ?_
           refine (hret _ _ _ rfl ?_).1
           clear hN hret hret' hK82 hK79 hK52 hK50 hK48 hK37 hK11 hK9 hK2
           have hg_ : ((c.v.vip == 0) : Bool) = goodC c.v := by
            rw [Bool.eq_iff_iff]
            (try simp only [noneS_eq] at *)
            unfold goodC goodK
            first | (simp_all; done) | (simp_all <;> omega)
           exact ⟨congrArg (fun b_ => Ending.returned (Value.bool b_)) hg_, hC89.fr⟩
          ·
           have t97 : c.v.up = true := by first | (simpa only [Bool.not_eq_true', Bool.not_eq_false'] using t97b) | simpa using t97b
           refine WLr 7 [(2, .bool false), (102, .bool false), (101, .bool false), (100, .bool false), (99, undef), (98, undef), (97, undef)] (fun _ => by kernel_rfl) (WLd rfl (QXn (hK82 _ _ ?_)))
           refine WC.ret ?_
           refine QXk ?_
           refine QXr ?_
           refine (hret _ _ _ rfl ?_).1
           clear hN hret hret' hK82 hK79 hK52 hK50 hK48 hK37 hK11 hK9 hK2
           have hg_ : (false : Bool) = goodC c.v := by
            rw [Bool.eq_iff_iff]
            (try simp only [noneS_eq] at *)
            unfold goodC goodK
            first | (simp_all; done) | (simp_all <;> omega)
           exact ⟨congrArg (fun b_ => Ending.returned (Value.bool b_)) hg_, hC89.fr⟩
        ·
         refine WLr 19 [(2, .bool false), (102, .bool false), (101, undef), (100, undef), (99, undef), (98, undef), (97, undef), (96, undef), (95, undef), (94, undef), (93, undef), (92, undef), (91, undef), (90, undef), (89, undef), (88, undef), (87, undef), (86, undef), (85, undef)] (fun _ => by kernel_rfl) (WLd rfl (QXn (hK82 _ _ ?_)))
         refine WC.ret ?_
         refine QXk ?_
         refine QXr ?_
         refine (hret _ _ _ rfl ?_).1
         clear hN hret hret' hK82 hK79 hK52 hK50 hK48 hK37 hK11 hK9 hK2
         have hg_ : (false : Bool) = goodC c.v := by
          rw [Bool.eq_iff_iff]
          (try simp only [noneS_eq] at *)
          unfold goodC goodK
          first | (simp_all; done) | (simp_all <;> omega)
         exact ⟨congrArg (fun b_ => Ending.returned (Value.bool b_)) hg_, hC89.fr⟩
       ·
        refine WLr 24 [(2, .bool false), (102, .bool false), (101, undef), (100, undef), (99, undef), (98, undef), (97, undef), (96, undef), (95, undef), (94, undef), (93, undef), (92, undef), (91, undef), (90, undef), (89, undef), (88, undef), (87, undef), (86, undef), (85, undef), (84, .bool false), (83, .bool false), (82, undef), (81, undef), (80, undef)] (fun _ => by kernel_rfl) (WLd rfl (QXn (hK82 _ _ ?_)))
        refine WC.ret ?_
        refine QXk ?_
        refine QXr ?_
        refine (hret _ _ _ rfl ?_).1
        clear hN hret hret' hK82 hK79 hK52 hK50 hK48 hK37 hK11 hK9 hK2
        have hg_ : (false : Bool) = goodC c.v := by
         rw [Bool.eq_iff_iff]
         (try simp only [noneS_eq] at *)
         unfold goodC goodK
         first | (simp_all; done) | (simp_all <;> omega)
        exact ⟨congrArg (fun b_ => Ending.returned (Value.bool b_)) hg_, hC85.fr⟩
      ·
       have t80 : ¬ (c.v.kind = 2) := by simpa using t80b
       refine WCf rfl ?_
       refine WCs (fun K98 hK99 => ?_)
       refine WCg (WLr 2 [(103, .bool (c.v.kind == 3)), (104, .bool (c.v.kind == 3))] (fun _ => by kernel_rfl) (WLd rfl (QXn (hK99 _ _ ?_))))
       refine WCa 103 (c.v.kind == 3) rfl (fun t100b => ?_) (fun t100b => ?_)
       ·
        have t100 : c.v.kind = 3 := by simpa using t100b
        refine WCt rfl ?_
        refine WCs (fun K101 hK102 => ?_)
        refine WCg ?_
        refine WL.load 59 (.pointer (some ⟨g38, 0, none⟩)) (.agg #[.int .u32 c.v.svip, .int .i64 c.v.sproto, .int .i64 c.v.sport, .slice c.a c.v.ends.length c.c]) 105 (by kernel_rfl) (run_ld (hC46.get 1 rfl) rfl) ?_
        refine WLc rfl rfl rfl rfl rfl (by kernel_rfl) (RNone_ct c.v.svip c.v.sproto c.v.sport c.a c.v.ends.length c.c w43) ?_
        rintro _ w104 ⟨rfl, hF103⟩
        refine ⟨_, rfl, ?_⟩
        have hC105 := hC46.call hF103
        refine WLr 1 [(107, .bool (decide (c.v.svip = 0 ∧ c.v.sproto = 0 ∧ c.v.sport = 0 ∧ c.v.ends.length = 0)))] (fun _ => by kernel_rfl) ?_
        refine WLa 107 (decide (c.v.svip = 0 ∧ c.v.sproto = 0 ∧ c.v.sport = 0 ∧ c.v.ends.length = 0)) rfl (fun t106b => ?_) (fun t106b => ?_)
        ·
         refine WLr 1 [(108, .pointer (some ⟨g3, 9, none⟩))] (fun _ => by kernel_rfl) ?_
         refine WL.load 56 (.pointer (some ⟨g3, 9, none⟩)) (.int .u32 c.v.dip) 109 (by kernel_rfl) (run_ld (hC105.get 0 rfl) rfl) ?_
         refine WLc rfl rfl rfl rfl rfl (by kernel_rfl) (RMach_ct c.v.dip w104 h.wf.dip.1 h.wf.dip.2) ?_
         rintro _ w108 ⟨rfl, hF107⟩
         refine ⟨_, rfl, ?_⟩
         have hC109 := hC105.call hF107
         refine WLr 2 [(112, .bool (isHome c.v.dip)), (111, .bool (isHome c.v.dip))] (fun _ => by kernel_rfl) ?_
         refine WLa 112 (isHome c.v.dip) rfl (fun t110b => ?_) (fun t110b => ?_)
         ·
          refine WLr 1 [(113, .pointer (some ⟨g3, 10, none⟩))] (fun _ => by kernel_rfl) ?_
          refine WL.load 56 (.pointer (some ⟨g3, 10, none⟩)) (.int .u32 c.v.vip) 114 (by kernel_rfl) (run_ld (hC109.get 0 rfl) rfl) ?_
          refine WLr 3 [(2, .bool (c.v.vip == 0)), (116, .bool (c.v.vip == 0)), (115, .bool (c.v.vip == 0))] (fun _ => by kernel_rfl) (WLd rfl (QXn (hK102 _ _ ?_)))
          refine WC.ret ?_
          refine QXk ?_
          refine QXr ?_
          refine (hret _ _ _ rfl ?_).1
          clear hN hret hret' hK102 hK99 hK79 hK52 hK50 hK48 hK37 hK11 hK9 hK2
          have hg_ : ((c.v.vip == 0) : Bool) = goodC c.v := by
           rw [Bool.eq_iff_iff]
           (try simp only [noneS_eq] at *)
           unfold goodC goodK
           first | (simp_all; done) | (simp_all <;> omega)
          exact ⟨congrArg (fun b_ => Ending.returned (Value.bool b_)) hg_, hC109.fr⟩
         ·
          refine WLr 5 [(2, .bool false), (116, .bool false), (115, undef), (114, undef), (113, undef)] (fun _ => by kernel_rfl) (WLd rfl (QXn (hK102 _ _ ?_)))
          refine WC.ret ?_
          refine QXk ?_
          refine QXr ?_
          refine (hret _ _ _ rfl ?_).1
          clear hN hret hret' hK102 hK99 hK79 hK52 hK50 hK48 hK37 hK11 hK9 hK2
          have hg_ : (false : Bool) = goodC c.v := by
           rw [Bool.eq_iff_iff]
           (try simp only [noneS_eq] at *)
           unfold goodC goodK
           first | (simp_all; done) | (simp_all <;> omega)
          exact ⟨congrArg (fun b_ => Ending.returned (Value.bool b_)) hg_, hC109.fr⟩
        ·
         refine WLr 10 [(2, .bool false), (116, .bool false), (115, undef), (114, undef), (113, undef), (112, .bool false), (111, .bool false), (110, undef), (109, undef), (108, undef)] (fun _ => by kernel_rfl) (WLd rfl (QXn (hK102 _ _ ?_)))
         refine WC.ret ?_
         refine QXk ?_
         refine QXr ?_
         refine (hret _ _ _ rfl ?_).1
         clear hN hret hret' hK102 hK99 hK79 hK52 hK50 hK48 hK37 hK11 hK9 hK2
         have hg_ : (false : Bool) = goodC c.v := by
          rw [Bool.eq_iff_iff]
          (try simp only [noneS_eq] at *)
          unfold goodC goodK
          first | (simp_all; done) | (simp_all <;> omega)
         exact ⟨congrArg (fun b_ => Ending.returned (Value.bool b_)) hg_, hC105.fr⟩
       ·
        have t100 : ¬ (c.v.kind = 3) := by simpa using t100b
        refine WCf rfl ?_
        refine WCs (fun K111 hK112 => ?_)
        refine WCg (WLr 2 [(117, .bool (c.v.kind == 4)), (118, .bool (c.v.kind == 4))] (fun _ => by kernel_rfl) (WLd rfl (QXn (hK112 _ _ ?_))))
        refine WCa 117 (c.v.kind == 4) rfl (fun t113b => ?_) (fun t113b => ?_)
        ·
         have t113 : c.v.kind = 4 := by simpa using t113b
         refine WCt rfl ?_
         refine WCs (fun K114 hK115 => ?_)
         refine WCg ?_
         refine WL.load 59 (.pointer (some ⟨g38, 0, none⟩)) (.agg #[.int .u32 c.v.svip, .int .i64 c.v.sproto, .int .i64 c.v.sport, .slice c.a c.v.ends.length c.c]) 119 (by kernel_rfl) (run_ld (hC46.get 1 rfl) rfl) ?_
         refine WLc rfl rfl rfl rfl rfl (by kernel_rfl) (RNone_ct c.v.svip c.v.sproto c.v.sport c.a c.v.ends.length c.c w43) ?_
         rintro _ w117 ⟨rfl, hF116⟩
         refine ⟨_, rfl, ?_⟩
         have hC118 := hC46.call hF116
         refine WLr 1 [(121, .bool (decide (c.v.svip = 0 ∧ c.v.sproto = 0 ∧ c.v.sport = 0 ∧ c.v.ends.length = 0)))] (fun _ => by kernel_rfl) ?_
         refine WLa 121 (decide (c.v.svip = 0 ∧ c.v.sproto = 0 ∧ c.v.sport = 0 ∧ c.v.ends.length = 0)) rfl (fun t119b => ?_) (fun t119b => ?_)
         ·
          refine WLr 1 [(122, .pointer (some ⟨g3, 9, none⟩))] (fun _ => by kernel_rfl) ?_
          refine WL.load 56 (.pointer (some ⟨g3, 9, none⟩)) (.int .u32 c.v.dip) 123 (by kernel_rfl) (run_ld (hC118.get 0 rfl) rfl) ?_
          refine WLc rfl rfl rfl rfl rfl (by kernel_rfl) (RMach_ct c.v.dip w117 h.wf.dip.1 h.wf.dip.2) ?_
          rintro _ w121 ⟨rfl, hF120⟩
          refine ⟨_, rfl, ?_⟩
          have hC122 := hC118.call hF120
          refine WLr 2 [(126, .bool (isHome c.v.dip)), (125, .bool (isHome c.v.dip))] (fun _ => by kernel_rfl) ?_
          refine WLa 126 (isHome c.v.dip) rfl (fun t123b => ?_) (fun t123b => ?_)
          ·
           refine WLr 1 [(127, .pointer (some ⟨g3, 10, none⟩))] (fun _ => by kernel_rfl) ?_
           refine WL.load 56 (.pointer (some ⟨g3, 10, none⟩)) (.int .u32 c.v.vip) 128 (by kernel_rfl) (run_ld (hC122.get 0 rfl) rfl) ?_
           refine WLr 3 [(131, .bool (c.v.vip == 0)), (130, .bool (c.v.vip == 0)), (129, .bool (c.v.vip == 0))] (fun _ => by kernel_rfl) ?_
           refine WLa 131 (c.v.vip == 0) rfl (fun t124b => ?_) (fun t124b => ?_)
           ·
            have t124 : c.v.vip = 0 := by simpa using t124b
            refine WLr 1 [(132, .pointer (some ⟨g3, 11, none⟩))] (fun _ => by kernel_rfl) ?_
            refine WL.load 4 (.pointer (some ⟨g3, 11, none⟩)) (.bool c.v.up) 133 (by kernel_rfl) (run_ld (hC122.get 0 rfl) rfl) ?_
            refine WLr 3 [(2, .bool !c.v.up), (135, .bool !c.v.up), (134, .bool !c.v.up)] (fun _ => by kernel_rfl) (WLd rfl (QXn (hK115 _ _ ?_)))
            refine WC.ret ?_
            refine QXk ?_
            refine QXr ?_
            refine (hret _ _ _ rfl ?_).1
            clear hN hret hret' hK115 hK112 hK99 hK79 hK52 hK50 hK48 hK37 hK11 hK9 hK2
            have hg_ : (!c.v.up : Bool) = goodC c.v := by
             rw [Bool.eq_iff_iff]
             (try simp only [noneS_eq] at *)
             unfold goodC goodK
             first | (simp_all; done) | (simp_all <;> omega)
            exact ⟨congrArg (fun b_ => Ending.returned (Value.bool b_)) hg_, hC122.fr⟩
           ·
            have t124 : ¬ (c.v.vip = 0) := by simpa using t124b
            refine WLr 5 [(2, .bool false), (135, .bool false), (134, undef), (133, undef), (132, undef)] (fun _ => by kernel_rfl) (WLd rfl (QXn (hK115 _ _ ?_)))
            refine WC.ret ?_
            refine QXk ?_
            refine QXr ?_
            refine (hret _ _ _ rfl ?_).1
            clear hN hret hret' hK115 hK112 hK99 hK79 hK52 hK50 hK48 hK37 hK11 hK9 hK2
            have hg_ : (false : Bool) = goodC c.v := by
             rw [Bool.eq_iff_iff]
             (try simp only [noneS_eq] at *)
             unfold goodC goodK
             first | (simp_all; done) | (simp_all <;> omega)
            exact ⟨congrArg (fun b_ => Ending.returned (Value.bool b_)) hg_, hC122.fr⟩
          ·
           refine WLr 10 [(2, .bool false), (135, .bool false), (134, undef), (133, undef), (132, undef), (131, .bool false), (130, .bool false), (129, undef), (128, undef), (127, undef)] (fun _ => by kernel_rfl) (WLd rfl (QXn (hK115 _ _ ?_)))
           refine WC.ret ?_
           refine QXk ?_
           refine QXr ?_
           refine (hret _ _ _ rfl ?_).1
           clear hN hret hret' hK115 hK112 hK99 hK79 hK52 hK50 hK48 hK37 hK11 hK9 hK2
           have hg_ : (false : Bool) = goodC c.v := by
            rw [Bool.eq_iff_iff]
            (try simp only [noneS_eq] at *)
            unfold goodC goodK
            first | (simp_all; done) | (simp_all <;> omega)
           exact ⟨congrArg (fun b_ => Ending.returned (Value.bool b_)) hg_, hC122.fr⟩
         ·
          refine WLr 15 [(2, .bool false), (135, .bool false), (134, undef), (133, undef), (132, undef), (131, .bool false), (130, .bool false), (129, undef), (128, undef), (127, undef), (126, .bool false), (125, .bool false), (124, undef), (123, undef), (122, undef)] (fun _ => by kernel_rfl) (WLd rfl (QXn (hK115 _ _ ?_)))
          refine WC.ret ?_
          refine QXk ?_
          refine QXr ?_
          refine (hret _ _ _ rfl ?_).1
          clear hN hret hret' hK115 hK112 hK99 hK79 hK52 hK50 hK48 hK37 hK11 hK9 hK2
          have hg_ : (false : Bool) = goodC c.v := by
           rw [Bool.eq_iff_iff]
           (try simp only [noneS_eq] at *)
           unfold goodC goodK
           first | (simp_all; done) | (simp_all <;> omega)
          exact ⟨congrArg (fun b_ => Ending.returned (Value.bool b_)) hg_, hC118.fr⟩
        ·
         have t113 : ¬ (c.v.kind = 4) := by simpa using t113b
         refine WCf rfl (WC.skip ?_)
         refine QXb ?_
         refine QXn (hK48 _ _ ?_)
         refine WCs (fun K125 hK126 => ?_)
         refine WCg (WLr 1 [(2, .bool false)] (fun _ => by kernel_rfl) (WLd rfl (QXn (hK126 _ _ ?_))))
         refine WC.ret ?_
         refine (hret _ _ _ rfl ?_).1
         clear hN hret hret' hK126 hK112 hK99 hK79 hK52 hK50 hK48 hK37 hK11 hK9 hK2
         have hg_ : (false : Bool) = goodC c.v := by
          rw [Bool.eq_iff_iff]
          (try simp only [noneS_eq] at *)
          unfold goodC goodK
          first | (simp_all; done) | (simp_all <;> omega)
         exact ⟨congrArg (fun b_ => Ending.returned (Value.bool b_)) hg_, hC46.fr⟩

end Go.Proofs.Ytjacpjdikhlcoaa
